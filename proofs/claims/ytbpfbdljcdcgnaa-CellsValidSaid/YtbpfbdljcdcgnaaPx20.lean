/- Walks of functions of this seat, written by a program of this workplace out of the translation. -/
import Derived.Test.YtbpfbdljcdcgnaaPx0
import Derived.Test.YtbpfbdljcdcgnaaPx5
import Derived.Test.YtbpfbdljcdcgnaaPx6
import Derived.Test.YtbpfbdljcdcgnaaPx15
namespace Go.Proofs.Ytbpfbdljcdcgnaa.Px
open Go.RowKit Go.Proofs.YtbpfbdljcdcgnaaW.PrintWords Go.Proofs.YtbpfbdljcdcgnaaW.PrintLast Go.Proofs.YtbpfbdljcdcgnaaW.PrintMore
attribute [local go_sem] max2_int min2_int max_two min_two max_three min_three max_four min_four   -- for this text's walks alone
set_option linter.unusedVariables false
set_option linter.unusedSimpArgs false

-- NOT PRINTED: function 68 (api_Use_68)

-- NOT PRINTED: function 53 (cells_use_53)

-- NOT PRINTED: function 70 (api_Grant_70)

-- NOT PRINTED: function 55 (cells_grant_55)

/-! ### cells_Drop: function 21 -/
def cells_Drop.f (l0_0 : List (S32)) (l0_1 : List (S34)) (l0_2 : List (S51)) (a1_0 : Int) (a1_1 : Int) : Option (List (S32) × List (S34) × List (S51)) := if l0_0.length < 4398046511104 ∧ l0_1.length < 3518437208883 ∧ l0_2.length < 5864062014805 then some ((l0_0.filter fun x => !dcl32 a1_0 a1_1 x), (l0_1.filter fun x => !dcl34 a1_0 a1_1 x), (l0_2.filter fun x => !dcl51 a1_0 a1_1 x)) else none
set_option maxHeartbeats 4000000 in
set_option maxRecDepth 100000 in
theorem cells_Drop.calls (A0_0 : Option Addr) (c0_0 : Nat) (l0_0 : List (S32)) (A0_1 : Option Addr) (c0_1 : Nat) (l0_1 : List (S34)) (A0_2 : Option Addr) (c0_2 : Nat) (l0_2 : List (S51)) (a1_0 : Int) (a1_1 : Int) (r1 : List (S32)) (r2 : List (S34)) (r3 : List (S51)) (w : World) (hr0_0 : Kd.C k32 w A0_0 l0_0.length l0_0) (hc0_0 : l0_0.length ≤ c0_0) (hr0_1 : Kd.C k34 w A0_1 l0_1.length l0_1) (hc0_1 : l0_1.length ≤ c0_1) (hr0_2 : Kd.C k51 w A0_2 l0_2.length l0_2) (hc0_2 : l0_2.length ≤ c0_2) (h : cells_Drop.f l0_0 l0_1 l0_2 a1_0 a1_1 = some (r1, r2, r3)) :
  Calls Try.prog 21 #[.agg #[.slice A0_0 l0_0.length c0_0, .slice A0_1 l0_1.length c0_1, .slice A0_2 l0_2.length c0_2], .agg #[.int .i64 a1_0, .int .i64 a1_1]] w fun e w' => ∃ v0_ v1_ v2_ : Value, e = .returned (.agg #[v0_, v1_, v2_]) ∧ Kd.R k32 32 w' w.heap.size (fun _ => True) v0_ r1 ∧ Kd.R k34 34 w' w.heap.size (fun _ => True) v1_ r2 ∧ Kd.R k51 51 w' w.heap.size (fun _ => True) v2_ r3 ∧ Below w.heap.size w w' := by
 have HLL : l0_0.length < 4398046511104 ∧ l0_1.length < 3518437208883 ∧ l0_2.length < 5864062014805 := by
  unfold cells_Drop.f at h
  by_cases hl : l0_0.length < 4398046511104 ∧ l0_1.length < 3518437208883 ∧ l0_2.length < 5864062014805
  ·exact hl
  rw [if_neg hl] at h; exact absurd h (by simp)
 obtain ⟨rfl, rfl, rfl⟩ : (l0_0.filter fun x => !dcl32 a1_0 a1_1 x) = r1 ∧ (l0_1.filter fun x => !dcl34 a1_0 a1_1 x) = r2 ∧ (l0_2.filter fun x => !dcl51 a1_0 a1_1 x) = r3 := by unfold cells_Drop.f at h; rw [if_pos HLL] at h; simpa using h
 clear h
 have hu26 := Try.underlying26
 have HR0 := Aside0.mk hr0_0
 have HR1 := Aside0.mk hr0_1
 have HR2 := Aside0.mk hr0_2
 have HC0 := Aside0.mk hc0_0
 have HC1 := Aside0.mk hc0_1
 have HC2 := Aside0.mk hc0_2
 have HL0 := Aside0.mk HLL.1
 have HL1 := Aside0.mk HLL.2.1
 have HL2 := Aside0.mk HLL.2.2
 have HB0 := Aside0.mk (Below.refl w.heap.size w)
 have hmf : ∀ (fn : Fn) (first cap : Array Value) (w : World), (Instr.makeFunc fn first cap).run Try.prog w = .ok (.func fn first cap) w := fun _ _ _ _ => rfl
 clear hr0_0 hr0_1 hr0_2 hc0_0 hc0_1 hc0_2 HLL
 go_enter Try.func21, Try.ntmps21
 go_wp2_with (first
  | ((with_reducible refine gate_dst (N := 2) rfl ?_); refine bE (N := 2) (cs := #[.slice A0_0 l0_0.length c0_0, .slice A0_1 l0_1.length c0_1, .slice A0_2 l0_2.length c0_2]) (t := 26) ?_; intro g2 hg w1 hbox hb; have X2 := Aside0.mk hbox; have HB1 := Aside0.mk (below_step HB0.out hb); clear hb hbox hg)
  | ((with_reducible refine gate_dst (N := 3) rfl ?_); refine bE (N := 3) (cs := #[.int .i64 a1_0, .int .i64 a1_1]) (t := 30) ?_; intro g3 hg w2 hbox hb; have X3 := Aside0.mk hbox; have X2' := Aside0.mk (blk_below X2.out hb); clear X2; have X2 := X2'; clear X2'; have HB2 := Aside0.mk (below_step HB1.out hb); clear hb hbox hg)
  | ((with_reducible refine gate_dst (N := 4) rfl ?_); refine bE (N := 4) (cs := #[.slice none 0 0, .slice none 0 0, .slice none 0 0]) (t := 26) ?_; intro g4 hg w3 hbox hb; have GE4 := Aside0.mk ((by rw [hg]; exact HB2.out.size) : w.heap.size ≤ g4); have X4 := Aside0.mk hbox; have X2' := Aside0.mk (blk_below X2.out hb); clear X2; have X2 := X2'; clear X2'; have X3' := Aside0.mk (blk_below X3.out hb); clear X3; have X3 := X3'; clear X3'; have HB3 := Aside0.mk (below_step HB2.out hb); clear hb hbox hg))
 have X2d := Aside0.mk (blk_drew X2.out)
 have X3d := Aside0.mk (blk_drew X3.out)
 have X4d := Aside0.mk (blk_drew X4.out)
 have HBd := Aside0.mk (below_drew1 HB3.out)
 refine start_ (n := 14) (S := fun w' => w'.cell? ⟨g2, 0, none⟩ = some (.slice A0_0 l0_0.length c0_0) ∧ w'.cell? ⟨g2, 1, none⟩ = some (.slice A0_1 l0_1.length c0_1) ∧ w'.cell? ⟨g2, 2, none⟩ = some (.slice A0_2 l0_2.length c0_2)) (ds := [13]) #[false, false, false, false, false, false, false, false, false, false, false, false, false, false] (by kernel_rfl) rfl rfl ⟨blk_cell' X2d.out 0 _ rfl, blk_cell' X2d.out 1 _ rfl, blk_cell' X2d.out 2 _ rfl⟩ (fun hHeld => ?_)
 refine run_ [(0, some 5), (2, some 7), (4, some 9), (6, some 11), (8, some 13), (10, some 15), (1, some 6), (5, some 10), (9, some 14)] ?_
 iterate 6 (refine runP (v := ?_) (a' := ?_) rfl rfl (by kernel_rfl) (fun _ _ _ h => h) (Or.inl ⟨by rfl, ?_⟩) ?_ ?_; rotate_left; (· intro w'; go_simp; with_reducible rfl); rotate_left; (· simp only [Act.put, List.setIfInBounds_toArray, List.set_cons_zero, List.set_cons_succ, i64_w, i32_w]; rfl))
 iterate 3 (refine runT (v := ?_) (a' := ?_) rfl rfl (by kernel_rfl) (fun _ _ _ h => h) (Or.inl ⟨by rfl, ?_⟩) hHeld ?_ ?_; rotate_left; (· rintro w' ⟨s0, s1, s2⟩; go_simp; with_reducible rfl); rotate_left; (· simp only [Act.put, List.setIfInBounds_toArray, List.set_cons_zero, List.set_cons_succ, i64_w, i32_w]; rfl))
 refine runE ?_
 refine one_ (i := 3) (N := some 8) #[true, true, true, true, true, true, true, false, true, true, true, false, false, false] rfl rfl (by kernel_rfl) (by decide) (fun K hK => ?_)
 refine gO Try.func53 #[.slice A0_0 l0_0.length c0_0, .func (.func 31) #[] #[], .func (.func 54) #[] #[.pointer (some ⟨g3, 0, none⟩)]] ?_
 have HK_ := wo32 54 #[.pointer (some ⟨g3, 0, none⟩)] (dcl32 a1_0 a1_1) A0_0 c0_0 l0_0 _ (Kd.C_below HR0.out HBd.out) HC0.out HL0.out (enters_of Try.func54 (by kernel_rfl) rfl) (fun W x hW => dcl32.calls a1_0 a1_1 x g3 W (blk_below X3d.out hW))
 with_reducible refine HK_.mono ?_
 clear HK_
 rintro e wa ⟨v0, rfl, hr, hb⟩
 refine ⟨_, rfl, ?_⟩
 obtain ⟨A0, c0, e0⟩ := Kd.R_slice hr
 subst e0
 have X2a := Aside0.mk (blk_below X2d.out hb)
 have X3a := Aside0.mk (blk_below X3d.out hb)
 have X4a := Aside0.mk (blk_below X4d.out hb)
 have HBa := Aside0.mk (below_step HBd.out hb)
 have HO0_a := Aside0.mk (Kd.R_lower hr HBd.out.size)
 clear hr hb
 refine hK.out _ _ ⟨blk_cell' X2a.out 0 _ rfl, blk_cell' X2a.out 1 _ rfl, blk_cell' X2a.out 2 _ rfl⟩ (fun hHeld => ?_)
 clear hK K
 refine norm_ (a' := ?_) ?_ ?_
 rotate_left
 ·show Act.put _ (some 8) _ = _
  simp only [Act.put, List.setIfInBounds_toArray, List.set_cons_zero, List.set_cons_succ, i64_w, i32_w]
  rfl
 refine one_ (i := 7) (N := some 12) #[true, true, true, true, true, true, true, true, true, true, true, false, false, false] rfl rfl (by kernel_rfl) (by decide) (fun K hK => ?_)
 refine gO Try.func55 #[.slice A0_1 l0_1.length c0_1, .func (.func 38) #[] #[], .func (.func 56) #[] #[.pointer (some ⟨g3, 0, none⟩)]] ?_
 have HK_ := wo34 56 #[.pointer (some ⟨g3, 0, none⟩)] (dcl34 a1_0 a1_1) A0_1 c0_1 l0_1 _ (Kd.C_below HR1.out HBa.out) HC1.out HL1.out (enters_of Try.func56 (by kernel_rfl) rfl) (fun W x hW => dcl34.calls a1_0 a1_1 x g3 W (blk_below X3a.out hW))
 with_reducible refine HK_.mono ?_
 clear HK_
 rintro e wb ⟨v1, rfl, hr, hb⟩
 refine ⟨_, rfl, ?_⟩
 obtain ⟨A1, c1, e1⟩ := Kd.R_slice hr
 subst e1
 have X2b := Aside0.mk (blk_below X2a.out hb)
 have X3b := Aside0.mk (blk_below X3a.out hb)
 have X4b := Aside0.mk (blk_below X4a.out hb)
 have HBb := Aside0.mk (below_step HBa.out hb)
 have HO0_b := Aside0.mk (Kd.R_below HO0_a.out hb)
 have HO1_b := Aside0.mk (Kd.R_lower hr HBa.out.size)
 clear hr hb
 refine hK.out _ _ ⟨blk_cell' X2b.out 0 _ rfl, blk_cell' X2b.out 1 _ rfl, blk_cell' X2b.out 2 _ rfl⟩ (fun hHeld => ?_)
 clear hK K
 refine norm_ (a' := ?_) ?_ ?_
 rotate_left
 ·show Act.put _ (some 12) _ = _
  simp only [Act.put, List.setIfInBounds_toArray, List.set_cons_zero, List.set_cons_succ, i64_w, i32_w]
  rfl
 refine one_ (i := 11) (N := some 16) #[true, true, true, true, true, true, true, true, true, true, true, true, false, false] rfl rfl (by kernel_rfl) (by decide) (fun K hK => ?_)
 refine gO Try.func57 #[.slice A0_2 l0_2.length c0_2, .func (.func 46) #[] #[], .func (.func 58) #[] #[.pointer (some ⟨g3, 0, none⟩)]] ?_
 have HK_ := wo51 58 #[.pointer (some ⟨g3, 0, none⟩)] (dcl51 a1_0 a1_1) A0_2 c0_2 l0_2 _ (Kd.C_below HR2.out HBb.out) HC2.out HL2.out (enters_of Try.func58 (by kernel_rfl) rfl) (fun W x hW => dcl51.calls a1_0 a1_1 x g3 W (blk_below X3b.out hW))
 with_reducible refine HK_.mono ?_
 clear HK_
 rintro e wc ⟨v2, rfl, hr, hb⟩
 refine ⟨_, rfl, ?_⟩
 obtain ⟨A2, c2, e2⟩ := Kd.R_slice hr
 subst e2
 have X2c := Aside0.mk (blk_below X2b.out hb)
 have X3c := Aside0.mk (blk_below X3b.out hb)
 have X4c := Aside0.mk (blk_below X4b.out hb)
 have HBc := Aside0.mk (below_step HBb.out hb)
 have HO0_c := Aside0.mk (Kd.R_below HO0_b.out hb)
 have HO1_c := Aside0.mk (Kd.R_below HO1_b.out hb)
 have HO2_c := Aside0.mk (Kd.R_lower hr HBb.out.size)
 clear hr hb
 refine hK.out _ _ ⟨blk_cell' X2c.out 0 _ rfl, blk_cell' X2c.out 1 _ rfl, blk_cell' X2c.out 2 _ rfl⟩ (fun hHeld => ?_)
 clear hK K
 refine norm_ (a' := ?_) ?_ ?_
 rotate_left
 ·show Act.put _ (some 16) _ = _
  simp only [Act.put, List.setIfInBounds_toArray, List.set_cons_zero, List.set_cons_succ, i64_w, i32_w]
  rfl
 refine run_ [(12, some 17)] ?_
 refine runP (v := ?_) (a' := ?_) rfl rfl (by kernel_rfl) (fun _ _ _ h => h) (Or.inl ⟨by rfl, ?_⟩) ?_ ?_; rotate_left; (· intro w'; go_simp; with_reducible rfl); rotate_left; (· simp only [Act.put, List.setIfInBounds_toArray, List.set_cons_zero, List.set_cons_succ, i64_w, i32_w]; rfl)
 refine runE ?_
 refine last_ (i := 13) (N := none) #[true, true, true, true, true, true, true, true, true, true, true, true, true, true] rfl rfl (by kernel_rfl) (by decide) (fun K hK => ?_)
 have z0 := blk_cell' X4c.out 0 _ rfl
 have z1 := blk_cell' X4c.out 1 _ rfl
 have z2 := blk_cell' X4c.out 2 _ rfl
 have f0 := blk_frozen X4c.out 0
 have f1 := blk_frozen X4c.out 1
 have f2 := blk_frozen X4c.out 2
 refine skip_ (w1 := ?_) (by rfl) rfl ?_ ?_
 rotate_left
 ·go_simp
  rfl
 refine hK.out _ _ ?_
 clear hK K
 refine done_ (by kernel_rfl) ?_
 go_wp2
 have BXE := X4c
 refine bodyPost_ret (results_cell_row rfl _ _ g4 26 #[.slice A0 ((l0_0.filter fun x => !dcl32 a1_0 a1_1 x)).length c0, .slice A1 ((l0_1.filter fun x => !dcl34 a1_0 a1_1 x)).length c1, .slice A2 ((l0_2.filter fun x => !dcl51 a1_0 a1_1 x)).length c2] (0, 0) _ rfl (by (with_reducible repeat (first | refine blk_drewN ?_ _ | refine blk_drew ?_ | refine blk_alloc ?_ _)); refine blk_put (cs := #[.slice A0 ((l0_0.filter fun x => !dcl32 a1_0 a1_1 x)).length c0, .slice A1 ((l0_1.filter fun x => !dcl34 a1_0 a1_1 x)).length c1, .slice none 0 0]) ?_ 2 _ rfl; refine blk_put (cs := #[.slice A0 ((l0_0.filter fun x => !dcl32 a1_0 a1_1 x)).length c0, .slice none 0 0, .slice none 0 0]) ?_ 1 _ rfl; refine blk_put (cs := #[.slice none 0 0, .slice none 0 0, .slice none 0 0]) ?_ 0 _ rfl; exact BXE.out) Try.underlying26 rfl (by kernel_rfl)) rfl ?_
 exact ⟨_, _, _, rfl, Kd.R_mono (Kd.R_far (p := ⟨g4, 2, none⟩) (Kd.R_far (p := ⟨g4, 1, none⟩) (Kd.R_far (p := ⟨g4, 0, none⟩) (Kd.R_types HO0_c.out BXE.out (by decide)) (fun _ hk => hk.2) (.slice A0 ((l0_0.filter fun x => !dcl32 a1_0 a1_1 x)).length c0)) (fun _ hk => hk.2) (.slice A1 ((l0_1.filter fun x => !dcl34 a1_0 a1_1 x)).length c1)) (fun _ hk => hk.2) (.slice A2 ((l0_2.filter fun x => !dcl51 a1_0 a1_1 x)).length c2)) (fun _ hk => trivial), Kd.R_mono (Kd.R_far (p := ⟨g4, 2, none⟩) (Kd.R_far (p := ⟨g4, 1, none⟩) (Kd.R_far (p := ⟨g4, 0, none⟩) (Kd.R_types HO1_c.out BXE.out (by decide)) (fun _ hk => hk.2) (.slice A0 ((l0_0.filter fun x => !dcl32 a1_0 a1_1 x)).length c0)) (fun _ hk => hk.2) (.slice A1 ((l0_1.filter fun x => !dcl34 a1_0 a1_1 x)).length c1)) (fun _ hk => hk.2) (.slice A2 ((l0_2.filter fun x => !dcl51 a1_0 a1_1 x)).length c2)) (fun _ hk => trivial), Kd.R_mono (Kd.R_far (p := ⟨g4, 2, none⟩) (Kd.R_far (p := ⟨g4, 1, none⟩) (Kd.R_far (p := ⟨g4, 0, none⟩) (Kd.R_types HO2_c.out BXE.out (by decide)) (fun _ hk => hk.2) (.slice A0 ((l0_0.filter fun x => !dcl32 a1_0 a1_1 x)).length c0)) (fun _ hk => hk.2) (.slice A1 ((l0_1.filter fun x => !dcl34 a1_0 a1_1 x)).length c1)) (fun _ hk => hk.2) (.slice A2 ((l0_2.filter fun x => !dcl51 a1_0 a1_1 x)).length c2)) (fun _ hk => trivial), below_set (below_set (below_set HBc.out GE4.out) GE4.out) GE4.out⟩

/-! ### cells_Expire: function 23 -/
def cells_Expire.f (l0_0 : List (S32)) (l0_1 : List (S34)) (l0_2 : List (S51)) (a1 : Int) : Option (List (S32) × List (S34) × List (S51)) := if l0_0.length < 4398046511104 ∧ l0_1.length < 3518437208883 ∧ l0_2.length < 5864062014805 then some (l0_0, (l0_1.filter fun x => !ecl34 a1 x), l0_2) else none
set_option maxHeartbeats 4000000 in
set_option maxRecDepth 100000 in
theorem cells_Expire.calls (A0_0 : Option Addr) (c0_0 : Nat) (l0_0 : List (S32)) (A0_1 : Option Addr) (c0_1 : Nat) (l0_1 : List (S34)) (A0_2 : Option Addr) (c0_2 : Nat) (l0_2 : List (S51)) (a1 : Int) (r1 : List (S32)) (r2 : List (S34)) (r3 : List (S51)) (w : World) (hr0_0 : Kd.C k32 w A0_0 l0_0.length l0_0) (hc0_0 : l0_0.length ≤ c0_0) (hr0_1 : Kd.C k34 w A0_1 l0_1.length l0_1) (hc0_1 : l0_1.length ≤ c0_1) (hr0_2 : Kd.C k51 w A0_2 l0_2.length l0_2) (hc0_2 : l0_2.length ≤ c0_2) (h : cells_Expire.f l0_0 l0_1 l0_2 a1 = some (r1, r2, r3)) :
  Calls Try.prog 23 #[.agg #[.slice A0_0 l0_0.length c0_0, .slice A0_1 l0_1.length c0_1, .slice A0_2 l0_2.length c0_2], .int .i64 a1] w fun e w' => ∃ v0_ v1_ v2_ : Value, e = .returned (.agg #[v0_, v1_, v2_]) ∧ Kd.R k32 32 w' w.heap.size (fun _ => True) v0_ r1 ∧ Kd.R k34 34 w' w.heap.size (fun _ => True) v1_ r2 ∧ Kd.R k51 51 w' w.heap.size (fun _ => True) v2_ r3 ∧ Below w.heap.size w w' := by
 have HLL : l0_0.length < 4398046511104 ∧ l0_1.length < 3518437208883 ∧ l0_2.length < 5864062014805 := by
  unfold cells_Expire.f at h
  by_cases hl : l0_0.length < 4398046511104 ∧ l0_1.length < 3518437208883 ∧ l0_2.length < 5864062014805
  ·exact hl
  rw [if_neg hl] at h; exact absurd h (by simp)
 obtain ⟨rfl, rfl, rfl⟩ : l0_0 = r1 ∧ (l0_1.filter fun x => !ecl34 a1 x) = r2 ∧ l0_2 = r3 := by unfold cells_Expire.f at h; rw [if_pos HLL] at h; simpa using h
 clear h
 have hu26 := Try.underlying26
 have HR0 := Aside0.mk hr0_0
 have HR1 := Aside0.mk hr0_1
 have HR2 := Aside0.mk hr0_2
 have HC0 := Aside0.mk hc0_0
 have HC1 := Aside0.mk hc0_1
 have HC2 := Aside0.mk hc0_2
 have HL0 := Aside0.mk HLL.1
 have HL1 := Aside0.mk HLL.2.1
 have HL2 := Aside0.mk HLL.2.2
 have HB0 := Aside0.mk (Below.refl w.heap.size w)
 have hmf : ∀ (fn : Fn) (first cap : Array Value) (w : World), (Instr.makeFunc fn first cap).run Try.prog w = .ok (.func fn first cap) w := fun _ _ _ _ => rfl
 clear hr0_0 hr0_1 hr0_2 hc0_0 hc0_1 hc0_2 HLL
 go_enter Try.func23, Try.ntmps23
 go_wp2_with (first
  | ((with_reducible refine gate_dst (N := 2) rfl ?_); refine bE (N := 2) (cs := #[.slice A0_0 l0_0.length c0_0, .slice A0_1 l0_1.length c0_1, .slice A0_2 l0_2.length c0_2]) (t := 26) ?_; intro g2 hg w1 hbox hb; have X2 := Aside0.mk hbox; have HB1 := Aside0.mk (below_step HB0.out hb); clear hb hbox hg)
  | ((with_reducible refine gate_dst (N := 3) rfl ?_); refine bE (N := 3) (cs := #[.int .i64 a1]) (t := 3) ?_; intro g3 hg w2 hbox hb; have X3 := Aside0.mk hbox; have X2' := Aside0.mk (blk_below X2.out hb); clear X2; have X2 := X2'; clear X2'; have HB2 := Aside0.mk (below_step HB1.out hb); clear hb hbox hg)
  | ((with_reducible refine gate_dst (N := 4) rfl ?_); refine bE (N := 4) (cs := #[.slice none 0 0, .slice none 0 0, .slice none 0 0]) (t := 26) ?_; intro g4 hg w3 hbox hb; have GE4 := Aside0.mk ((by rw [hg]; exact HB2.out.size) : w.heap.size ≤ g4); have X4 := Aside0.mk hbox; have X2' := Aside0.mk (blk_below X2.out hb); clear X2; have X2 := X2'; clear X2'; have X3' := Aside0.mk (blk_below X3.out hb); clear X3; have X3 := X3'; clear X3'; have HB3 := Aside0.mk (below_step HB2.out hb); clear hb hbox hg))
 have X2d := Aside0.mk (blk_drew X2.out)
 have X3d := Aside0.mk (blk_drew X3.out)
 have X4d := Aside0.mk (blk_drew X4.out)
 have HBd := Aside0.mk (below_drew1 HB3.out)
 refine start_ (n := 12) (S := fun w' => w'.cell? ⟨g2, 0, none⟩ = some (.slice A0_0 l0_0.length c0_0) ∧ w'.cell? ⟨g2, 1, none⟩ = some (.slice A0_1 l0_1.length c0_1) ∧ w'.cell? ⟨g2, 2, none⟩ = some (.slice A0_2 l0_2.length c0_2)) (ds := [11]) #[false, false, false, false, false, false, false, false, false, false, false, false] (by kernel_rfl) rfl rfl ⟨blk_cell' X2d.out 0 _ rfl, blk_cell' X2d.out 1 _ rfl, blk_cell' X2d.out 2 _ rfl⟩ (fun hHeld => ?_)
 refine run_ [(0, some 5), (3, some 8), (5, some 10), (7, some 12), (1, some 6), (4, some 9), (8, some 13)] ?_
 iterate 4 (refine runP (v := ?_) (a' := ?_) rfl rfl (by kernel_rfl) (fun _ _ _ h => h) (Or.inl ⟨by rfl, ?_⟩) ?_ ?_; rotate_left; (· intro w'; go_simp; with_reducible rfl); rotate_left; (· simp only [Act.put, List.setIfInBounds_toArray, List.set_cons_zero, List.set_cons_succ, i64_w, i32_w]; rfl))
 iterate 3 (refine runT (v := ?_) (a' := ?_) rfl rfl (by kernel_rfl) (fun _ _ _ h => h) (Or.inl ⟨by rfl, ?_⟩) hHeld ?_ ?_; rotate_left; (· rintro w' ⟨s0, s1, s2⟩; go_simp; with_reducible rfl); rotate_left; (· simp only [Act.put, List.setIfInBounds_toArray, List.set_cons_zero, List.set_cons_succ, i64_w, i32_w]; rfl))
 refine runE ?_
 refine one_ (i := 2) (N := some 7) #[true, true, true, true, true, true, false, true, true, false, false, false] rfl rfl (by kernel_rfl) (by decide) (fun K hK => ?_)
 refine gO Try.func36 #[.slice A0_0 l0_0.length c0_0] ?_
 have HK_ := api_Use_36.calls A0_0 c0_0 l0_0 l0_0 _ (Kd.C_below HR0.out HBd.out) HC0.out (if_pos HL0.out)
 with_reducible refine HK_.mono ?_
 clear HK_
 rintro e wa ⟨v0, rfl, hr, hb⟩
 refine ⟨_, rfl, ?_⟩
 obtain ⟨A0, c0, e0⟩ := Kd.R_slice hr
 subst e0
 have X2a := Aside0.mk (blk_below X2d.out hb)
 have X3a := Aside0.mk (blk_below X3d.out hb)
 have X4a := Aside0.mk (blk_below X4d.out hb)
 have HBa := Aside0.mk (below_step HBd.out hb)
 have HO0_a := Aside0.mk (Kd.R_lower hr HBd.out.size)
 clear hr hb
 refine hK.out _ _ ⟨blk_cell' X2a.out 0 _ rfl, blk_cell' X2a.out 1 _ rfl, blk_cell' X2a.out 2 _ rfl⟩ (fun hHeld => ?_)
 clear hK K
 refine norm_ (a' := ?_) ?_ ?_
 rotate_left
 ·show Act.put _ (some 7) _ = _
  simp only [Act.put, List.setIfInBounds_toArray, List.set_cons_zero, List.set_cons_succ, i64_w, i32_w]
  rfl
 refine one_ (i := 6) (N := some 11) #[true, true, true, true, true, true, true, true, true, false, false, false] rfl rfl (by kernel_rfl) (by decide) (fun K hK => ?_)
 refine gO Try.func55 #[.slice A0_1 l0_1.length c0_1, .func (.func 38) #[] #[], .func (.func 59) #[] #[.pointer (some ⟨g3, 0, none⟩)]] ?_
 have HK_ := wo34 59 #[.pointer (some ⟨g3, 0, none⟩)] (ecl34 a1) A0_1 c0_1 l0_1 _ (Kd.C_below HR1.out HBa.out) HC1.out HL1.out (enters_of Try.func59 (by kernel_rfl) rfl) (fun W x hW => ecl34.calls a1 x g3 W (blk_below X3a.out hW))
 with_reducible refine HK_.mono ?_
 clear HK_
 rintro e wb ⟨v1, rfl, hr, hb⟩
 refine ⟨_, rfl, ?_⟩
 obtain ⟨A1, c1, e1⟩ := Kd.R_slice hr
 subst e1
 have X2b := Aside0.mk (blk_below X2a.out hb)
 have X3b := Aside0.mk (blk_below X3a.out hb)
 have X4b := Aside0.mk (blk_below X4a.out hb)
 have HBb := Aside0.mk (below_step HBa.out hb)
 have HO0_b := Aside0.mk (Kd.R_below HO0_a.out hb)
 have HO1_b := Aside0.mk (Kd.R_lower hr HBa.out.size)
 clear hr hb
 refine hK.out _ _ ⟨blk_cell' X2b.out 0 _ rfl, blk_cell' X2b.out 1 _ rfl, blk_cell' X2b.out 2 _ rfl⟩ (fun hHeld => ?_)
 clear hK K
 refine norm_ (a' := ?_) ?_ ?_
 rotate_left
 ·show Act.put _ (some 11) _ = _
  simp only [Act.put, List.setIfInBounds_toArray, List.set_cons_zero, List.set_cons_succ, i64_w, i32_w]
  rfl
 refine one_ (i := 9) (N := some 14) #[true, true, true, true, true, true, true, true, true, true, false, false] rfl rfl (by kernel_rfl) (by decide) (fun K hK => ?_)
 refine gO Try.func60 #[.slice A0_2 l0_2.length c0_2] ?_
 have HK_ := api_Ask_60.calls A0_2 c0_2 l0_2 l0_2 _ (Kd.C_below HR2.out HBb.out) HC2.out (if_pos HL2.out)
 with_reducible refine HK_.mono ?_
 clear HK_
 rintro e wc ⟨v2, rfl, hr, hb⟩
 refine ⟨_, rfl, ?_⟩
 obtain ⟨A2, c2, e2⟩ := Kd.R_slice hr
 subst e2
 have X2c := Aside0.mk (blk_below X2b.out hb)
 have X3c := Aside0.mk (blk_below X3b.out hb)
 have X4c := Aside0.mk (blk_below X4b.out hb)
 have HBc := Aside0.mk (below_step HBb.out hb)
 have HO0_c := Aside0.mk (Kd.R_below HO0_b.out hb)
 have HO1_c := Aside0.mk (Kd.R_below HO1_b.out hb)
 have HO2_c := Aside0.mk (Kd.R_lower hr HBb.out.size)
 clear hr hb
 refine hK.out _ _ ⟨blk_cell' X2c.out 0 _ rfl, blk_cell' X2c.out 1 _ rfl, blk_cell' X2c.out 2 _ rfl⟩ (fun hHeld => ?_)
 clear hK K
 refine norm_ (a' := ?_) ?_ ?_
 rotate_left
 ·show Act.put _ (some 14) _ = _
  simp only [Act.put, List.setIfInBounds_toArray, List.set_cons_zero, List.set_cons_succ, i64_w, i32_w]
  rfl
 refine run_ [(10, some 15)] ?_
 refine runP (v := ?_) (a' := ?_) rfl rfl (by kernel_rfl) (fun _ _ _ h => h) (Or.inl ⟨by rfl, ?_⟩) ?_ ?_; rotate_left; (· intro w'; go_simp; with_reducible rfl); rotate_left; (· simp only [Act.put, List.setIfInBounds_toArray, List.set_cons_zero, List.set_cons_succ, i64_w, i32_w]; rfl)
 refine runE ?_
 refine last_ (i := 11) (N := none) #[true, true, true, true, true, true, true, true, true, true, true, true] rfl rfl (by kernel_rfl) (by decide) (fun K hK => ?_)
 have z0 := blk_cell' X4c.out 0 _ rfl
 have z1 := blk_cell' X4c.out 1 _ rfl
 have z2 := blk_cell' X4c.out 2 _ rfl
 have f0 := blk_frozen X4c.out 0
 have f1 := blk_frozen X4c.out 1
 have f2 := blk_frozen X4c.out 2
 refine skip_ (w1 := ?_) (by rfl) rfl ?_ ?_
 rotate_left
 ·go_simp
  rfl
 refine hK.out _ _ ?_
 clear hK K
 refine done_ (by kernel_rfl) ?_
 go_wp2
 have BXE := X4c
 refine bodyPost_ret (results_cell_row rfl _ _ g4 26 #[.slice A0 (l0_0).length c0, .slice A1 ((l0_1.filter fun x => !ecl34 a1 x)).length c1, .slice A2 (l0_2).length c2] (0, 0) _ rfl (by (with_reducible repeat (first | refine blk_drewN ?_ _ | refine blk_drew ?_ | refine blk_alloc ?_ _)); refine blk_put (cs := #[.slice A0 (l0_0).length c0, .slice A1 ((l0_1.filter fun x => !ecl34 a1 x)).length c1, .slice none 0 0]) ?_ 2 _ rfl; refine blk_put (cs := #[.slice A0 (l0_0).length c0, .slice none 0 0, .slice none 0 0]) ?_ 1 _ rfl; refine blk_put (cs := #[.slice none 0 0, .slice none 0 0, .slice none 0 0]) ?_ 0 _ rfl; exact BXE.out) Try.underlying26 rfl (by kernel_rfl)) rfl ?_
 exact ⟨_, _, _, rfl, Kd.R_mono (Kd.R_far (p := ⟨g4, 2, none⟩) (Kd.R_far (p := ⟨g4, 1, none⟩) (Kd.R_far (p := ⟨g4, 0, none⟩) (Kd.R_types HO0_c.out BXE.out (by decide)) (fun _ hk => hk.2) (.slice A0 (l0_0).length c0)) (fun _ hk => hk.2) (.slice A1 ((l0_1.filter fun x => !ecl34 a1 x)).length c1)) (fun _ hk => hk.2) (.slice A2 (l0_2).length c2)) (fun _ hk => trivial), Kd.R_mono (Kd.R_far (p := ⟨g4, 2, none⟩) (Kd.R_far (p := ⟨g4, 1, none⟩) (Kd.R_far (p := ⟨g4, 0, none⟩) (Kd.R_types HO1_c.out BXE.out (by decide)) (fun _ hk => hk.2) (.slice A0 (l0_0).length c0)) (fun _ hk => hk.2) (.slice A1 ((l0_1.filter fun x => !ecl34 a1 x)).length c1)) (fun _ hk => hk.2) (.slice A2 (l0_2).length c2)) (fun _ hk => trivial), Kd.R_mono (Kd.R_far (p := ⟨g4, 2, none⟩) (Kd.R_far (p := ⟨g4, 1, none⟩) (Kd.R_far (p := ⟨g4, 0, none⟩) (Kd.R_types HO2_c.out BXE.out (by decide)) (fun _ hk => hk.2) (.slice A0 (l0_0).length c0)) (fun _ hk => hk.2) (.slice A1 ((l0_1.filter fun x => !ecl34 a1 x)).length c1)) (fun _ hk => hk.2) (.slice A2 (l0_2).length c2)) (fun _ hk => trivial), below_set (below_set (below_set HBc.out GE4.out) GE4.out) GE4.out⟩

/-! ### slotmeshlaw12_layout: function 27 -/
def slotmeshlaw12_layout.f  : Option (Int × Int) := some (3, 4)
set_option maxHeartbeats 8000000 in
set_option maxRecDepth 100000 in
theorem slotmeshlaw12_layout.calls  (r1 : Int) (r2 : Int) (w : World) (h : slotmeshlaw12_layout.f  = some (r1, r2)) :
  Calls Try.prog 27 #[] w fun e w' => e = .returned (.agg #[.int .i64 r1, .int .i64 r2]) ∧ Below w.heap.size w w' := by
 have hu28 := Try.underlying28
 have HB := Aside0.mk (Below.refl w.heap.size w)
 have H : (some (3, 4)) = some (r1, r2) := h
 clear h
 simp only [Option.some.injEq, Prod.mk.injEq] at H
 obtain ⟨rfl, rfl⟩ := H
 go_enter Try.func27, Try.ntmps27
 go_wp2_with (first | ((with_reducible refine gate_dst (N := 0) rfl ?_); refine bE (N := 0) (cs := #[.int .i64 0, .int .i64 0]) (t := 28) ?_; intro gb132 hg w1 hbox hb; have BK132 := Aside0.mk (hbox); have GW132 := gW hg HB; have GE132 := GW132; replace HB := tW HB hb; clear hb hbox hg; have hcz2_0 : w1.cell? ⟨gb132, 0, none⟩ = some (.int .i64 0) := bt BK132 0; have hcz2_1 : w1.cell? ⟨gb132, 1, none⟩ = some (.int .i64 0) := bt BK132 1; have hfz2_0 := blk_frozen BK132.out 0; have hfz2_1 := blk_frozen BK132.out 1))
 refine bodyPost_ret (results_cell_row rfl _ _ gb132 28 #[.int .i64 3, .int .i64 4] (0, 0) _ rfl (by (with_reducible repeat (first | refine blk_drewN ?_ _ | refine blk_drew ?_ | refine blk_alloc ?_ _)); refine blk_put (cs := #[.int .i64 3, .int .i64 0]) ?_ 1 _ rfl; (with_reducible repeat (first | refine blk_drewN ?_ _ | refine blk_drew ?_ | refine blk_alloc ?_ _)); refine blk_put (cs := #[.int .i64 0, .int .i64 0]) ?_ 0 _ rfl; (with_reducible repeat (first | refine blk_drewN ?_ _ | refine blk_drew ?_ | refine blk_alloc ?_ _)); exact BK132.out) Try.underlying28 rfl (by kernel_rfl)) rfl ?_
 exact ⟨aE, sW HB⟩

/-! ### slotmeshlaw12_cell: function 28 -/
def slotmeshlaw12_cell.f (a0 : Int) (a1 : Int) : Option (Int × Int) := some (a0, a1)
set_option maxHeartbeats 8000000 in
set_option maxRecDepth 100000 in
theorem slotmeshlaw12_cell.calls (a0 : Int) (a1 : Int) (r1 : Int) (r2 : Int) (w : World) (h : slotmeshlaw12_cell.f a0 a1 = some (r1, r2)) :
  Calls Try.prog 28 #[.int .i64 a0, .int .i64 a1] w fun e w' => e = .returned (.agg #[.int .i64 r1, .int .i64 r2]) ∧ Below w.heap.size w w' := by
 have hu30 := Try.underlying30
 have HB := Aside0.mk (Below.refl w.heap.size w)
 have H : (some (a0, a1)) = some (r1, r2) := h
 clear h
 simp only [Option.some.injEq, Prod.mk.injEq] at H
 obtain ⟨rfl, rfl⟩ := H
 go_enter Try.func28, Try.ntmps28
 go_wp2_with (first | ((with_reducible refine gate_dst (N := 4) rfl ?_); refine bE (N := 4) (cs := #[.int .i64 0, .int .i64 0]) (t := 30) ?_; intro gb133 hg w3 hbox hb; have BK133 := Aside0.mk (hbox); have GW133 := gW hg HB; have GE133 := GW133; replace HB := tW HB hb; clear hb hbox hg; have hcz4_0 : w3.cell? ⟨gb133, 0, none⟩ = some (.int .i64 0) := bt BK133 0; have hcz4_1 : w3.cell? ⟨gb133, 1, none⟩ = some (.int .i64 0) := bt BK133 1; have hfz4_0 := blk_frozen BK133.out 0; have hfz4_1 := blk_frozen BK133.out 1))
 refine bodyPost_ret (results_cell_row rfl _ _ gb133 30 #[.int .i64 a0, .int .i64 a1] (0, 0) _ rfl (by (with_reducible repeat (first | refine blk_drewN ?_ _ | refine blk_drew ?_ | refine blk_alloc ?_ _)); refine blk_put (cs := #[.int .i64 a0, .int .i64 0]) ?_ 1 _ rfl; (with_reducible repeat (first | refine blk_drewN ?_ _ | refine blk_drew ?_ | refine blk_alloc ?_ _)); refine blk_put (cs := #[.int .i64 0, .int .i64 0]) ?_ 0 _ rfl; (with_reducible repeat (first | refine blk_drewN ?_ _ | refine blk_drew ?_ | refine blk_alloc ?_ _)); exact BK133.out) Try.underlying30 rfl (by kernel_rfl)) rfl ?_
 exact ⟨aE, sW HB⟩

end Go.Proofs.Ytbpfbdljcdcgnaa.Px
