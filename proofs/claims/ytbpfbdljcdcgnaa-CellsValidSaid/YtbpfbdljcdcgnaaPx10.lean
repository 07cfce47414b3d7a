/- Walks of functions of this seat, written by a program of this workplace out of the translation. -/
import Derived.Test.YtbpfbdljcdcgnaaPx0
import Derived.Test.YtbpfbdljcdcgnaaPx6
import Derived.Test.YtbpfbdljcdcgnaaPx8
import Derived.Test.YtbpfbdljcdcgnaaPx9
namespace Go.Proofs.Ytbpfbdljcdcgnaa.Px
open Go.RowKit Go.Proofs.YtbpfbdljcdcgnaaW.PrintWords Go.Proofs.YtbpfbdljcdcgnaaW.PrintLast Go.Proofs.YtbpfbdljcdcgnaaW.PrintMore
attribute [local go_sem] max2_int min2_int max_two min_two max_three min_three max_four min_four   -- for this text's walks alone
set_option linter.unusedVariables false
set_option linter.unusedSimpArgs false

/-! ### cells_Valid: function 17 -/
def dupfree (ss : List Int) : Bool := ss.all fun s => decide (ss.count s ≤ 1)
def slotsOf (l0 : List S32) (l1 : List S34) (l2 : List S51) : List Int := l0.map (fun x => x.f0.f0) ++ l1.map (fun x => x.f0.f0) ++ l2.map (fun x => x.f0.f0)
def validB (l0 : List S32) (l1 : List S34) (l2 : List S51) (nodes data : Int) : Bool :=
 if nodes < 1 then false else if 60 < nodes then false else if data < 1 then false else if 60 < data then false else
 if 24 < (l0.length : Int) + (l1.length : Int) then false else if 24 < (l2.length : Int) then false else
 if snd32 nodes data (-1) l0 = false then false else if snd34 nodes data (-1) l1 = false then false else if snd51 nodes data (-1) l2 = false then false else dupfree (slotsOf l0 l1 l2)
def cells_Valid.f (l0_0 : List (S32)) (l0_1 : List (S34)) (l0_2 : List (S51)) (a1_0 : Int) (a1_1 : Int) : Option (Bool) := if l0_0.length < 3518437208883 ∧ l0_1.length < 3518437208883 ∧ l0_2.length < 3518437208883 then some (validB l0_0 l0_1 l0_2 a1_0 a1_1) else none
theorem dupfree_hit {ss : List Int} {x : Int} (h : 1 < ((ss.count x : Nat) : Int)) : dupfree ss = false := by
 unfold dupfree
 refine Bool.eq_false_iff.2 fun h2 => ?_
 have h3 := List.all_eq_true.1 h2 x (List.count_pos_iff.1 (by omega))
 have h4 := of_decide_eq_true h3
 omega
theorem dupfree_all {ss : List Int} (h : ∀ s ∈ ss, ss.count s ≤ 1) : dupfree ss = true := by
 unfold dupfree
 exact List.all_eq_true.2 fun s hs => decide_eq_true (h s hs)
theorem sameKey_int {s x : Int} (h : (Lit.int .i64 s).sameKey (.int .i64 x) = true) : s = x := by
 by_cases e : s = x
 ·exact e
 have := Maps.sameKey_ne (a := Lit.int .i64 s) (b := .int .i64 x) (fun e2 => by injection e2 with _ e3; exact e e3)
 rw [this] at h; cases h
set_option maxHeartbeats 16000000 in
set_option maxRecDepth 100000 in
theorem cells_Valid.calls (A0_0 : Option Addr) (c0_0 : Nat) (l0_0 : List (S32)) (A0_1 : Option Addr) (c0_1 : Nat) (l0_1 : List (S34)) (A0_2 : Option Addr) (c0_2 : Nat) (l0_2 : List (S51)) (a1_0 : Int) (a1_1 : Int) (r : Bool) (w : World) (hr0_0 : Kd.C k32 w A0_0 l0_0.length l0_0) (hc0_0 : l0_0.length ≤ c0_0) (hr0_1 : Kd.C k34 w A0_1 l0_1.length l0_1) (hc0_1 : l0_1.length ≤ c0_1) (hr0_2 : Kd.C k51 w A0_2 l0_2.length l0_2) (hc0_2 : l0_2.length ≤ c0_2) (h : cells_Valid.f l0_0 l0_1 l0_2 a1_0 a1_1 = some r) :
  Calls Try.prog 17 #[.agg #[.slice A0_0 l0_0.length c0_0, .slice A0_1 l0_1.length c0_1, .slice A0_2 l0_2.length c0_2], .agg #[.int .i64 a1_0, .int .i64 a1_1]] w fun e w' => e = .returned (.bool r) ∧ Below w.heap.size w w' := by
 have HLL : l0_0.length < 3518437208883 ∧ l0_1.length < 3518437208883 ∧ l0_2.length < 3518437208883 := by
  unfold cells_Valid.f at h
  by_cases hl : l0_0.length < 3518437208883 ∧ l0_1.length < 3518437208883 ∧ l0_2.length < 3518437208883
  ·exact hl
  rw [if_neg hl] at h; exact absurd h (by simp)
 have HRR : Aside0 (validB l0_0 l0_1 l0_2 a1_0 a1_1 = r) := ⟨by unfold cells_Valid.f at h; rw [if_pos HLL] at h; exact Option.some.inj h⟩
 clear h
 have hu26 := Try.underlying26
 have hu28 := Try.underlying28
 have HR0 := Aside0.mk hr0_0
 have HR1 := Aside0.mk hr0_1
 have HR2 := Aside0.mk hr0_2
 have HL0 : Aside0 (l0_0.length < 4398046511104) := ⟨by omega⟩
 have HL1 : Aside0 (l0_1.length < 3518437208883) := ⟨HLL.2.1⟩
 have HL2 : Aside0 (l0_2.length < 5864062014805) := ⟨by omega⟩
 obtain ⟨hb0, hb1, hb2⟩ := HLL
 have HB0 := Aside0.mk (Below.refl w.heap.size w)
 clear hr0_0 hr0_1 hr0_2 hc0_0 hc0_1 hc0_2
 by_cases c0 : a1_0 < 1
 ·have d0 := decide_eq_true c0
  obtain rfl : false = r := by rw [← HRR.out]; unfold validB; rw [if_pos c0]
  clear HRR c0
  go_enter Try.func17, Try.ntmps17
  go_wp2_with (first
   | ((with_reducible refine gate_dst (N := 2) rfl ?_); refine bE (N := 2) (cs := #[.slice A0_0 l0_0.length c0_0, .slice A0_1 l0_1.length c0_1, .slice A0_2 l0_2.length c0_2]) (t := 26) ?_; intro g2 hg w1 hbox hb; have X2 := Aside0.mk hbox; have HB1 := Aside0.mk (below_step HB0.out hb); clear hb hbox hg)
   | ((with_reducible refine gate_dst (N := 3) rfl ?_); refine bE (N := 3) (cs := #[.int .i64 a1_0, .int .i64 a1_1]) (t := 28) ?_; intro g3 hg w2 hbox hb; have X3 := Aside0.mk hbox; have X2' := Aside0.mk (blk_below X2.out hb); clear X2; have X2 := X2'; clear X2'; have HB2 := Aside0.mk (below_step HB1.out hb); have y0 := blk_cell' X2.out 0 _ rfl; have y1 := blk_cell' X2.out 1 _ rfl; have y2 := blk_cell' X2.out 2 _ rfl; have z0 := blk_cell' X3.out 0 _ rfl; have z1 := blk_cell' X3.out 1 _ rfl; clear hb hbox hg))
  go_ret
  exact ⟨rfl, HB2.out⟩
 have d0 := decide_eq_false c0
 by_cases c1 : 60 < a1_0
 ·have d1 := decide_eq_true c1
  obtain rfl : false = r := by rw [← HRR.out]; unfold validB; rw [if_neg c0, if_pos c1]
  clear HRR c0 c1
  go_enter Try.func17, Try.ntmps17
  go_wp2_with (first
   | ((with_reducible refine gate_dst (N := 2) rfl ?_); refine bE (N := 2) (cs := #[.slice A0_0 l0_0.length c0_0, .slice A0_1 l0_1.length c0_1, .slice A0_2 l0_2.length c0_2]) (t := 26) ?_; intro g2 hg w1 hbox hb; have X2 := Aside0.mk hbox; have HB1 := Aside0.mk (below_step HB0.out hb); clear hb hbox hg)
   | ((with_reducible refine gate_dst (N := 3) rfl ?_); refine bE (N := 3) (cs := #[.int .i64 a1_0, .int .i64 a1_1]) (t := 28) ?_; intro g3 hg w2 hbox hb; have X3 := Aside0.mk hbox; have X2' := Aside0.mk (blk_below X2.out hb); clear X2; have X2 := X2'; clear X2'; have HB2 := Aside0.mk (below_step HB1.out hb); have y0 := blk_cell' X2.out 0 _ rfl; have y1 := blk_cell' X2.out 1 _ rfl; have y2 := blk_cell' X2.out 2 _ rfl; have z0 := blk_cell' X3.out 0 _ rfl; have z1 := blk_cell' X3.out 1 _ rfl; clear hb hbox hg))
  go_ret
  exact ⟨rfl, HB2.out⟩
 have d1 := decide_eq_false c1
 by_cases c2 : a1_1 < 1
 ·have d2 := decide_eq_true c2
  obtain rfl : false = r := by rw [← HRR.out]; unfold validB; rw [if_neg c0, if_neg c1, if_pos c2]
  clear HRR c0 c1 c2
  go_enter Try.func17, Try.ntmps17
  go_wp2_with (first
   | ((with_reducible refine gate_dst (N := 2) rfl ?_); refine bE (N := 2) (cs := #[.slice A0_0 l0_0.length c0_0, .slice A0_1 l0_1.length c0_1, .slice A0_2 l0_2.length c0_2]) (t := 26) ?_; intro g2 hg w1 hbox hb; have X2 := Aside0.mk hbox; have HB1 := Aside0.mk (below_step HB0.out hb); clear hb hbox hg)
   | ((with_reducible refine gate_dst (N := 3) rfl ?_); refine bE (N := 3) (cs := #[.int .i64 a1_0, .int .i64 a1_1]) (t := 28) ?_; intro g3 hg w2 hbox hb; have X3 := Aside0.mk hbox; have X2' := Aside0.mk (blk_below X2.out hb); clear X2; have X2 := X2'; clear X2'; have HB2 := Aside0.mk (below_step HB1.out hb); have y0 := blk_cell' X2.out 0 _ rfl; have y1 := blk_cell' X2.out 1 _ rfl; have y2 := blk_cell' X2.out 2 _ rfl; have z0 := blk_cell' X3.out 0 _ rfl; have z1 := blk_cell' X3.out 1 _ rfl; clear hb hbox hg))
  go_ret
  exact ⟨rfl, HB2.out⟩
 have d2 := decide_eq_false c2
 by_cases c3 : 60 < a1_1
 ·have d3 := decide_eq_true c3
  obtain rfl : false = r := by rw [← HRR.out]; unfold validB; rw [if_neg c0, if_neg c1, if_neg c2, if_pos c3]
  clear HRR c0 c1 c2 c3
  go_enter Try.func17, Try.ntmps17
  go_wp2_with (first
   | ((with_reducible refine gate_dst (N := 2) rfl ?_); refine bE (N := 2) (cs := #[.slice A0_0 l0_0.length c0_0, .slice A0_1 l0_1.length c0_1, .slice A0_2 l0_2.length c0_2]) (t := 26) ?_; intro g2 hg w1 hbox hb; have X2 := Aside0.mk hbox; have HB1 := Aside0.mk (below_step HB0.out hb); clear hb hbox hg)
   | ((with_reducible refine gate_dst (N := 3) rfl ?_); refine bE (N := 3) (cs := #[.int .i64 a1_0, .int .i64 a1_1]) (t := 28) ?_; intro g3 hg w2 hbox hb; have X3 := Aside0.mk hbox; have X2' := Aside0.mk (blk_below X2.out hb); clear X2; have X2 := X2'; clear X2'; have HB2 := Aside0.mk (below_step HB1.out hb); have y0 := blk_cell' X2.out 0 _ rfl; have y1 := blk_cell' X2.out 1 _ rfl; have y2 := blk_cell' X2.out 2 _ rfl; have z0 := blk_cell' X3.out 0 _ rfl; have z1 := blk_cell' X3.out 1 _ rfl; clear hb hbox hg))
  go_ret
  exact ⟨rfl, HB2.out⟩
 have d3 := decide_eq_false c3
 by_cases c4 : 24 < (l0_0.length : Int) + (l0_1.length : Int)
 ·have d4 := decide_eq_true c4
  obtain rfl : false = r := by rw [← HRR.out]; unfold validB; rw [if_neg c0, if_neg c1, if_neg c2, if_neg c3, if_pos c4]
  clear HRR c0 c1 c2 c3 c4
  go_enter Try.func17, Try.ntmps17
  go_wp2_with (first
   | ((with_reducible refine gate_dst (N := 2) rfl ?_); refine bE (N := 2) (cs := #[.slice A0_0 l0_0.length c0_0, .slice A0_1 l0_1.length c0_1, .slice A0_2 l0_2.length c0_2]) (t := 26) ?_; intro g2 hg w1 hbox hb; have X2 := Aside0.mk hbox; have HB1 := Aside0.mk (below_step HB0.out hb); clear hb hbox hg)
   | ((with_reducible refine gate_dst (N := 3) rfl ?_); refine bE (N := 3) (cs := #[.int .i64 a1_0, .int .i64 a1_1]) (t := 28) ?_; intro g3 hg w2 hbox hb; have X3 := Aside0.mk hbox; have X2' := Aside0.mk (blk_below X2.out hb); clear X2; have X2 := X2'; clear X2'; have HB2 := Aside0.mk (below_step HB1.out hb); have y0 := blk_cell' X2.out 0 _ rfl; have y1 := blk_cell' X2.out 1 _ rfl; have y2 := blk_cell' X2.out 2 _ rfl; have z0 := blk_cell' X3.out 0 _ rfl; have z1 := blk_cell' X3.out 1 _ rfl; clear hb hbox hg))
  go_ret
  exact ⟨rfl, HB2.out⟩
 have d4 := decide_eq_false c4
 by_cases c5 : 24 < (l0_2.length : Int)
 ·have d5 := decide_eq_true c5
  obtain rfl : false = r := by rw [← HRR.out]; unfold validB; rw [if_neg c0, if_neg c1, if_neg c2, if_neg c3, if_neg c4, if_pos c5]
  clear HRR c0 c1 c2 c3 c4 c5
  go_enter Try.func17, Try.ntmps17
  go_wp2_with (first
   | ((with_reducible refine gate_dst (N := 2) rfl ?_); refine bE (N := 2) (cs := #[.slice A0_0 l0_0.length c0_0, .slice A0_1 l0_1.length c0_1, .slice A0_2 l0_2.length c0_2]) (t := 26) ?_; intro g2 hg w1 hbox hb; have X2 := Aside0.mk hbox; have HB1 := Aside0.mk (below_step HB0.out hb); clear hb hbox hg)
   | ((with_reducible refine gate_dst (N := 3) rfl ?_); refine bE (N := 3) (cs := #[.int .i64 a1_0, .int .i64 a1_1]) (t := 28) ?_; intro g3 hg w2 hbox hb; have X3 := Aside0.mk hbox; have X2' := Aside0.mk (blk_below X2.out hb); clear X2; have X2 := X2'; clear X2'; have HB2 := Aside0.mk (below_step HB1.out hb); have y0 := blk_cell' X2.out 0 _ rfl; have y1 := blk_cell' X2.out 1 _ rfl; have y2 := blk_cell' X2.out 2 _ rfl; have z0 := blk_cell' X3.out 0 _ rfl; have z1 := blk_cell' X3.out 1 _ rfl; clear hb hbox hg))
  go_ret
  exact ⟨rfl, HB2.out⟩
 have d5 := decide_eq_false c5
 have HVB : Aside0 ((if snd32 a1_0 a1_1 (-1) l0_0 = false then false else if snd34 a1_0 a1_1 (-1) l0_1 = false then false else if snd51 a1_0 a1_1 (-1) l0_2 = false then false else dupfree (slotsOf l0_0 l0_1 l0_2)) = r) := ⟨by rw [← HRR.out]; unfold validB; rw [if_neg c0, if_neg c1, if_neg c2, if_neg c3, if_neg c4, if_neg c5]⟩
 have HSZ : Aside0 (l0_0.length + l0_1.length ≤ 24 ∧ l0_2.length ≤ 24) := ⟨by omega⟩
 have HDT : Aside0 (a1_1 ≤ 60) := ⟨by omega⟩
 clear HRR c0 c1 c2 c3 c4 c5
 have hmm := @run_makeMap Try.prog
 cases hs0 : snd32 a1_0 a1_1 (-1) l0_0
 ·have HS0 := Aside0.mk hs0
  obtain rfl : false = r := by rw [← HVB.out, if_pos hs0]
  clear hs0 HVB
  go_enter Try.func17, Try.ntmps17
  go_wp2_with (first
   | ((with_reducible refine gate_dst (N := 2) rfl ?_); refine bE (N := 2) (cs := #[.slice A0_0 l0_0.length c0_0, .slice A0_1 l0_1.length c0_1, .slice A0_2 l0_2.length c0_2]) (t := 26) ?_; intro g2 hg w1 hbox hb; have X2 := Aside0.mk hbox; have HB1 := Aside0.mk (below_step HB0.out hb); clear hb hbox hg)
   | ((with_reducible refine gate_dst (N := 3) rfl ?_); refine bE (N := 3) (cs := #[.int .i64 a1_0, .int .i64 a1_1]) (t := 28) ?_; intro g3 hg w2 hbox hb; have X3 := Aside0.mk hbox; have X2' := Aside0.mk (blk_below X2.out hb); clear X2; have X2 := X2'; clear X2'; have HB2 := Aside0.mk (below_step HB1.out hb); have y0 := blk_cell' X2.out 0 _ rfl; have y1 := blk_cell' X2.out 1 _ rfl; have y2 := blk_cell' X2.out 2 _ rfl; have z0 := blk_cell' X3.out 0 _ rfl; have z1 := blk_cell' X3.out 1 _ rfl; clear hb hbox hg))
  have HMd : Aside0 (CMap (w2.alloc (.map #[] 0)).drew w2.heap.size []) := ⟨cmap_kept (row := none) ⟨.map [], World.ownsMap_made w2 Try.prog 3 _, cnt_nil⟩ (grown_of (below_drew1 (Below.refl _ _))) (by simp)⟩
  have GEB := Aside0.mk HB2.out.size
  have X2d := Aside0.mk (blk_drew (blk_alloc X2.out (.map #[] 0)))
  have X3d := Aside0.mk (blk_drew (blk_alloc X3.out (.map #[] 0)))
  have HBd := Aside0.mk (below_drew1 (below_alloc HB2.out (.map #[] 0)))
  clear X2 X3 HB1 HB2 y0 y1 y2 z0 z1
  generalize hb_ : w2.heap.size = b at HMd GEB ⊢
  clear hb_
  generalize w2.alloc (.map #[] 0) = w3 at HMd X2d X3d HBd ⊢
  refine start_ (n := 25) (S := fun w' => w'.cell? ⟨g2, 0, none⟩ = some (.slice A0_0 l0_0.length c0_0) ∧ w'.cell? ⟨g2, 1, none⟩ = some (.slice A0_1 l0_1.length c0_1) ∧ w'.cell? ⟨g2, 2, none⟩ = some (.slice A0_2 l0_2.length c0_2) ∧ w'.cell? ⟨g3, 0, none⟩ = some (.int .i64 a1_0) ∧ w'.cell? ⟨g3, 1, none⟩ = some (.int .i64 a1_1)) (ds := []) #[false, false, false, false, false, false, false, false, false, false, false, false, false, false, false, false, false, false, false, false, false, false, false, false, false] (by kernel_rfl) rfl rfl ⟨blk_cell' X2d.out 0 _ rfl, blk_cell' X2d.out 1 _ rfl, blk_cell' X2d.out 2 _ rfl, blk_cell' X3d.out 0 _ rfl, blk_cell' X3d.out 1 _ rfl⟩ (fun hHeld => ?_)
  refine run_ [(0, some 43), (4, some 47), (1, some 44), (3, some 46)] ?_
  iterate 2 (refine runP (v := ?_) (a' := ?_) rfl rfl (by kernel_rfl) (fun _ _ _ h => h) (Or.inl ⟨by rfl, ?_⟩) ?_ ?_; rotate_left; (· intro w'; go_simp; with_reducible rfl); rotate_left; (· simp only [Act.put, List.setIfInBounds_toArray, List.set_cons_zero, List.set_cons_succ, i64_w, i32_w]; rfl))
  iterate 2 (refine runT (v := ?_) (a' := ?_) rfl rfl (by kernel_rfl) (fun _ _ _ h => h) (Or.inl ⟨by rfl, ?_⟩) hHeld ?_ ?_; rotate_left; (· rintro w' ⟨s0, s1, s2, s3, s4⟩; go_simp; with_reducible rfl); rotate_left; (· simp only [Act.put, List.setIfInBounds_toArray, List.set_cons_zero, List.set_cons_succ, i64_w, i32_w]; rfl))
  refine runE ?_
  refine one_ (i := 2) (N := some 45) #[true, true, true, true, true, false, false, false, false, false, false, false, false, false, false, false, false, false, false, false, false, false, false, false, false] rfl rfl (by kernel_rfl) (by decide) (fun K hK => ?_)
  refine gO Try.func41 #[.slice A0_0 l0_0.length c0_0, .func (.func 31) #[] #[]] ?_
  have HK_ := ent32 A0_0 c0_0 l0_0 _ (Kd.C_below HR0.out HBd.out) HL0.out
  with_reducible refine HK_.mono ?_
  clear HK_
  rintro e we0 ⟨v0, rfl, hr, hb⟩
  refine ⟨_, rfl, ?_⟩
  obtain ⟨AE0, cE0, eE⟩ := Kd.R_slice hr
  subst eE
  have HE0 := Aside0.mk (Kd.R_reads' hr).2.2
  have X2e0 := Aside0.mk (blk_below X2d.out hb)
  have X3e0 := Aside0.mk (blk_below X3d.out hb)
  have HMe0 := Aside0.mk (cmap_kept HMd.out (grown_of hb) (by simp))
  have HBe0 := Aside0.mk (below_step HBd.out hb)
  clear hr hb
  refine hK.out _ _ ⟨blk_cell' X2e0.out 0 _ rfl, blk_cell' X2e0.out 1 _ rfl, blk_cell' X2e0.out 2 _ rfl, blk_cell' X3e0.out 0 _ rfl, blk_cell' X3e0.out 1 _ rfl⟩ (fun hHeld => ?_)
  clear hK K
  refine norm_ (a' := ?_) ?_ ?_
  rotate_left
  ·show Act.put _ (some 45) _ = _
   simp only [Act.put, List.setIfInBounds_toArray, List.set_cons_zero, List.set_cons_succ, i64_w, i32_w]
   rfl
  refine one_ (i := 5) (N := some 48) #[true, true, true, true, true, true, false, false, false, false, false, false, false, false, false, false, false, false, false, false, false, false, false, false, false] rfl rfl (by kernel_rfl) (by decide) (fun K hK => ?_)
  refine gO Try.func40 #[.slice AE0 l0_0.length cE0, .agg #[.int .i64 a1_0, .int .i64 a1_1], .map (some b)] ?_
  have HK_ := snd32.calls AE0 cE0 l0_0 a1_0 a1_1 b _ _ HE0.out HDT.out HMe0.out (by have := HSZ.out; simp only [List.length_append, List.length_map, List.length_nil]; omega)
  rw [HS0.out] at HK_
  with_reducible refine HK_.mono ?_
  clear HK_
  rintro e ws0 ⟨rfl, hcm, hg⟩
  refine ⟨_, rfl, ?_⟩
  have X2s0 := Aside0.mk (blk_grown' X2e0.out hg (cmap_ne HMe0.out X2e0.out))
  have X3s0 := Aside0.mk (blk_grown' X3e0.out hg (cmap_ne HMe0.out X3e0.out))
  have HBs0 := Aside0.mk (HBe0.out.grown hg HBe0.out.size (fun k hk => by injection hk with hk; rw [← hk]; exact GEB.out))
  clear hcm hg
  refine hK.out _ _ ⟨blk_cell' X2s0.out 0 _ rfl, blk_cell' X2s0.out 1 _ rfl, blk_cell' X2s0.out 2 _ rfl, blk_cell' X3s0.out 0 _ rfl, blk_cell' X3s0.out 1 _ rfl⟩ (fun hHeld => ?_)
  clear hK K
  refine norm_ (a' := ?_) ?_ ?_
  rotate_left
  ·show Act.put _ (some 48) _ = _
   simp only [Act.put, List.setIfInBounds_toArray, List.set_cons_zero, List.set_cons_succ, i64_w, i32_w]
   rfl
  refine run_ [(6, some 49), (7, some 50), (8, some 51), (9, some 52), (10, some 53), (11, some 54), (12, some 55), (13, some 56), (14, some 57), (15, some 58), (16, some 59), (17, some 60), (18, some 61), (19, some 62), (20, some 63), (21, some 64), (22, some 65), (23, some 66), (24, some 67)] ?_
  iterate 2 (refine runP (v := ?_) (a' := ?_) rfl rfl (by kernel_rfl) (fun _ _ _ h => h) (Or.inl ⟨by rfl, ?_⟩) ?_ ?_; rotate_left; (· intro w'; go_simp; with_reducible rfl); rotate_left; (· simp only [Act.put, List.setIfInBounds_toArray, List.set_cons_zero, List.set_cons_succ, i64_w, i32_w]; rfl))
  iterate 7 (refine runP (v := undef) (a' := ?_) rfl rfl (by kernel_rfl) (fun _ _ _ h => h) (Or.inr ⟨by rfl, rfl⟩) ?_ ?_; rotate_left; (· simp only [Act.put, List.setIfInBounds_toArray, List.set_cons_zero, List.set_cons_succ, i64_w, i32_w]; rfl))
  iterate 2 (refine runP (v := ?_) (a' := ?_) rfl rfl (by kernel_rfl) (fun _ _ _ h => h) (Or.inl ⟨by rfl, ?_⟩) ?_ ?_; rotate_left; (· intro w'; go_simp; with_reducible rfl); rotate_left; (· simp only [Act.put, List.setIfInBounds_toArray, List.set_cons_zero, List.set_cons_succ, i64_w, i32_w]; rfl))
  iterate 7 (refine runP (v := undef) (a' := ?_) rfl rfl (by kernel_rfl) (fun _ _ _ h => h) (Or.inr ⟨by rfl, rfl⟩) ?_ ?_; rotate_left; (· simp only [Act.put, List.setIfInBounds_toArray, List.set_cons_zero, List.set_cons_succ, i64_w, i32_w]; rfl))
  refine runP (v := ?_) (a' := ?_) rfl rfl (by kernel_rfl) (fun _ _ _ h => h) (Or.inl ⟨by rfl, ?_⟩) ?_ ?_; rotate_left; (· intro w'; go_simp; with_reducible rfl); rotate_left; (· simp only [Act.put, List.setIfInBounds_toArray, List.set_cons_zero, List.set_cons_succ, i64_w, i32_w]; rfl)
  refine runE ?_
  refine done_ (by kernel_rfl) ?_
  go_wp2
  go_ret
  exact ⟨rfl, HBs0.out⟩
 have HS0 := Aside0.mk hs0
 rw [hs0, if_neg (by decide)] at HVB
 clear hs0
 cases hs1 : snd34 a1_0 a1_1 (-1) l0_1
 ·have HS1 := Aside0.mk hs1
  obtain rfl : false = r := by rw [← HVB.out, if_pos hs1]
  clear hs1 HVB
  go_enter Try.func17, Try.ntmps17
  go_wp2_with (first
   | ((with_reducible refine gate_dst (N := 2) rfl ?_); refine bE (N := 2) (cs := #[.slice A0_0 l0_0.length c0_0, .slice A0_1 l0_1.length c0_1, .slice A0_2 l0_2.length c0_2]) (t := 26) ?_; intro g2 hg w1 hbox hb; have X2 := Aside0.mk hbox; have HB1 := Aside0.mk (below_step HB0.out hb); clear hb hbox hg)
   | ((with_reducible refine gate_dst (N := 3) rfl ?_); refine bE (N := 3) (cs := #[.int .i64 a1_0, .int .i64 a1_1]) (t := 28) ?_; intro g3 hg w2 hbox hb; have X3 := Aside0.mk hbox; have X2' := Aside0.mk (blk_below X2.out hb); clear X2; have X2 := X2'; clear X2'; have HB2 := Aside0.mk (below_step HB1.out hb); have y0 := blk_cell' X2.out 0 _ rfl; have y1 := blk_cell' X2.out 1 _ rfl; have y2 := blk_cell' X2.out 2 _ rfl; have z0 := blk_cell' X3.out 0 _ rfl; have z1 := blk_cell' X3.out 1 _ rfl; clear hb hbox hg))
  have HMd : Aside0 (CMap (w2.alloc (.map #[] 0)).drew w2.heap.size []) := ⟨cmap_kept (row := none) ⟨.map [], World.ownsMap_made w2 Try.prog 3 _, cnt_nil⟩ (grown_of (below_drew1 (Below.refl _ _))) (by simp)⟩
  have GEB := Aside0.mk HB2.out.size
  have X2d := Aside0.mk (blk_drew (blk_alloc X2.out (.map #[] 0)))
  have X3d := Aside0.mk (blk_drew (blk_alloc X3.out (.map #[] 0)))
  have HBd := Aside0.mk (below_drew1 (below_alloc HB2.out (.map #[] 0)))
  clear X2 X3 HB1 HB2 y0 y1 y2 z0 z1
  generalize hb_ : w2.heap.size = b at HMd GEB ⊢
  clear hb_
  generalize w2.alloc (.map #[] 0) = w3 at HMd X2d X3d HBd ⊢
  refine start_ (n := 25) (S := fun w' => w'.cell? ⟨g2, 0, none⟩ = some (.slice A0_0 l0_0.length c0_0) ∧ w'.cell? ⟨g2, 1, none⟩ = some (.slice A0_1 l0_1.length c0_1) ∧ w'.cell? ⟨g2, 2, none⟩ = some (.slice A0_2 l0_2.length c0_2) ∧ w'.cell? ⟨g3, 0, none⟩ = some (.int .i64 a1_0) ∧ w'.cell? ⟨g3, 1, none⟩ = some (.int .i64 a1_1)) (ds := []) #[false, false, false, false, false, false, false, false, false, false, false, false, false, false, false, false, false, false, false, false, false, false, false, false, false] (by kernel_rfl) rfl rfl ⟨blk_cell' X2d.out 0 _ rfl, blk_cell' X2d.out 1 _ rfl, blk_cell' X2d.out 2 _ rfl, blk_cell' X3d.out 0 _ rfl, blk_cell' X3d.out 1 _ rfl⟩ (fun hHeld => ?_)
  refine run_ [(0, some 43), (4, some 47), (1, some 44), (3, some 46)] ?_
  iterate 2 (refine runP (v := ?_) (a' := ?_) rfl rfl (by kernel_rfl) (fun _ _ _ h => h) (Or.inl ⟨by rfl, ?_⟩) ?_ ?_; rotate_left; (· intro w'; go_simp; with_reducible rfl); rotate_left; (· simp only [Act.put, List.setIfInBounds_toArray, List.set_cons_zero, List.set_cons_succ, i64_w, i32_w]; rfl))
  iterate 2 (refine runT (v := ?_) (a' := ?_) rfl rfl (by kernel_rfl) (fun _ _ _ h => h) (Or.inl ⟨by rfl, ?_⟩) hHeld ?_ ?_; rotate_left; (· rintro w' ⟨s0, s1, s2, s3, s4⟩; go_simp; with_reducible rfl); rotate_left; (· simp only [Act.put, List.setIfInBounds_toArray, List.set_cons_zero, List.set_cons_succ, i64_w, i32_w]; rfl))
  refine runE ?_
  refine one_ (i := 2) (N := some 45) #[true, true, true, true, true, false, false, false, false, false, false, false, false, false, false, false, false, false, false, false, false, false, false, false, false] rfl rfl (by kernel_rfl) (by decide) (fun K hK => ?_)
  refine gO Try.func41 #[.slice A0_0 l0_0.length c0_0, .func (.func 31) #[] #[]] ?_
  have HK_ := ent32 A0_0 c0_0 l0_0 _ (Kd.C_below HR0.out HBd.out) HL0.out
  with_reducible refine HK_.mono ?_
  clear HK_
  rintro e we0 ⟨v0, rfl, hr, hb⟩
  refine ⟨_, rfl, ?_⟩
  obtain ⟨AE0, cE0, eE⟩ := Kd.R_slice hr
  subst eE
  have HE0 := Aside0.mk (Kd.R_reads' hr).2.2
  have X2e0 := Aside0.mk (blk_below X2d.out hb)
  have X3e0 := Aside0.mk (blk_below X3d.out hb)
  have HMe0 := Aside0.mk (cmap_kept HMd.out (grown_of hb) (by simp))
  have HBe0 := Aside0.mk (below_step HBd.out hb)
  clear hr hb
  refine hK.out _ _ ⟨blk_cell' X2e0.out 0 _ rfl, blk_cell' X2e0.out 1 _ rfl, blk_cell' X2e0.out 2 _ rfl, blk_cell' X3e0.out 0 _ rfl, blk_cell' X3e0.out 1 _ rfl⟩ (fun hHeld => ?_)
  clear hK K
  refine norm_ (a' := ?_) ?_ ?_
  rotate_left
  ·show Act.put _ (some 45) _ = _
   simp only [Act.put, List.setIfInBounds_toArray, List.set_cons_zero, List.set_cons_succ, i64_w, i32_w]
   rfl
  refine one_ (i := 5) (N := some 48) #[true, true, true, true, true, true, false, false, false, false, false, false, false, false, false, false, false, false, false, false, false, false, false, false, false] rfl rfl (by kernel_rfl) (by decide) (fun K hK => ?_)
  refine gO Try.func40 #[.slice AE0 l0_0.length cE0, .agg #[.int .i64 a1_0, .int .i64 a1_1], .map (some b)] ?_
  have HK_ := snd32.calls AE0 cE0 l0_0 a1_0 a1_1 b _ _ HE0.out HDT.out HMe0.out (by have := HSZ.out; simp only [List.length_append, List.length_map, List.length_nil]; omega)
  rw [HS0.out] at HK_
  with_reducible refine HK_.mono ?_
  clear HK_
  rintro e ws0 ⟨rfl, hcm, hg⟩
  refine ⟨_, rfl, ?_⟩
  have X2s0 := Aside0.mk (blk_grown' X2e0.out hg (cmap_ne HMe0.out X2e0.out))
  have X3s0 := Aside0.mk (blk_grown' X3e0.out hg (cmap_ne HMe0.out X3e0.out))
  have HBs0 := Aside0.mk (HBe0.out.grown hg HBe0.out.size (fun k hk => by injection hk with hk; rw [← hk]; exact GEB.out))
  have HMs0 := Aside0.mk (hcm rfl)
  clear hcm hg
  refine hK.out _ _ ⟨blk_cell' X2s0.out 0 _ rfl, blk_cell' X2s0.out 1 _ rfl, blk_cell' X2s0.out 2 _ rfl, blk_cell' X3s0.out 0 _ rfl, blk_cell' X3s0.out 1 _ rfl⟩ (fun hHeld => ?_)
  clear hK K
  refine norm_ (a' := ?_) ?_ ?_
  rotate_left
  ·show Act.put _ (some 48) _ = _
   simp only [Act.put, List.setIfInBounds_toArray, List.set_cons_zero, List.set_cons_succ, i64_w, i32_w]
   rfl
  refine run_ [(6, some 49), (7, some 50), (8, some 51), (12, some 55), (9, some 52), (11, some 54)] ?_
  iterate 4 (refine runP (v := ?_) (a' := ?_) rfl rfl (by kernel_rfl) (fun _ _ _ h => h) (Or.inl ⟨by rfl, ?_⟩) ?_ ?_; rotate_left; (· intro w'; go_simp; with_reducible rfl); rotate_left; (· simp only [Act.put, List.setIfInBounds_toArray, List.set_cons_zero, List.set_cons_succ, i64_w, i32_w]; rfl))
  iterate 2 (refine runT (v := ?_) (a' := ?_) rfl rfl (by kernel_rfl) (fun _ _ _ h => h) (Or.inl ⟨by rfl, ?_⟩) hHeld ?_ ?_; rotate_left; (· rintro w' ⟨s0, s1, s2, s3, s4⟩; go_simp; with_reducible rfl); rotate_left; (· simp only [Act.put, List.setIfInBounds_toArray, List.set_cons_zero, List.set_cons_succ, i64_w, i32_w]; rfl))
  refine runE ?_
  refine one_ (i := 10) (N := some 53) #[true, true, true, true, true, true, true, true, true, true, true, true, true, false, false, false, false, false, false, false, false, false, false, false, false] rfl rfl (by kernel_rfl) (by decide) (fun K hK => ?_)
  refine gO Try.func43 #[.slice A0_1 l0_1.length c0_1, .func (.func 38) #[] #[]] ?_
  have HK_ := ent34 A0_1 c0_1 l0_1 _ (Kd.C_below HR1.out HBs0.out) HL1.out
  with_reducible refine HK_.mono ?_
  clear HK_
  rintro e we1 ⟨v1, rfl, hr, hb⟩
  refine ⟨_, rfl, ?_⟩
  obtain ⟨AE1, cE1, eE⟩ := Kd.R_slice hr
  subst eE
  have HE1 := Aside0.mk (Kd.R_reads' hr).2.2
  have X2e1 := Aside0.mk (blk_below X2s0.out hb)
  have X3e1 := Aside0.mk (blk_below X3s0.out hb)
  have HMe1 := Aside0.mk (cmap_kept HMs0.out (grown_of hb) (by simp))
  have HBe1 := Aside0.mk (below_step HBs0.out hb)
  clear hr hb
  refine hK.out _ _ ⟨blk_cell' X2e1.out 0 _ rfl, blk_cell' X2e1.out 1 _ rfl, blk_cell' X2e1.out 2 _ rfl, blk_cell' X3e1.out 0 _ rfl, blk_cell' X3e1.out 1 _ rfl⟩ (fun hHeld => ?_)
  clear hK K
  refine norm_ (a' := ?_) ?_ ?_
  rotate_left
  ·show Act.put _ (some 53) _ = _
   simp only [Act.put, List.setIfInBounds_toArray, List.set_cons_zero, List.set_cons_succ, i64_w, i32_w]
   rfl
  refine one_ (i := 13) (N := some 56) #[true, true, true, true, true, true, true, true, true, true, true, true, true, true, false, false, false, false, false, false, false, false, false, false, false] rfl rfl (by kernel_rfl) (by decide) (fun K hK => ?_)
  refine gO Try.func42 #[.slice AE1 l0_1.length cE1, .agg #[.int .i64 a1_0, .int .i64 a1_1], .map (some b)] ?_
  have HK_ := snd34.calls AE1 cE1 l0_1 a1_0 a1_1 b _ _ HE1.out HDT.out HMe1.out (by have := HSZ.out; simp only [List.length_append, List.length_map, List.length_nil]; omega)
  rw [HS1.out] at HK_
  with_reducible refine HK_.mono ?_
  clear HK_
  rintro e ws1 ⟨rfl, hcm, hg⟩
  refine ⟨_, rfl, ?_⟩
  have X2s1 := Aside0.mk (blk_grown' X2e1.out hg (cmap_ne HMe1.out X2e1.out))
  have X3s1 := Aside0.mk (blk_grown' X3e1.out hg (cmap_ne HMe1.out X3e1.out))
  have HBs1 := Aside0.mk (HBe1.out.grown hg HBe1.out.size (fun k hk => by injection hk with hk; rw [← hk]; exact GEB.out))
  clear hcm hg
  refine hK.out _ _ ⟨blk_cell' X2s1.out 0 _ rfl, blk_cell' X2s1.out 1 _ rfl, blk_cell' X2s1.out 2 _ rfl, blk_cell' X3s1.out 0 _ rfl, blk_cell' X3s1.out 1 _ rfl⟩ (fun hHeld => ?_)
  clear hK K
  refine norm_ (a' := ?_) ?_ ?_
  rotate_left
  ·show Act.put _ (some 56) _ = _
   simp only [Act.put, List.setIfInBounds_toArray, List.set_cons_zero, List.set_cons_succ, i64_w, i32_w]
   rfl
  refine run_ [(14, some 57), (15, some 58), (16, some 59), (17, some 60), (18, some 61), (19, some 62), (20, some 63), (21, some 64), (22, some 65), (23, some 66), (24, some 67)] ?_
  iterate 3 (refine runP (v := ?_) (a' := ?_) rfl rfl (by kernel_rfl) (fun _ _ _ h => h) (Or.inl ⟨by rfl, ?_⟩) ?_ ?_; rotate_left; (· intro w'; go_simp; with_reducible rfl); rotate_left; (· simp only [Act.put, List.setIfInBounds_toArray, List.set_cons_zero, List.set_cons_succ, i64_w, i32_w]; rfl))
  iterate 7 (refine runP (v := undef) (a' := ?_) rfl rfl (by kernel_rfl) (fun _ _ _ h => h) (Or.inr ⟨by rfl, rfl⟩) ?_ ?_; rotate_left; (· simp only [Act.put, List.setIfInBounds_toArray, List.set_cons_zero, List.set_cons_succ, i64_w, i32_w]; rfl))
  refine runP (v := ?_) (a' := ?_) rfl rfl (by kernel_rfl) (fun _ _ _ h => h) (Or.inl ⟨by rfl, ?_⟩) ?_ ?_; rotate_left; (· intro w'; go_simp; with_reducible rfl); rotate_left; (· simp only [Act.put, List.setIfInBounds_toArray, List.set_cons_zero, List.set_cons_succ, i64_w, i32_w]; rfl)
  refine runE ?_
  refine done_ (by kernel_rfl) ?_
  go_wp2
  go_ret
  exact ⟨rfl, HBs1.out⟩
 have HS1 := Aside0.mk hs1
 rw [hs1, if_neg (by decide)] at HVB
 clear hs1
 cases hs2 : snd51 a1_0 a1_1 (-1) l0_2
 ·have HS2 := Aside0.mk hs2
  obtain rfl : false = r := by rw [← HVB.out, if_pos hs2]
  clear hs2 HVB
  go_enter Try.func17, Try.ntmps17
  go_wp2_with (first
   | ((with_reducible refine gate_dst (N := 2) rfl ?_); refine bE (N := 2) (cs := #[.slice A0_0 l0_0.length c0_0, .slice A0_1 l0_1.length c0_1, .slice A0_2 l0_2.length c0_2]) (t := 26) ?_; intro g2 hg w1 hbox hb; have X2 := Aside0.mk hbox; have HB1 := Aside0.mk (below_step HB0.out hb); clear hb hbox hg)
   | ((with_reducible refine gate_dst (N := 3) rfl ?_); refine bE (N := 3) (cs := #[.int .i64 a1_0, .int .i64 a1_1]) (t := 28) ?_; intro g3 hg w2 hbox hb; have X3 := Aside0.mk hbox; have X2' := Aside0.mk (blk_below X2.out hb); clear X2; have X2 := X2'; clear X2'; have HB2 := Aside0.mk (below_step HB1.out hb); have y0 := blk_cell' X2.out 0 _ rfl; have y1 := blk_cell' X2.out 1 _ rfl; have y2 := blk_cell' X2.out 2 _ rfl; have z0 := blk_cell' X3.out 0 _ rfl; have z1 := blk_cell' X3.out 1 _ rfl; clear hb hbox hg))
  have HMd : Aside0 (CMap (w2.alloc (.map #[] 0)).drew w2.heap.size []) := ⟨cmap_kept (row := none) ⟨.map [], World.ownsMap_made w2 Try.prog 3 _, cnt_nil⟩ (grown_of (below_drew1 (Below.refl _ _))) (by simp)⟩
  have GEB := Aside0.mk HB2.out.size
  have X2d := Aside0.mk (blk_drew (blk_alloc X2.out (.map #[] 0)))
  have X3d := Aside0.mk (blk_drew (blk_alloc X3.out (.map #[] 0)))
  have HBd := Aside0.mk (below_drew1 (below_alloc HB2.out (.map #[] 0)))
  clear X2 X3 HB1 HB2 y0 y1 y2 z0 z1
  generalize hb_ : w2.heap.size = b at HMd GEB ⊢
  clear hb_
  generalize w2.alloc (.map #[] 0) = w3 at HMd X2d X3d HBd ⊢
  refine start_ (n := 25) (S := fun w' => w'.cell? ⟨g2, 0, none⟩ = some (.slice A0_0 l0_0.length c0_0) ∧ w'.cell? ⟨g2, 1, none⟩ = some (.slice A0_1 l0_1.length c0_1) ∧ w'.cell? ⟨g2, 2, none⟩ = some (.slice A0_2 l0_2.length c0_2) ∧ w'.cell? ⟨g3, 0, none⟩ = some (.int .i64 a1_0) ∧ w'.cell? ⟨g3, 1, none⟩ = some (.int .i64 a1_1)) (ds := []) #[false, false, false, false, false, false, false, false, false, false, false, false, false, false, false, false, false, false, false, false, false, false, false, false, false] (by kernel_rfl) rfl rfl ⟨blk_cell' X2d.out 0 _ rfl, blk_cell' X2d.out 1 _ rfl, blk_cell' X2d.out 2 _ rfl, blk_cell' X3d.out 0 _ rfl, blk_cell' X3d.out 1 _ rfl⟩ (fun hHeld => ?_)
  refine run_ [(0, some 43), (4, some 47), (1, some 44), (3, some 46)] ?_
  iterate 2 (refine runP (v := ?_) (a' := ?_) rfl rfl (by kernel_rfl) (fun _ _ _ h => h) (Or.inl ⟨by rfl, ?_⟩) ?_ ?_; rotate_left; (· intro w'; go_simp; with_reducible rfl); rotate_left; (· simp only [Act.put, List.setIfInBounds_toArray, List.set_cons_zero, List.set_cons_succ, i64_w, i32_w]; rfl))
  iterate 2 (refine runT (v := ?_) (a' := ?_) rfl rfl (by kernel_rfl) (fun _ _ _ h => h) (Or.inl ⟨by rfl, ?_⟩) hHeld ?_ ?_; rotate_left; (· rintro w' ⟨s0, s1, s2, s3, s4⟩; go_simp; with_reducible rfl); rotate_left; (· simp only [Act.put, List.setIfInBounds_toArray, List.set_cons_zero, List.set_cons_succ, i64_w, i32_w]; rfl))
  refine runE ?_
  refine one_ (i := 2) (N := some 45) #[true, true, true, true, true, false, false, false, false, false, false, false, false, false, false, false, false, false, false, false, false, false, false, false, false] rfl rfl (by kernel_rfl) (by decide) (fun K hK => ?_)
  refine gO Try.func41 #[.slice A0_0 l0_0.length c0_0, .func (.func 31) #[] #[]] ?_
  have HK_ := ent32 A0_0 c0_0 l0_0 _ (Kd.C_below HR0.out HBd.out) HL0.out
  with_reducible refine HK_.mono ?_
  clear HK_
  rintro e we0 ⟨v0, rfl, hr, hb⟩
  refine ⟨_, rfl, ?_⟩
  obtain ⟨AE0, cE0, eE⟩ := Kd.R_slice hr
  subst eE
  have HE0 := Aside0.mk (Kd.R_reads' hr).2.2
  have X2e0 := Aside0.mk (blk_below X2d.out hb)
  have X3e0 := Aside0.mk (blk_below X3d.out hb)
  have HMe0 := Aside0.mk (cmap_kept HMd.out (grown_of hb) (by simp))
  have HBe0 := Aside0.mk (below_step HBd.out hb)
  clear hr hb
  refine hK.out _ _ ⟨blk_cell' X2e0.out 0 _ rfl, blk_cell' X2e0.out 1 _ rfl, blk_cell' X2e0.out 2 _ rfl, blk_cell' X3e0.out 0 _ rfl, blk_cell' X3e0.out 1 _ rfl⟩ (fun hHeld => ?_)
  clear hK K
  refine norm_ (a' := ?_) ?_ ?_
  rotate_left
  ·show Act.put _ (some 45) _ = _
   simp only [Act.put, List.setIfInBounds_toArray, List.set_cons_zero, List.set_cons_succ, i64_w, i32_w]
   rfl
  refine one_ (i := 5) (N := some 48) #[true, true, true, true, true, true, false, false, false, false, false, false, false, false, false, false, false, false, false, false, false, false, false, false, false] rfl rfl (by kernel_rfl) (by decide) (fun K hK => ?_)
  refine gO Try.func40 #[.slice AE0 l0_0.length cE0, .agg #[.int .i64 a1_0, .int .i64 a1_1], .map (some b)] ?_
  have HK_ := snd32.calls AE0 cE0 l0_0 a1_0 a1_1 b _ _ HE0.out HDT.out HMe0.out (by have := HSZ.out; simp only [List.length_append, List.length_map, List.length_nil]; omega)
  rw [HS0.out] at HK_
  with_reducible refine HK_.mono ?_
  clear HK_
  rintro e ws0 ⟨rfl, hcm, hg⟩
  refine ⟨_, rfl, ?_⟩
  have X2s0 := Aside0.mk (blk_grown' X2e0.out hg (cmap_ne HMe0.out X2e0.out))
  have X3s0 := Aside0.mk (blk_grown' X3e0.out hg (cmap_ne HMe0.out X3e0.out))
  have HBs0 := Aside0.mk (HBe0.out.grown hg HBe0.out.size (fun k hk => by injection hk with hk; rw [← hk]; exact GEB.out))
  have HMs0 := Aside0.mk (hcm rfl)
  clear hcm hg
  refine hK.out _ _ ⟨blk_cell' X2s0.out 0 _ rfl, blk_cell' X2s0.out 1 _ rfl, blk_cell' X2s0.out 2 _ rfl, blk_cell' X3s0.out 0 _ rfl, blk_cell' X3s0.out 1 _ rfl⟩ (fun hHeld => ?_)
  clear hK K
  refine norm_ (a' := ?_) ?_ ?_
  rotate_left
  ·show Act.put _ (some 48) _ = _
   simp only [Act.put, List.setIfInBounds_toArray, List.set_cons_zero, List.set_cons_succ, i64_w, i32_w]
   rfl
  refine run_ [(6, some 49), (7, some 50), (8, some 51), (12, some 55), (9, some 52), (11, some 54)] ?_
  iterate 4 (refine runP (v := ?_) (a' := ?_) rfl rfl (by kernel_rfl) (fun _ _ _ h => h) (Or.inl ⟨by rfl, ?_⟩) ?_ ?_; rotate_left; (· intro w'; go_simp; with_reducible rfl); rotate_left; (· simp only [Act.put, List.setIfInBounds_toArray, List.set_cons_zero, List.set_cons_succ, i64_w, i32_w]; rfl))
  iterate 2 (refine runT (v := ?_) (a' := ?_) rfl rfl (by kernel_rfl) (fun _ _ _ h => h) (Or.inl ⟨by rfl, ?_⟩) hHeld ?_ ?_; rotate_left; (· rintro w' ⟨s0, s1, s2, s3, s4⟩; go_simp; with_reducible rfl); rotate_left; (· simp only [Act.put, List.setIfInBounds_toArray, List.set_cons_zero, List.set_cons_succ, i64_w, i32_w]; rfl))
  refine runE ?_
  refine one_ (i := 10) (N := some 53) #[true, true, true, true, true, true, true, true, true, true, true, true, true, false, false, false, false, false, false, false, false, false, false, false, false] rfl rfl (by kernel_rfl) (by decide) (fun K hK => ?_)
  refine gO Try.func43 #[.slice A0_1 l0_1.length c0_1, .func (.func 38) #[] #[]] ?_
  have HK_ := ent34 A0_1 c0_1 l0_1 _ (Kd.C_below HR1.out HBs0.out) HL1.out
  with_reducible refine HK_.mono ?_
  clear HK_
  rintro e we1 ⟨v1, rfl, hr, hb⟩
  refine ⟨_, rfl, ?_⟩
  obtain ⟨AE1, cE1, eE⟩ := Kd.R_slice hr
  subst eE
  have HE1 := Aside0.mk (Kd.R_reads' hr).2.2
  have X2e1 := Aside0.mk (blk_below X2s0.out hb)
  have X3e1 := Aside0.mk (blk_below X3s0.out hb)
  have HMe1 := Aside0.mk (cmap_kept HMs0.out (grown_of hb) (by simp))
  have HBe1 := Aside0.mk (below_step HBs0.out hb)
  clear hr hb
  refine hK.out _ _ ⟨blk_cell' X2e1.out 0 _ rfl, blk_cell' X2e1.out 1 _ rfl, blk_cell' X2e1.out 2 _ rfl, blk_cell' X3e1.out 0 _ rfl, blk_cell' X3e1.out 1 _ rfl⟩ (fun hHeld => ?_)
  clear hK K
  refine norm_ (a' := ?_) ?_ ?_
  rotate_left
  ·show Act.put _ (some 53) _ = _
   simp only [Act.put, List.setIfInBounds_toArray, List.set_cons_zero, List.set_cons_succ, i64_w, i32_w]
   rfl
  refine one_ (i := 13) (N := some 56) #[true, true, true, true, true, true, true, true, true, true, true, true, true, true, false, false, false, false, false, false, false, false, false, false, false] rfl rfl (by kernel_rfl) (by decide) (fun K hK => ?_)
  refine gO Try.func42 #[.slice AE1 l0_1.length cE1, .agg #[.int .i64 a1_0, .int .i64 a1_1], .map (some b)] ?_
  have HK_ := snd34.calls AE1 cE1 l0_1 a1_0 a1_1 b _ _ HE1.out HDT.out HMe1.out (by have := HSZ.out; simp only [List.length_append, List.length_map, List.length_nil]; omega)
  rw [HS1.out] at HK_
  with_reducible refine HK_.mono ?_
  clear HK_
  rintro e ws1 ⟨rfl, hcm, hg⟩
  refine ⟨_, rfl, ?_⟩
  have X2s1 := Aside0.mk (blk_grown' X2e1.out hg (cmap_ne HMe1.out X2e1.out))
  have X3s1 := Aside0.mk (blk_grown' X3e1.out hg (cmap_ne HMe1.out X3e1.out))
  have HBs1 := Aside0.mk (HBe1.out.grown hg HBe1.out.size (fun k hk => by injection hk with hk; rw [← hk]; exact GEB.out))
  have HMs1 := Aside0.mk (hcm rfl)
  clear hcm hg
  refine hK.out _ _ ⟨blk_cell' X2s1.out 0 _ rfl, blk_cell' X2s1.out 1 _ rfl, blk_cell' X2s1.out 2 _ rfl, blk_cell' X3s1.out 0 _ rfl, blk_cell' X3s1.out 1 _ rfl⟩ (fun hHeld => ?_)
  clear hK K
  refine norm_ (a' := ?_) ?_ ?_
  rotate_left
  ·show Act.put _ (some 56) _ = _
   simp only [Act.put, List.setIfInBounds_toArray, List.set_cons_zero, List.set_cons_succ, i64_w, i32_w]
   rfl
  refine run_ [(14, some 57), (15, some 58), (16, some 59), (17, some 60), (21, some 64), (18, some 61), (20, some 63)] ?_
  iterate 5 (refine runP (v := ?_) (a' := ?_) rfl rfl (by kernel_rfl) (fun _ _ _ h => h) (Or.inl ⟨by rfl, ?_⟩) ?_ ?_; rotate_left; (· intro w'; go_simp; with_reducible rfl); rotate_left; (· simp only [Act.put, List.setIfInBounds_toArray, List.set_cons_zero, List.set_cons_succ, i64_w, i32_w]; rfl))
  iterate 2 (refine runT (v := ?_) (a' := ?_) rfl rfl (by kernel_rfl) (fun _ _ _ h => h) (Or.inl ⟨by rfl, ?_⟩) hHeld ?_ ?_; rotate_left; (· rintro w' ⟨s0, s1, s2, s3, s4⟩; go_simp; with_reducible rfl); rotate_left; (· simp only [Act.put, List.setIfInBounds_toArray, List.set_cons_zero, List.set_cons_succ, i64_w, i32_w]; rfl))
  refine runE ?_
  refine one_ (i := 19) (N := some 62) #[true, true, true, true, true, true, true, true, true, true, true, true, true, true, true, true, true, true, true, true, true, true, false, false, false] rfl rfl (by kernel_rfl) (by decide) (fun K hK => ?_)
  refine gO Try.func45 #[.slice A0_2 l0_2.length c0_2, .func (.func 46) #[] #[]] ?_
  have HK_ := ent51 A0_2 c0_2 l0_2 _ (Kd.C_below HR2.out HBs1.out) HL2.out
  with_reducible refine HK_.mono ?_
  clear HK_
  rintro e we2 ⟨v2, rfl, hr, hb⟩
  refine ⟨_, rfl, ?_⟩
  obtain ⟨AE2, cE2, eE⟩ := Kd.R_slice hr
  subst eE
  have HE2 := Aside0.mk (Kd.R_reads' hr).2.2
  have X2e2 := Aside0.mk (blk_below X2s1.out hb)
  have X3e2 := Aside0.mk (blk_below X3s1.out hb)
  have HMe2 := Aside0.mk (cmap_kept HMs1.out (grown_of hb) (by simp))
  have HBe2 := Aside0.mk (below_step HBs1.out hb)
  clear hr hb
  refine hK.out _ _ ⟨blk_cell' X2e2.out 0 _ rfl, blk_cell' X2e2.out 1 _ rfl, blk_cell' X2e2.out 2 _ rfl, blk_cell' X3e2.out 0 _ rfl, blk_cell' X3e2.out 1 _ rfl⟩ (fun hHeld => ?_)
  clear hK K
  refine norm_ (a' := ?_) ?_ ?_
  rotate_left
  ·show Act.put _ (some 62) _ = _
   simp only [Act.put, List.setIfInBounds_toArray, List.set_cons_zero, List.set_cons_succ, i64_w, i32_w]
   rfl
  refine one_ (i := 22) (N := some 65) #[true, true, true, true, true, true, true, true, true, true, true, true, true, true, true, true, true, true, true, true, true, true, true, false, false] rfl rfl (by kernel_rfl) (by decide) (fun K hK => ?_)
  refine gO Try.func44 #[.slice AE2 l0_2.length cE2, .agg #[.int .i64 a1_0, .int .i64 a1_1], .map (some b)] ?_
  have HK_ := snd51.calls AE2 cE2 l0_2 a1_0 a1_1 b _ _ HE2.out HDT.out HMe2.out (by have := HSZ.out; simp only [List.length_append, List.length_map, List.length_nil]; omega)
  rw [HS2.out] at HK_
  with_reducible refine HK_.mono ?_
  clear HK_
  rintro e ws2 ⟨rfl, hcm, hg⟩
  refine ⟨_, rfl, ?_⟩
  have X2s2 := Aside0.mk (blk_grown' X2e2.out hg (cmap_ne HMe2.out X2e2.out))
  have X3s2 := Aside0.mk (blk_grown' X3e2.out hg (cmap_ne HMe2.out X3e2.out))
  have HBs2 := Aside0.mk (HBe2.out.grown hg HBe2.out.size (fun k hk => by injection hk with hk; rw [← hk]; exact GEB.out))
  have HMs2 := Aside0.mk hcm
  clear hcm hg
  refine hK.out _ _ ⟨blk_cell' X2s2.out 0 _ rfl, blk_cell' X2s2.out 1 _ rfl, blk_cell' X2s2.out 2 _ rfl, blk_cell' X3s2.out 0 _ rfl, blk_cell' X3s2.out 1 _ rfl⟩ (fun hHeld => ?_)
  clear hK K
  refine norm_ (a' := ?_) ?_ ?_
  rotate_left
  ·show Act.put _ (some 65) _ = _
   simp only [Act.put, List.setIfInBounds_toArray, List.set_cons_zero, List.set_cons_succ, i64_w, i32_w]
   rfl
  refine run_ [(23, some 66), (24, some 67)] ?_
  iterate 2 (refine runP (v := ?_) (a' := ?_) rfl rfl (by kernel_rfl) (fun _ _ _ h => h) (Or.inl ⟨by rfl, ?_⟩) ?_ ?_; rotate_left; (· intro w'; go_simp; with_reducible rfl); rotate_left; (· simp only [Act.put, List.setIfInBounds_toArray, List.set_cons_zero, List.set_cons_succ, i64_w, i32_w]; rfl))
  refine runE ?_
  refine done_ (by kernel_rfl) ?_
  go_wp2
  go_ret
  exact ⟨rfl, HBs2.out⟩
 have HS2 := Aside0.mk hs2
 rw [hs2, if_neg (by decide)] at HVB
 clear hs2
 go_enter Try.func17, Try.ntmps17
 go_wp2_with (first
  | ((with_reducible refine gate_dst (N := 2) rfl ?_); refine bE (N := 2) (cs := #[.slice A0_0 l0_0.length c0_0, .slice A0_1 l0_1.length c0_1, .slice A0_2 l0_2.length c0_2]) (t := 26) ?_; intro g2 hg w1 hbox hb; have X2 := Aside0.mk hbox; have HB1 := Aside0.mk (below_step HB0.out hb); clear hb hbox hg)
  | ((with_reducible refine gate_dst (N := 3) rfl ?_); refine bE (N := 3) (cs := #[.int .i64 a1_0, .int .i64 a1_1]) (t := 28) ?_; intro g3 hg w2 hbox hb; have X3 := Aside0.mk hbox; have X2' := Aside0.mk (blk_below X2.out hb); clear X2; have X2 := X2'; clear X2'; have HB2 := Aside0.mk (below_step HB1.out hb); have y0 := blk_cell' X2.out 0 _ rfl; have y1 := blk_cell' X2.out 1 _ rfl; have y2 := blk_cell' X2.out 2 _ rfl; have z0 := blk_cell' X3.out 0 _ rfl; have z1 := blk_cell' X3.out 1 _ rfl; clear hb hbox hg))
 have HMd : Aside0 (CMap (w2.alloc (.map #[] 0)).drew w2.heap.size []) := ⟨cmap_kept (row := none) ⟨.map [], World.ownsMap_made w2 Try.prog 3 _, cnt_nil⟩ (grown_of (below_drew1 (Below.refl _ _))) (by simp)⟩
 have GEB := Aside0.mk HB2.out.size
 have X2d := Aside0.mk (blk_drew (blk_alloc X2.out (.map #[] 0)))
 have X3d := Aside0.mk (blk_drew (blk_alloc X3.out (.map #[] 0)))
 have HBd := Aside0.mk (below_drew1 (below_alloc HB2.out (.map #[] 0)))
 clear X2 X3 HB1 HB2 y0 y1 y2 z0 z1
 generalize hb_ : w2.heap.size = b at HMd GEB ⊢
 clear hb_
 generalize w2.alloc (.map #[] 0) = w3 at HMd X2d X3d HBd ⊢
 refine start_ (n := 25) (S := fun w' => w'.cell? ⟨g2, 0, none⟩ = some (.slice A0_0 l0_0.length c0_0) ∧ w'.cell? ⟨g2, 1, none⟩ = some (.slice A0_1 l0_1.length c0_1) ∧ w'.cell? ⟨g2, 2, none⟩ = some (.slice A0_2 l0_2.length c0_2) ∧ w'.cell? ⟨g3, 0, none⟩ = some (.int .i64 a1_0) ∧ w'.cell? ⟨g3, 1, none⟩ = some (.int .i64 a1_1)) (ds := []) #[false, false, false, false, false, false, false, false, false, false, false, false, false, false, false, false, false, false, false, false, false, false, false, false, false] (by kernel_rfl) rfl rfl ⟨blk_cell' X2d.out 0 _ rfl, blk_cell' X2d.out 1 _ rfl, blk_cell' X2d.out 2 _ rfl, blk_cell' X3d.out 0 _ rfl, blk_cell' X3d.out 1 _ rfl⟩ (fun hHeld => ?_)
 refine run_ [(0, some 43), (4, some 47), (1, some 44), (3, some 46)] ?_
 iterate 2 (refine runP (v := ?_) (a' := ?_) rfl rfl (by kernel_rfl) (fun _ _ _ h => h) (Or.inl ⟨by rfl, ?_⟩) ?_ ?_; rotate_left; (· intro w'; go_simp; with_reducible rfl); rotate_left; (· simp only [Act.put, List.setIfInBounds_toArray, List.set_cons_zero, List.set_cons_succ, i64_w, i32_w]; rfl))
 iterate 2 (refine runT (v := ?_) (a' := ?_) rfl rfl (by kernel_rfl) (fun _ _ _ h => h) (Or.inl ⟨by rfl, ?_⟩) hHeld ?_ ?_; rotate_left; (· rintro w' ⟨s0, s1, s2, s3, s4⟩; go_simp; with_reducible rfl); rotate_left; (· simp only [Act.put, List.setIfInBounds_toArray, List.set_cons_zero, List.set_cons_succ, i64_w, i32_w]; rfl))
 refine runE ?_
 refine one_ (i := 2) (N := some 45) #[true, true, true, true, true, false, false, false, false, false, false, false, false, false, false, false, false, false, false, false, false, false, false, false, false] rfl rfl (by kernel_rfl) (by decide) (fun K hK => ?_)
 refine gO Try.func41 #[.slice A0_0 l0_0.length c0_0, .func (.func 31) #[] #[]] ?_
 have HK_ := ent32 A0_0 c0_0 l0_0 _ (Kd.C_below HR0.out HBd.out) HL0.out
 with_reducible refine HK_.mono ?_
 clear HK_
 rintro e we0 ⟨v0, rfl, hr, hb⟩
 refine ⟨_, rfl, ?_⟩
 obtain ⟨AE0, cE0, eE⟩ := Kd.R_slice hr
 subst eE
 have HE0 := Aside0.mk (Kd.R_reads' hr).2.2
 have X2e0 := Aside0.mk (blk_below X2d.out hb)
 have X3e0 := Aside0.mk (blk_below X3d.out hb)
 have HMe0 := Aside0.mk (cmap_kept HMd.out (grown_of hb) (by simp))
 have HBe0 := Aside0.mk (below_step HBd.out hb)
 clear hr hb
 refine hK.out _ _ ⟨blk_cell' X2e0.out 0 _ rfl, blk_cell' X2e0.out 1 _ rfl, blk_cell' X2e0.out 2 _ rfl, blk_cell' X3e0.out 0 _ rfl, blk_cell' X3e0.out 1 _ rfl⟩ (fun hHeld => ?_)
 clear hK K
 refine norm_ (a' := ?_) ?_ ?_
 rotate_left
 ·show Act.put _ (some 45) _ = _
  simp only [Act.put, List.setIfInBounds_toArray, List.set_cons_zero, List.set_cons_succ, i64_w, i32_w]
  rfl
 refine one_ (i := 5) (N := some 48) #[true, true, true, true, true, true, false, false, false, false, false, false, false, false, false, false, false, false, false, false, false, false, false, false, false] rfl rfl (by kernel_rfl) (by decide) (fun K hK => ?_)
 refine gO Try.func40 #[.slice AE0 l0_0.length cE0, .agg #[.int .i64 a1_0, .int .i64 a1_1], .map (some b)] ?_
 have HK_ := snd32.calls AE0 cE0 l0_0 a1_0 a1_1 b _ _ HE0.out HDT.out HMe0.out (by have := HSZ.out; simp only [List.length_append, List.length_map, List.length_nil]; omega)
 rw [HS0.out] at HK_
 with_reducible refine HK_.mono ?_
 clear HK_
 rintro e ws0 ⟨rfl, hcm, hg⟩
 refine ⟨_, rfl, ?_⟩
 have X2s0 := Aside0.mk (blk_grown' X2e0.out hg (cmap_ne HMe0.out X2e0.out))
 have X3s0 := Aside0.mk (blk_grown' X3e0.out hg (cmap_ne HMe0.out X3e0.out))
 have HBs0 := Aside0.mk (HBe0.out.grown hg HBe0.out.size (fun k hk => by injection hk with hk; rw [← hk]; exact GEB.out))
 have HMs0 := Aside0.mk (hcm rfl)
 clear hcm hg
 refine hK.out _ _ ⟨blk_cell' X2s0.out 0 _ rfl, blk_cell' X2s0.out 1 _ rfl, blk_cell' X2s0.out 2 _ rfl, blk_cell' X3s0.out 0 _ rfl, blk_cell' X3s0.out 1 _ rfl⟩ (fun hHeld => ?_)
 clear hK K
 refine norm_ (a' := ?_) ?_ ?_
 rotate_left
 ·show Act.put _ (some 48) _ = _
  simp only [Act.put, List.setIfInBounds_toArray, List.set_cons_zero, List.set_cons_succ, i64_w, i32_w]
  rfl
 refine run_ [(6, some 49), (7, some 50), (8, some 51), (12, some 55), (9, some 52), (11, some 54)] ?_
 iterate 4 (refine runP (v := ?_) (a' := ?_) rfl rfl (by kernel_rfl) (fun _ _ _ h => h) (Or.inl ⟨by rfl, ?_⟩) ?_ ?_; rotate_left; (· intro w'; go_simp; with_reducible rfl); rotate_left; (· simp only [Act.put, List.setIfInBounds_toArray, List.set_cons_zero, List.set_cons_succ, i64_w, i32_w]; rfl))
 iterate 2 (refine runT (v := ?_) (a' := ?_) rfl rfl (by kernel_rfl) (fun _ _ _ h => h) (Or.inl ⟨by rfl, ?_⟩) hHeld ?_ ?_; rotate_left; (· rintro w' ⟨s0, s1, s2, s3, s4⟩; go_simp; with_reducible rfl); rotate_left; (· simp only [Act.put, List.setIfInBounds_toArray, List.set_cons_zero, List.set_cons_succ, i64_w, i32_w]; rfl))
 refine runE ?_
 refine one_ (i := 10) (N := some 53) #[true, true, true, true, true, true, true, true, true, true, true, true, true, false, false, false, false, false, false, false, false, false, false, false, false] rfl rfl (by kernel_rfl) (by decide) (fun K hK => ?_)
 refine gO Try.func43 #[.slice A0_1 l0_1.length c0_1, .func (.func 38) #[] #[]] ?_
 have HK_ := ent34 A0_1 c0_1 l0_1 _ (Kd.C_below HR1.out HBs0.out) HL1.out
 with_reducible refine HK_.mono ?_
 clear HK_
 rintro e we1 ⟨v1, rfl, hr, hb⟩
 refine ⟨_, rfl, ?_⟩
 obtain ⟨AE1, cE1, eE⟩ := Kd.R_slice hr
 subst eE
 have HE1 := Aside0.mk (Kd.R_reads' hr).2.2
 have X2e1 := Aside0.mk (blk_below X2s0.out hb)
 have X3e1 := Aside0.mk (blk_below X3s0.out hb)
 have HMe1 := Aside0.mk (cmap_kept HMs0.out (grown_of hb) (by simp))
 have HBe1 := Aside0.mk (below_step HBs0.out hb)
 clear hr hb
 refine hK.out _ _ ⟨blk_cell' X2e1.out 0 _ rfl, blk_cell' X2e1.out 1 _ rfl, blk_cell' X2e1.out 2 _ rfl, blk_cell' X3e1.out 0 _ rfl, blk_cell' X3e1.out 1 _ rfl⟩ (fun hHeld => ?_)
 clear hK K
 refine norm_ (a' := ?_) ?_ ?_
 rotate_left
 ·show Act.put _ (some 53) _ = _
  simp only [Act.put, List.setIfInBounds_toArray, List.set_cons_zero, List.set_cons_succ, i64_w, i32_w]
  rfl
 refine one_ (i := 13) (N := some 56) #[true, true, true, true, true, true, true, true, true, true, true, true, true, true, false, false, false, false, false, false, false, false, false, false, false] rfl rfl (by kernel_rfl) (by decide) (fun K hK => ?_)
 refine gO Try.func42 #[.slice AE1 l0_1.length cE1, .agg #[.int .i64 a1_0, .int .i64 a1_1], .map (some b)] ?_
 have HK_ := snd34.calls AE1 cE1 l0_1 a1_0 a1_1 b _ _ HE1.out HDT.out HMe1.out (by have := HSZ.out; simp only [List.length_append, List.length_map, List.length_nil]; omega)
 rw [HS1.out] at HK_
 with_reducible refine HK_.mono ?_
 clear HK_
 rintro e ws1 ⟨rfl, hcm, hg⟩
 refine ⟨_, rfl, ?_⟩
 have X2s1 := Aside0.mk (blk_grown' X2e1.out hg (cmap_ne HMe1.out X2e1.out))
 have X3s1 := Aside0.mk (blk_grown' X3e1.out hg (cmap_ne HMe1.out X3e1.out))
 have HBs1 := Aside0.mk (HBe1.out.grown hg HBe1.out.size (fun k hk => by injection hk with hk; rw [← hk]; exact GEB.out))
 have HMs1 := Aside0.mk (hcm rfl)
 clear hcm hg
 refine hK.out _ _ ⟨blk_cell' X2s1.out 0 _ rfl, blk_cell' X2s1.out 1 _ rfl, blk_cell' X2s1.out 2 _ rfl, blk_cell' X3s1.out 0 _ rfl, blk_cell' X3s1.out 1 _ rfl⟩ (fun hHeld => ?_)
 clear hK K
 refine norm_ (a' := ?_) ?_ ?_
 rotate_left
 ·show Act.put _ (some 56) _ = _
  simp only [Act.put, List.setIfInBounds_toArray, List.set_cons_zero, List.set_cons_succ, i64_w, i32_w]
  rfl
 refine run_ [(14, some 57), (15, some 58), (16, some 59), (17, some 60), (21, some 64), (18, some 61), (20, some 63)] ?_
 iterate 5 (refine runP (v := ?_) (a' := ?_) rfl rfl (by kernel_rfl) (fun _ _ _ h => h) (Or.inl ⟨by rfl, ?_⟩) ?_ ?_; rotate_left; (· intro w'; go_simp; with_reducible rfl); rotate_left; (· simp only [Act.put, List.setIfInBounds_toArray, List.set_cons_zero, List.set_cons_succ, i64_w, i32_w]; rfl))
 iterate 2 (refine runT (v := ?_) (a' := ?_) rfl rfl (by kernel_rfl) (fun _ _ _ h => h) (Or.inl ⟨by rfl, ?_⟩) hHeld ?_ ?_; rotate_left; (· rintro w' ⟨s0, s1, s2, s3, s4⟩; go_simp; with_reducible rfl); rotate_left; (· simp only [Act.put, List.setIfInBounds_toArray, List.set_cons_zero, List.set_cons_succ, i64_w, i32_w]; rfl))
 refine runE ?_
 refine one_ (i := 19) (N := some 62) #[true, true, true, true, true, true, true, true, true, true, true, true, true, true, true, true, true, true, true, true, true, true, false, false, false] rfl rfl (by kernel_rfl) (by decide) (fun K hK => ?_)
 refine gO Try.func45 #[.slice A0_2 l0_2.length c0_2, .func (.func 46) #[] #[]] ?_
 have HK_ := ent51 A0_2 c0_2 l0_2 _ (Kd.C_below HR2.out HBs1.out) HL2.out
 with_reducible refine HK_.mono ?_
 clear HK_
 rintro e we2 ⟨v2, rfl, hr, hb⟩
 refine ⟨_, rfl, ?_⟩
 obtain ⟨AE2, cE2, eE⟩ := Kd.R_slice hr
 subst eE
 have HE2 := Aside0.mk (Kd.R_reads' hr).2.2
 have X2e2 := Aside0.mk (blk_below X2s1.out hb)
 have X3e2 := Aside0.mk (blk_below X3s1.out hb)
 have HMe2 := Aside0.mk (cmap_kept HMs1.out (grown_of hb) (by simp))
 have HBe2 := Aside0.mk (below_step HBs1.out hb)
 clear hr hb
 refine hK.out _ _ ⟨blk_cell' X2e2.out 0 _ rfl, blk_cell' X2e2.out 1 _ rfl, blk_cell' X2e2.out 2 _ rfl, blk_cell' X3e2.out 0 _ rfl, blk_cell' X3e2.out 1 _ rfl⟩ (fun hHeld => ?_)
 clear hK K
 refine norm_ (a' := ?_) ?_ ?_
 rotate_left
 ·show Act.put _ (some 62) _ = _
  simp only [Act.put, List.setIfInBounds_toArray, List.set_cons_zero, List.set_cons_succ, i64_w, i32_w]
  rfl
 refine one_ (i := 22) (N := some 65) #[true, true, true, true, true, true, true, true, true, true, true, true, true, true, true, true, true, true, true, true, true, true, true, false, false] rfl rfl (by kernel_rfl) (by decide) (fun K hK => ?_)
 refine gO Try.func44 #[.slice AE2 l0_2.length cE2, .agg #[.int .i64 a1_0, .int .i64 a1_1], .map (some b)] ?_
 have HK_ := snd51.calls AE2 cE2 l0_2 a1_0 a1_1 b _ _ HE2.out HDT.out HMe2.out (by have := HSZ.out; simp only [List.length_append, List.length_map, List.length_nil]; omega)
 rw [HS2.out] at HK_
 with_reducible refine HK_.mono ?_
 clear HK_
 rintro e ws2 ⟨rfl, hcm, hg⟩
 refine ⟨_, rfl, ?_⟩
 have X2s2 := Aside0.mk (blk_grown' X2e2.out hg (cmap_ne HMe2.out X2e2.out))
 have X3s2 := Aside0.mk (blk_grown' X3e2.out hg (cmap_ne HMe2.out X3e2.out))
 have HBs2 := Aside0.mk (HBe2.out.grown hg HBe2.out.size (fun k hk => by injection hk with hk; rw [← hk]; exact GEB.out))
 have HMs2 := Aside0.mk hcm
 clear hcm hg
 refine hK.out _ _ ⟨blk_cell' X2s2.out 0 _ rfl, blk_cell' X2s2.out 1 _ rfl, blk_cell' X2s2.out 2 _ rfl, blk_cell' X3s2.out 0 _ rfl, blk_cell' X3s2.out 1 _ rfl⟩ (fun hHeld => ?_)
 clear hK K
 refine norm_ (a' := ?_) ?_ ?_
 rotate_left
 ·show Act.put _ (some 65) _ = _
  simp only [Act.put, List.setIfInBounds_toArray, List.set_cons_zero, List.set_cons_succ, i64_w, i32_w]
  rfl
 refine run_ [(23, some 66), (24, some 67)] ?_
 iterate 2 (refine runP (v := ?_) (a' := ?_) rfl rfl (by kernel_rfl) (fun _ _ _ h => h) (Or.inl ⟨by rfl, ?_⟩) ?_ ?_; rotate_left; (· intro w'; go_simp; with_reducible rfl); rotate_left; (· simp only [Act.put, List.setIfInBounds_toArray, List.set_cons_zero, List.set_cons_succ, i64_w, i32_w]; rfl))
 refine runE ?_
 refine done_ (by kernel_rfl) ?_
 have hcm := HMs2.out rfl
 rw [List.nil_append] at hcm
 have hcm2 : CMap ws2 b (slotsOf l0_0 l0_1 l0_2) := hcm
 obtain ⟨D, how, hcn⟩ := hcm2
 generalize slotsOf l0_0 l0_1 l0_2 = ss at how hcn HVB
 have HCN := Aside0.mk hcn
 clear hcm hcn HMs2
 go_wp2_with (first | (at_range; refine wpList_range_own _ rfl _ 78 rfl 3 3 law3 Try.underlying78 _ b _ D rfl how ?_; intro w0 hrg0 hg0 hs0) | go_in)
 go_frame
 have HRG0 := Aside0.mk hrg0
 have HBr := Aside0.mk (HBs2.out.grown hg0 HBs2.out.size (fun k hk => by cases hk))
 have GER := Aside0.mk HBs2.out.size
 generalize hb_ : ws2.heap.size = br at *
 clear hrg0 hg0 hs0 how hb_
 go_loopw [7] (fun _ wr => ∃ (left : Lit → Bool) (cnt : Nat), wr.ranges Try.prog 3 (plainElem Try.prog 3) b br ss.length D left cnt ∧ (∀ s : Int, Maps.has D (.int .i64 s) = true → left (.int .i64 s) = false → ss.count s ≤ 1) ∧ Below w.heap.size w wr)
  (fun _ wr => wr.rangeLeft b br)
 case atStart => exact ⟨_, _, HRG0.out, (fun s h1 h2 => by rw [h1] at h2; cases h2), HBr.out⟩
 case round =>
  obtain ⟨left, cnt, hrg, hdone, hbw⟩ := hrel
  have HDONE := Aside0.mk hdone
  have HBW := Aside0.mk hbw
  clear hdone hbw
  go_wp2_with (first | (at_next; refine wpList_next_ranges_ii _ rfl _ rfl 3 3 .i64 .i64 law3 Try.underlying3 Try.underlying3 b br ss.length _ _ _ rfl hrg ?_ ?_) | go_in)
  ·intro _ hl0
   obtain rfl : true = r := by
    rw [← HVB.out]
    exact (dupfree_all fun s hs => HDONE.out s (by rw [(HCN.out.2 s).2]; simpa using hs) (hl0 _)).symm
   go_wp2
   go_ret
   exact ⟨rfl, HBW.out⟩
  intro x cv w1_ cnt1 hwx hwc hlx hat hrg1 hlt hg1 hs1 hen
  have HC : Aside0 (cv = ((ss.count x : Nat) : Int)) := ⟨by have h1 := (HCN.out.2 x).1.symm.trans (hat _); injection h1 with h2; injection h2 with _ h3; exact h3.symm⟩
  have HBW1 := Aside0.mk (HBW.out.grown hg1 HBW.out.size (fun k hk => by injection hk with hk; rw [← hk]; exact GER.out))
  have HRG1 := Aside0.mk hrg1
  have HRG := Aside0.mk hrg
  have HLT := Aside0.mk hlt
  clear hat hrg1 hrg hlt hg1 hs1 hwx hwc hlx
  by_cases hc1 : 1 < cv
  ·have hd1 := decide_eq_true hc1
   obtain rfl : false = r := by
    rw [← HVB.out]
    exact (dupfree_hit (by rw [← HC.out]; exact hc1)).symm
   clear hc1
   go_wp2
   go_ret
   exact ⟨rfl, HBW1.out⟩
  have hd1 := decide_eq_false hc1
  have HC1 := Aside0.mk hc1
  clear hc1
  go_wp2
  go_roundw
  case rel => exact ⟨_, cnt1, HRG1.out, (fun s h1 h2 => by
   cases hls : left (.int .i64 s)
   ·exact HDONE.out s h1 hls
   rw [hls] at h2
   have h3 : (Lit.int .i64 s).sameKey (.int .i64 x) = true := by simpa using h2
   obtain rfl := sameKey_int h3
   have := HC.out; have := HC1.out; omega), HBW1.out⟩
  case measure => rw [HRG1.out.left_eq, HRG.out.left_eq]; exact HLT.out

end Go.Proofs.Ytbpfbdljcdcgnaa.Px
