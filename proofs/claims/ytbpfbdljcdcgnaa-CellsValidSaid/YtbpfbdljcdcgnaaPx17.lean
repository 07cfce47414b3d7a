/- Walks of functions of this seat, written by a program of this workplace out of the translation. -/
import Derived.Test.YtbpfbdljcdcgnaaPx0
import Derived.Test.YtbpfbdljcdcgnaaPx5
import Derived.Test.YtbpfbdljcdcgnaaPx6
import Derived.Test.YtbpfbdljcdcgnaaPx7
import Derived.Test.YtbpfbdljcdcgnaaPx8
import Derived.Test.YtbpfbdljcdcgnaaPx14
import Derived.Test.YtbpfbdljcdcgnaaPx16
namespace Go.Proofs.Ytbpfbdljcdcgnaa.Px
open Go.RowKit Go.Proofs.YtbpfbdljcdcgnaaW.PrintWords Go.Proofs.YtbpfbdljcdcgnaaW.PrintLast Go.Proofs.YtbpfbdljcdcgnaaW.PrintMore
attribute [local go_sem] max2_int min2_int max_two min_two max_three min_three max_four min_four   -- for this text's walks alone
set_option linter.unusedVariables false
set_option linter.unusedSimpArgs false

/-! ### cells_grant_37: function 37 -/
def after34 (x y : S34) : Bool := decide (x.f0.f0 < y.f0.f0)
set_option maxHeartbeats 4000000 in
set_option maxRecDepth 100000 in
theorem icl34 (x y : S34) (ga gb : Nat) (W : World) (h1 : W.heap[ga]? = some (.cells #[.func (.func 38) #[] #[]] 76 (0, 0))) (h2 : W.heap[gb]? = some (.cells #[.int .i64 x.f0.f0, .int .i64 x.f0.f1, .int .i64 x.f1, .int .i64 x.f2, .int .i64 x.f3] 34 (0, 0))) :
  Calls Try.prog 66 #[.agg #[.int .i64 y.f0.f0, .int .i64 y.f0.f1, .int .i64 y.f1, .int .i64 y.f2, .int .i64 y.f3], .pointer (some ⟨ga, 0, none⟩), .pointer (some ⟨gb, 0, none⟩)] W fun e w' => e = .returned (.bool (after34 x y)) ∧ Below W.heap.size W w' := by
 have hu1 := Try.underlying34
 have hu2 := Try.underlying30
 have HB0 := Aside0.mk (Below.refl W.heap.size W)
 have hfy : ∀ w : World, (Instr.field 30 (.agg #[.int .i64 y.f0.f0, .int .i64 y.f0.f1]) 0).run Try.prog w = .ok (.int .i64 y.f0.f0) w := fun _ => by kernel_rfl
 have hfx : ∀ w : World, (Instr.field 30 (.agg #[.int .i64 x.f0.f0, .int .i64 x.f0.f1]) 0).run Try.prog w = .ok (.int .i64 x.f0.f0) w := fun _ => by kernel_rfl
 have H1 := Aside0.mk h1
 have H2 := Aside0.mk h2
 have EAS : Aside0 (∀ args w, (callFunc 38 args).run Try.prog w = .ok (.enter 38 args) w) := ⟨enters_of Try.func38 (by kernel_rfl) rfl⟩
 clear h1 h2
 go_enter Try.func66, Try.ntmps66
 go_wp2_with (first | ((with_reducible refine gate_dst (N := 3) rfl ?_); refine bE (N := 3) (cs := #[.int .i64 y.f0.f0, .int .i64 y.f0.f1, .int .i64 y.f1, .int .i64 y.f2, .int .i64 y.f3]) (t := 34) ?_; intro gx hg w1 hbox hb; have BX := Aside0.mk hbox; have HB1 := Aside0.mk (below_step HB0.out hb); have BA := Aside0.mk (blk_below H1.out hb); have BB := Aside0.mk (blk_below H2.out hb); clear hb hbox hg))
 have BXd := Aside0.mk (blk_drew BX.out)
 have BAd := Aside0.mk (blk_drew BA.out)
 have BBd := Aside0.mk (blk_drew BB.out)
 have HBd := Aside0.mk (below_drew1 HB1.out)
 refine start_ (n := 14) (S := fun w' => w'.cell? ⟨gx, 0, none⟩ = some (.int .i64 y.f0.f0) ∧ w'.cell? ⟨gx, 1, none⟩ = some (.int .i64 y.f0.f1) ∧ w'.cell? ⟨gx, 2, none⟩ = some (.int .i64 y.f1) ∧ w'.cell? ⟨gx, 3, none⟩ = some (.int .i64 y.f2) ∧ w'.cell? ⟨gx, 4, none⟩ = some (.int .i64 y.f3) ∧ w'.cell? ⟨ga, 0, none⟩ = some (.func (.func 38) #[] #[]) ∧ w'.cell? ⟨gb, 0, none⟩ = some (.int .i64 x.f0.f0) ∧ w'.cell? ⟨gb, 1, none⟩ = some (.int .i64 x.f0.f1) ∧ w'.cell? ⟨gb, 2, none⟩ = some (.int .i64 x.f1) ∧ w'.cell? ⟨gb, 3, none⟩ = some (.int .i64 x.f2) ∧ w'.cell? ⟨gb, 4, none⟩ = some (.int .i64 x.f3)) (ds := []) #[false, false, false, false, false, false, false, false, false, false, false, false, false, false] (by kernel_rfl) rfl rfl ⟨blk_cell' BXd.out 0 _ rfl, blk_cell' BXd.out 1 _ rfl, blk_cell' BXd.out 2 _ rfl, blk_cell' BXd.out 3 _ rfl, blk_cell' BXd.out 4 _ rfl, blk_cell' BAd.out 0 _ rfl, blk_cell' BBd.out 0 _ rfl, blk_cell' BBd.out 1 _ rfl, blk_cell' BBd.out 2 _ rfl, blk_cell' BBd.out 3 _ rfl, blk_cell' BBd.out 4 _ rfl⟩ (fun hHeld => ?_)
 refine run_ [(0, some 5), (1, some 6), (6, some 11), (7, some 12)] ?_
 iterate 4 (refine runT (v := ?_) (a' := ?_) rfl rfl (by kernel_rfl) (fun _ _ _ h => h) (Or.inl ⟨by rfl, ?_⟩) hHeld ?_ ?_; rotate_left; (· rintro w' ⟨s0, s1, s2, s3, s4, s5, s6, s7, s8, s9, s10⟩; go_simp; with_reducible rfl); rotate_left; (· simp only [Act.put, List.setIfInBounds_toArray, List.set_cons_zero, List.set_cons_succ, i64_w, i32_w]; rfl))
 refine runE ?_
 refine one_ (i := 2) (N := some 7) #[true, true, true, false, false, false, true, true, false, false, false, false, false, false] rfl rfl (by kernel_rfl) (by decide) (fun K hK => ?_)
 refine call_ 38 #[.agg #[.int .i64 y.f0.f0, .int .i64 y.f0.f1, .int .i64 y.f1, .int .i64 y.f2, .int .i64 y.f3]] (by rfl) rfl (by unfold execOp; simp [resolve, Deferred.ofValue, invoke, Act.eval, EAS.out]) ?_
 with_reducible refine (cells_toGrant.calls y.f0.f0 y.f0.f1 y.f1 y.f2 y.f3 y.f0.f0 y.f0.f1 y.f1 y.f2 y.f3 _ rfl).mono ?_
 rintro e wa ⟨rfl, hb⟩
 refine ⟨_, rfl, ?_⟩
 have BXa := Aside0.mk (blk_below BXd.out hb)
 have BAa := Aside0.mk (blk_below BAd.out hb)
 have BBa := Aside0.mk (blk_below BBd.out hb)
 have HBa := Aside0.mk (below_step HBd.out hb)
 clear hb
 refine hK.out _ _ ⟨blk_cell' BXa.out 0 _ rfl, blk_cell' BXa.out 1 _ rfl, blk_cell' BXa.out 2 _ rfl, blk_cell' BXa.out 3 _ rfl, blk_cell' BXa.out 4 _ rfl, blk_cell' BAa.out 0 _ rfl, blk_cell' BBa.out 0 _ rfl, blk_cell' BBa.out 1 _ rfl, blk_cell' BBa.out 2 _ rfl, blk_cell' BBa.out 3 _ rfl, blk_cell' BBa.out 4 _ rfl⟩ (fun hHeld => ?_)
 clear hK K
 refine norm_ (a' := ?_) ?_ ?_
 rotate_left
 ·show Act.put _ (some 7) _ = _
  simp only [Act.put, List.setIfInBounds_toArray, List.set_cons_zero, List.set_cons_succ, i64_w, i32_w]
  rfl
 refine run_ [(3, some 8)] ?_
 refine runP (v := ?_) (a' := ?_) rfl rfl (by kernel_rfl) (fun _ _ _ h => h) (Or.inl ⟨by rfl, ?_⟩) ?_ ?_; rotate_left; (· intro w'; go_simp; with_reducible rfl); rotate_left; (· simp only [Act.put, List.setIfInBounds_toArray, List.set_cons_zero, List.set_cons_succ, i64_w, i32_w]; rfl)
 refine runE ?_
 refine one_ (i := 4) (N := some 9) #[true, true, true, true, true, false, true, true, false, false, false, false, false, false] rfl rfl (by kernel_rfl) (by decide) (fun K hK => ?_)
 refine call_ 96 #[.agg #[.int .i64 y.f0.f0, .int .i64 y.f0.f1, .int .i64 y.f1, .int .i64 y.f2, .int .i64 y.f3]] (by rfl) rfl (by unfold execOp; simp [resolve, Deferred.ofValue, Act.eval, invc73]) ?_
 with_reducible refine (cells_grant_cell.calls y.f0.f0 y.f0.f1 y.f1 y.f2 y.f3 y.f0.f0 y.f0.f1 _ rfl).mono ?_
 rintro e wb ⟨rfl, hb⟩
 refine ⟨_, rfl, ?_⟩
 have BXb := Aside0.mk (blk_below BXa.out hb)
 have BAb := Aside0.mk (blk_below BAa.out hb)
 have BBb := Aside0.mk (blk_below BBa.out hb)
 have HBb := Aside0.mk (below_step HBa.out hb)
 clear hb
 refine hK.out _ _ ⟨blk_cell' BXb.out 0 _ rfl, blk_cell' BXb.out 1 _ rfl, blk_cell' BXb.out 2 _ rfl, blk_cell' BXb.out 3 _ rfl, blk_cell' BXb.out 4 _ rfl, blk_cell' BAb.out 0 _ rfl, blk_cell' BBb.out 0 _ rfl, blk_cell' BBb.out 1 _ rfl, blk_cell' BBb.out 2 _ rfl, blk_cell' BBb.out 3 _ rfl, blk_cell' BBb.out 4 _ rfl⟩ (fun hHeld => ?_)
 clear hK K
 refine norm_ (a' := ?_) ?_ ?_
 rotate_left
 ·show Act.put _ (some 9) _ = _
  simp only [Act.put, List.setIfInBounds_toArray, List.set_cons_zero, List.set_cons_succ, i64_w, i32_w]
  rfl
 refine run_ [(5, some 10)] ?_
 refine runP (v := ?_) (a' := ?_) rfl rfl (by kernel_rfl) (fun _ _ _ h => h) (Or.inl ⟨by rfl, ?_⟩) ?_ ?_; rotate_left; (· intro w'; go_simp; with_reducible rfl); rotate_left; (· simp only [Act.put, List.setIfInBounds_toArray, List.set_cons_zero, List.set_cons_succ, i64_w, i32_w]; rfl)
 refine runE ?_
 refine one_ (i := 8) (N := some 13) #[true, true, true, true, true, true, true, true, true, false, false, false, false, false] rfl rfl (by kernel_rfl) (by decide) (fun K hK => ?_)
 refine call_ 38 #[.agg #[.int .i64 x.f0.f0, .int .i64 x.f0.f1, .int .i64 x.f1, .int .i64 x.f2, .int .i64 x.f3]] (by rfl) rfl (by unfold execOp; simp [resolve, Deferred.ofValue, invoke, Act.eval, EAS.out]) ?_
 with_reducible refine (cells_toGrant.calls x.f0.f0 x.f0.f1 x.f1 x.f2 x.f3 x.f0.f0 x.f0.f1 x.f1 x.f2 x.f3 _ rfl).mono ?_
 rintro e wc ⟨rfl, hb⟩
 refine ⟨_, rfl, ?_⟩
 have BXc := Aside0.mk (blk_below BXb.out hb)
 have BAc := Aside0.mk (blk_below BAb.out hb)
 have BBc := Aside0.mk (blk_below BBb.out hb)
 have HBc := Aside0.mk (below_step HBb.out hb)
 clear hb
 refine hK.out _ _ ⟨blk_cell' BXc.out 0 _ rfl, blk_cell' BXc.out 1 _ rfl, blk_cell' BXc.out 2 _ rfl, blk_cell' BXc.out 3 _ rfl, blk_cell' BXc.out 4 _ rfl, blk_cell' BAc.out 0 _ rfl, blk_cell' BBc.out 0 _ rfl, blk_cell' BBc.out 1 _ rfl, blk_cell' BBc.out 2 _ rfl, blk_cell' BBc.out 3 _ rfl, blk_cell' BBc.out 4 _ rfl⟩ (fun hHeld => ?_)
 clear hK K
 refine norm_ (a' := ?_) ?_ ?_
 rotate_left
 ·show Act.put _ (some 13) _ = _
  simp only [Act.put, List.setIfInBounds_toArray, List.set_cons_zero, List.set_cons_succ, i64_w, i32_w]
  rfl
 refine run_ [(9, some 14)] ?_
 refine runP (v := ?_) (a' := ?_) rfl rfl (by kernel_rfl) (fun _ _ _ h => h) (Or.inl ⟨by rfl, ?_⟩) ?_ ?_; rotate_left; (· intro w'; go_simp; with_reducible rfl); rotate_left; (· simp only [Act.put, List.setIfInBounds_toArray, List.set_cons_zero, List.set_cons_succ, i64_w, i32_w]; rfl)
 refine runE ?_
 refine one_ (i := 10) (N := some 15) #[true, true, true, true, true, true, true, true, true, true, true, false, false, false] rfl rfl (by kernel_rfl) (by decide) (fun K hK => ?_)
 refine call_ 96 #[.agg #[.int .i64 x.f0.f0, .int .i64 x.f0.f1, .int .i64 x.f1, .int .i64 x.f2, .int .i64 x.f3]] (by rfl) rfl (by unfold execOp; simp [resolve, Deferred.ofValue, Act.eval, invc73]) ?_
 with_reducible refine (cells_grant_cell.calls x.f0.f0 x.f0.f1 x.f1 x.f2 x.f3 x.f0.f0 x.f0.f1 _ rfl).mono ?_
 rintro e we ⟨rfl, hb⟩
 refine ⟨_, rfl, ?_⟩
 have BXe := Aside0.mk (blk_below BXc.out hb)
 have BAe := Aside0.mk (blk_below BAc.out hb)
 have BBe := Aside0.mk (blk_below BBc.out hb)
 have HBe := Aside0.mk (below_step HBc.out hb)
 clear hb
 refine hK.out _ _ ⟨blk_cell' BXe.out 0 _ rfl, blk_cell' BXe.out 1 _ rfl, blk_cell' BXe.out 2 _ rfl, blk_cell' BXe.out 3 _ rfl, blk_cell' BXe.out 4 _ rfl, blk_cell' BAe.out 0 _ rfl, blk_cell' BBe.out 0 _ rfl, blk_cell' BBe.out 1 _ rfl, blk_cell' BBe.out 2 _ rfl, blk_cell' BBe.out 3 _ rfl, blk_cell' BBe.out 4 _ rfl⟩ (fun hHeld => ?_)
 clear hK K
 refine norm_ (a' := ?_) ?_ ?_
 rotate_left
 ·show Act.put _ (some 15) _ = _
  simp only [Act.put, List.setIfInBounds_toArray, List.set_cons_zero, List.set_cons_succ, i64_w, i32_w]
  rfl
 refine run_ [(11, some 16), (12, some 17), (13, some 4)] ?_
 iterate 3 (refine runP (v := ?_) (a' := ?_) rfl rfl (by kernel_rfl) (fun _ _ _ h => h) (Or.inl ⟨by rfl, ?_⟩) ?_ ?_; rotate_left; (· intro w'; go_simp; with_reducible rfl); rotate_left; (· simp only [Act.put, List.setIfInBounds_toArray, List.set_cons_zero, List.set_cons_succ, i64_w, i32_w]; rfl))
 refine runE ?_
 refine done_ (by kernel_rfl) ?_
 go_wp2
 go_ret
 exact ⟨rfl, HBe.out⟩
def insAt34 (x : S34) (l : List S34) : Nat := if fidx (after34 x) l 0 < 0 then l.length else (fidx (after34 x) l 0).toNat
def ins34.f (l : List S34) (x : S34) : Option (List S34) := if l.length + 1 < 3518437208883 then some (l.take (insAt34 x l) ++ x :: l.drop (insAt34 x l)) else none
set_option maxHeartbeats 4000000 in
set_option maxRecDepth 100000 in
theorem ins34.calls (A : Option Addr) (c : Nat) (l : List S34) (x : S34) (r : List S34) (w : World) (hr : Kd.C k34 w A l.length l) (hc : l.length ≤ c) (h : ins34.f l x = some r) :
  Calls Try.prog 37 #[.slice A l.length c, .agg #[.int .i64 x.f0.f0, .int .i64 x.f0.f1, .int .i64 x.f1, .int .i64 x.f2, .int .i64 x.f3], .func (.func 38) #[] #[]] w fun e w' => ∃ v, e = .returned v ∧ Kd.R k34 34 w' w.heap.size (fun _ => True) v r ∧ Below w.heap.size w w' := by
 have HL : l.length + 1 < 3518437208883 := by
  unfold ins34.f at h
  by_cases hl : l.length + 1 < 3518437208883
  ·exact hl
  rw [if_neg hl] at h; exact absurd h (by simp)
 obtain rfl : l.take (insAt34 x l) ++ x :: l.drop (insAt34 x l) = r := by unfold ins34.f at h; rw [if_pos HL] at h; exact Option.some.inj h
 clear h
 have hu1 := Try.underlying34
 have HB0 := Aside0.mk (Below.refl w.heap.size w)
 have HR := Aside0.mk hr
 have HC := Aside0.mk hc
 have hbig : (l.length : Int) ≤ 9223372036854775807 := by omega
 have EI : Aside0 (∀ args w, (callFunc 66 args).run Try.prog w = .ok (.enter 66 args) w) := ⟨enters_of Try.func66 (by kernel_rfl) rfl⟩
 have EAS : Aside0 (∀ args w, (callFunc 38 args).run Try.prog w = .ok (.enter 38 args) w) := ⟨enters_of Try.func38 (by kernel_rfl) rfl⟩
 have hmf : ∀ (fn : Fn) (first cap : Array Value) (w : World), (Instr.makeFunc fn first cap).run Try.prog w = .ok (.func fn first cap) w := fun _ _ _ _ => rfl
 have HI := Aside0.mk (fun (g4 g5 : Nat) (W : World) (hW : Below w.heap.size w W) (h4 : W.heap[g4]? = some (.cells #[.int .i64 x.f0.f0, .int .i64 x.f0.f1, .int .i64 x.f1, .int .i64 x.f2, .int .i64 x.f3] 34 (0, 0))) (h5 : W.heap[g5]? = some (.cells #[.func (.func 38) #[] #[]] 76 (0, 0))) => ixf34 66 #[.pointer (some ⟨g5, 0, none⟩), .pointer (some ⟨g4, 0, none⟩)] (after34 x) A c l W (Kd.C_below HR.out hW) EI.out (fun W2 y hW2 => (icl34 x y g5 g4 W2 (blk_below h5 hW2) (blk_below h4 hW2)).mono fun e w'' hq => ⟨hq.1, below_step hW2 hq.2⟩))
 have hat : insAt34 x l ≤ l.length ∧ ((fidx (after34 x) l 0 < 0 ∧ insAt34 x l = l.length) ∨ (fidx (after34 x) l 0 = (insAt34 x l : Int))) := by
  unfold insAt34
  rcases fidx_spec (after34 x) z34 l 0 with ⟨h1, _⟩ | ⟨n, h1, h2, _⟩
  ·rw [h1]; simp
  rw [h2, if_neg (by omega)]; constructor <;> omega
 have hlim : [l.take (insAt34 x l), [x], l.drop (insAt34 x l)].flatten.length = l.length + 1 := by
  simp only [List.flatten_cons, List.flatten_nil, List.append_nil, List.length_append, List.length_take, List.length_drop, List.length_cons, List.length_nil]
  omega
 have hflat : [l.take (insAt34 x l), [x], l.drop (insAt34 x l)].flatten = l.take (insAt34 x l) ++ x :: l.drop (insAt34 x l) := by simp
 obtain ⟨hat, hfx⟩ := hat
 have hF : l.length + 1 < 3518437208883 → api_Grant_67.f [l.take (insAt34 x l), [x], l.drop (insAt34 x l)] = some (l.take (insAt34 x l) ++ x :: l.drop (insAt34 x l)) := fun hl => by
  unfold api_Grant_67.f
  rw [if_pos (by rw [hlim]; exact hl), hflat]
 have HF := Aside0.mk (hF HL)
 have HAT := Aside0.mk hat
 have hatz : (insAt34 x l : Int) ≤ (l.length : Int) := by omega
 have hat0 : (0 : Int) ≤ (insAt34 x l : Int) := by omega
 have hct := cut_to (P := Try.prog) 23 34 .i64 Try.underlying23 (info_parts info34).choose_spec.1 A l.length c (insAt34 x l : Int) hat0 hatz HC.out
 have hcd := cut_from (P := Try.prog) 23 34 .i64 Try.underlying23 (info_parts info34).choose_spec.1 5 (info_parts info34).choose_spec.2.2.1 A l.length c (insAt34 x l : Int) hat0 hatz
 simp only [Int.toNat_natCast] at hct hcd
 obtain ⟨AD, hAD⟩ : ∃ AD, (if c = insAt34 x l then A else A.map (·.add (insAt34 x l * 5))) = AD := ⟨_, rfl⟩
 rw [hAD] at hcd
 have HAD := Aside0.mk hAD
 clear hF hlim hflat HL hr hc hAD
 generalize insAt34 x l = at_ at *
 rcases hfx with ⟨hneg, hl⟩ | hfx
 ·have hd := decide_eq_true hneg
  rw [hl] at hct hcd HAT HF HAD ⊢
  clear hl hatz hat0 hat hneg at_
  generalize fidx (after34 x) l 0 = ix at *
  go_enter Try.func37, Try.ntmps37
  go_wp2_with (first
   | ((with_reducible refine gate_dst (N := 4) rfl ?_); refine bE (N := 4) (cs := #[.int .i64 x.f0.f0, .int .i64 x.f0.f1, .int .i64 x.f1, .int .i64 x.f2, .int .i64 x.f3]) (t := 34) ?_; intro g4 hg w1 hbox hb; have BX := Aside0.mk hbox; have HB1 := Aside0.mk (below_step HB0.out hb); clear hb hbox hg)
   | ((with_reducible refine gate_dst (N := 5) rfl ?_); refine bE (N := 5) (cs := #[.func (.func 38) #[] #[]]) (t := 76) ?_; intro g5 hg w2 hbox hb; have BA := Aside0.mk hbox; have BX2 := Aside0.mk (blk_below BX.out hb); have HB2 := Aside0.mk (below_step HB1.out hb); clear hb hbox hg)
   | (go_at_call 65; refine (HI.out g4 g5 _ HB2.out BX2.out BA.out).mono ?_; rintro e w3 ⟨rfl, hb3⟩; have BX3 := Aside0.mk (blk_below BX2.out hb3); have HB3 := Aside0.mk (below_step HB2.out hb3); clear hb3))
  have BXd := Aside0.mk (blk_drew BX3.out)
  have HBd := Aside0.mk (below_drew1 HB3.out)
  refine start_ (n := 11) (S := fun w' => w'.cell? ⟨g4, 0, none⟩ = some (.int .i64 x.f0.f0) ∧ w'.cell? ⟨g4, 1, none⟩ = some (.int .i64 x.f0.f1) ∧ w'.cell? ⟨g4, 2, none⟩ = some (.int .i64 x.f1) ∧ w'.cell? ⟨g4, 3, none⟩ = some (.int .i64 x.f2) ∧ w'.cell? ⟨g4, 4, none⟩ = some (.int .i64 x.f3)) (ds := []) #[false, false, false, false, false, false, false, false, false, false, false] (by kernel_rfl) rfl rfl ⟨blk_cell' BXd.out 0 _ rfl, blk_cell' BXd.out 1 _ rfl, blk_cell' BXd.out 2 _ rfl, blk_cell' BXd.out 3 _ rfl, blk_cell' BXd.out 4 _ rfl⟩ (fun hHeld => ?_)
  refine run_ [(0, some 15), (1, some 16), (2, some 17), (5, some 20), (6, some 21), (7, some 22), (3, some 18)] ?_
  iterate 6 (refine runP (v := ?_) (a' := ?_) rfl rfl (by kernel_rfl) (fun _ _ _ h => h) (Or.inl ⟨by rfl, ?_⟩) ?_ ?_; rotate_left; (· intro w'; go_simp; with_reducible rfl); rotate_left; (· simp only [Act.put, List.setIfInBounds_toArray, List.set_cons_zero, List.set_cons_succ, i64_w, i32_w]; rfl))
  refine runT (v := ?_) (a' := ?_) rfl rfl (by kernel_rfl) (fun _ _ _ h => h) (Or.inl ⟨by rfl, ?_⟩) hHeld ?_ ?_; rotate_left; (· rintro w' ⟨s0, s1, s2, s3, s4⟩; go_simp; with_reducible rfl); rotate_left; (· simp only [Act.put, List.setIfInBounds_toArray, List.set_cons_zero, List.set_cons_succ, i64_w, i32_w]; rfl)
  refine runE ?_
  refine one_ (i := 4) (N := some 19) #[true, true, true, true, true, true, true, true, false, false, false] rfl rfl (by kernel_rfl) (by decide) (fun K hK => ?_)
  refine lit_step (N := 19) (cs := #[.int .i64 x.f0.f0, .int .i64 x.f0.f1, .int .i64 x.f1, .int .i64 x.f2, .int .i64 x.f3]) (e := 34) (n := 1) (by rfl) rfl ?hr ?_
  case hr => first | (go_simp; done) | (go_simp; rfl)
  intro g19 hg wa hbox hb
  have BXa := Aside0.mk (blk_below BXd.out hb)
  have BL := Aside0.mk hbox
  have HBa := Aside0.mk (below_step HBd.out hb)
  clear hg hbox hb
  refine hK.out _ _ ⟨blk_cell' BXa.out 0 _ rfl, blk_cell' BXa.out 1 _ rfl, blk_cell' BXa.out 2 _ rfl, blk_cell' BXa.out 3 _ rfl, blk_cell' BXa.out 4 _ rfl⟩ (fun hHeld => ?_)
  clear hK K
  refine norm_ (a' := ?_) ?_ ?_
  rotate_left
  ·show Act.put _ (some 19) _ = _
   simp only [Act.put, List.setIfInBounds_toArray, List.set_cons_zero, List.set_cons_succ, i64_w, i32_w]
   rfl
  refine one_ (i := 8) (N := some 23) #[true, true, true, true, true, true, true, true, true, false, false] rfl rfl (by kernel_rfl) (by decide) (fun K hK => ?_)
  refine lit_step (N := 23) (cs := #[.slice A l.length c, .slice (some ⟨g19, 0, none⟩) 1 1, .slice AD (l.length - l.length) (c - l.length)]) (e := 23) (n := 3) (by rfl) rfl ?hr ?_
  case hr => first | (go_simp; done) | (go_simp; rfl)
  intro g23 hg wb hbox hb
  have BXb := Aside0.mk (blk_below BXa.out hb)
  have BLb := Aside0.mk (blk_below BL.out hb)
  have BM := Aside0.mk hbox
  have HBb := Aside0.mk (below_step HBa.out hb)
  clear hg hbox hb
  refine hK.out _ _ ⟨blk_cell' BXb.out 0 _ rfl, blk_cell' BXb.out 1 _ rfl, blk_cell' BXb.out 2 _ rfl, blk_cell' BXb.out 3 _ rfl, blk_cell' BXb.out 4 _ rfl⟩ (fun hHeld => ?_)
  clear hK K
  refine norm_ (a' := ?_) ?_ ?_
  rotate_left
  ·show Act.put _ (some 23) _ = _
   simp only [Act.put, List.setIfInBounds_toArray, List.set_cons_zero, List.set_cons_succ, i64_w, i32_w]
   rfl
  refine one_ (i := 9) (N := some 24) #[true, true, true, true, true, true, true, true, true, true, false] rfl rfl (by kernel_rfl) (by decide) (fun K hK => ?_)
  refine gO Try.func67 #[.slice (some ⟨g23, 0, none⟩) 3 3] ?_
  have HQ1 : Kd.C k34 wb A (l.take l.length).length (l.take l.length) := Kd.C_take (Kd.C_below HR.out HBb.out) HAT.out
  have HQ2 : Kd.C k34 wb AD (l.drop l.length).length (l.drop l.length) := by
   rw [← HAD.out]
   exact Kd.C_drop (Kd.C_below HR.out HBb.out) HAT.out HC.out
  have HQ3 : Kd.C k34 wb (some ⟨g19, 0, none⟩) [x].length [x] := C_block BLb.out (reps1 (k34_mk wb x)) (by simp)
  have e1 : (l.take l.length).length = l.length := by rw [List.length_take]; exact Nat.min_eq_left HAT.out
  have e2 : (l.drop l.length).length = l.length - l.length := List.length_drop
  have HQ : Kd.C (Kd.slice 34 k34) wb (some ⟨g23, 0, none⟩) [l.take l.length, [x], l.drop l.length].length [l.take l.length, [x], l.drop l.length] := C_block BM.out (reps3 (cx := [.slice A l.length c]) (cy := [.slice (some ⟨g19, 0, none⟩) 1 1]) (cz := [.slice AD (l.length - l.length) (c - l.length)]) ⟨A, c, by rw [e1], by rw [e1]; exact Nat.le_trans HAT.out HC.out, HQ1⟩ ⟨_, 1, rfl, Nat.le_refl _, HQ3⟩ ⟨AD, c - l.length, by rw [e2], by rw [e2]; have := HC.out; omega, HQ2⟩) (by simp)
  have HK_ : Calls Try.prog 67 #[.slice (some ⟨g23, 0, none⟩) 3 3] wb _ := api_Grant_67.calls (some ⟨g23, 0, none⟩) 3 [l.take l.length, [x], l.drop l.length] (l.take l.length ++ x :: l.drop l.length) wb HQ (Nat.le_refl _) HF.out
  with_reducible refine HK_.mono ?_
  clear HK_ HQ HQ1 HQ2 HQ3 e1 e2
  rintro e wc ⟨v5, rfl, hr, hb⟩
  refine ⟨_, rfl, ?_⟩
  have HO := Aside0.mk (Kd.R_lower hr HBb.out.size)
  have BXc := Aside0.mk (blk_below BXb.out hb)
  have HBc := Aside0.mk (below_step HBb.out hb)
  clear hr hb
  refine hK.out _ _ ⟨blk_cell' BXc.out 0 _ rfl, blk_cell' BXc.out 1 _ rfl, blk_cell' BXc.out 2 _ rfl, blk_cell' BXc.out 3 _ rfl, blk_cell' BXc.out 4 _ rfl⟩ (fun hHeld => ?_)
  clear hK K
  refine norm_ (a' := ?_) ?_ ?_
  rotate_left
  ·show Act.put _ (some 24) _ = _
   simp only [Act.put, List.setIfInBounds_toArray, List.set_cons_zero, List.set_cons_succ, i64_w, i32_w]
   rfl
  refine run_ [(10, some 6)] ?_
  refine runP (v := ?_) (a' := ?_) rfl rfl (by kernel_rfl) (fun _ _ _ h => h) (Or.inl ⟨by rfl, ?_⟩) ?_ ?_; rotate_left; (· intro w'; go_simp; with_reducible rfl); rotate_left; (· simp only [Act.put, List.setIfInBounds_toArray, List.set_cons_zero, List.set_cons_succ, i64_w, i32_w]; rfl)
  refine runE ?_
  refine done_ (by kernel_rfl) ?_
  go_wp2
  go_ret
  exact ⟨_, rfl, HO.out, HBc.out⟩
 have hd : decide ((at_ : Int) < 0) = false := decide_eq_false (by omega)
 rw [hfx] at HI
 clear hfx hatz hat0 hat
 go_enter Try.func37, Try.ntmps37
 go_wp2_with (first
  | ((with_reducible refine gate_dst (N := 4) rfl ?_); refine bE (N := 4) (cs := #[.int .i64 x.f0.f0, .int .i64 x.f0.f1, .int .i64 x.f1, .int .i64 x.f2, .int .i64 x.f3]) (t := 34) ?_; intro g4 hg w1 hbox hb; have BX := Aside0.mk hbox; have HB1 := Aside0.mk (below_step HB0.out hb); clear hb hbox hg)
  | ((with_reducible refine gate_dst (N := 5) rfl ?_); refine bE (N := 5) (cs := #[.func (.func 38) #[] #[]]) (t := 76) ?_; intro g5 hg w2 hbox hb; have BA := Aside0.mk hbox; have BX2 := Aside0.mk (blk_below BX.out hb); have HB2 := Aside0.mk (below_step HB1.out hb); clear hb hbox hg)
  | (go_at_call 65; refine (HI.out g4 g5 _ HB2.out BX2.out BA.out).mono ?_; rintro e w3 ⟨rfl, hb3⟩; have BX3 := Aside0.mk (blk_below BX2.out hb3); have HB3 := Aside0.mk (below_step HB2.out hb3); clear hb3))
 have BXd := Aside0.mk (blk_drew BX3.out)
 have HBd := Aside0.mk (below_drew1 HB3.out)
 refine start_ (n := 11) (S := fun w' => w'.cell? ⟨g4, 0, none⟩ = some (.int .i64 x.f0.f0) ∧ w'.cell? ⟨g4, 1, none⟩ = some (.int .i64 x.f0.f1) ∧ w'.cell? ⟨g4, 2, none⟩ = some (.int .i64 x.f1) ∧ w'.cell? ⟨g4, 3, none⟩ = some (.int .i64 x.f2) ∧ w'.cell? ⟨g4, 4, none⟩ = some (.int .i64 x.f3)) (ds := []) #[false, false, false, false, false, false, false, false, false, false, false] (by kernel_rfl) rfl rfl ⟨blk_cell' BXd.out 0 _ rfl, blk_cell' BXd.out 1 _ rfl, blk_cell' BXd.out 2 _ rfl, blk_cell' BXd.out 3 _ rfl, blk_cell' BXd.out 4 _ rfl⟩ (fun hHeld => ?_)
 refine run_ [(0, some 15), (1, some 16), (2, some 17), (5, some 20), (6, some 21), (7, some 22), (3, some 18)] ?_
 iterate 6 (refine runP (v := ?_) (a' := ?_) rfl rfl (by kernel_rfl) (fun _ _ _ h => h) (Or.inl ⟨by rfl, ?_⟩) ?_ ?_; rotate_left; (· intro w'; go_simp; with_reducible rfl); rotate_left; (· simp only [Act.put, List.setIfInBounds_toArray, List.set_cons_zero, List.set_cons_succ, i64_w, i32_w]; rfl))
 refine runT (v := ?_) (a' := ?_) rfl rfl (by kernel_rfl) (fun _ _ _ h => h) (Or.inl ⟨by rfl, ?_⟩) hHeld ?_ ?_; rotate_left; (· rintro w' ⟨s0, s1, s2, s3, s4⟩; go_simp; with_reducible rfl); rotate_left; (· simp only [Act.put, List.setIfInBounds_toArray, List.set_cons_zero, List.set_cons_succ, i64_w, i32_w]; rfl)
 refine runE ?_
 refine one_ (i := 4) (N := some 19) #[true, true, true, true, true, true, true, true, false, false, false] rfl rfl (by kernel_rfl) (by decide) (fun K hK => ?_)
 refine lit_step (N := 19) (cs := #[.int .i64 x.f0.f0, .int .i64 x.f0.f1, .int .i64 x.f1, .int .i64 x.f2, .int .i64 x.f3]) (e := 34) (n := 1) (by rfl) rfl ?hr ?_
 case hr => first | (go_simp; done) | (go_simp; rfl)
 intro g19 hg wa hbox hb
 have BXa := Aside0.mk (blk_below BXd.out hb)
 have BL := Aside0.mk hbox
 have HBa := Aside0.mk (below_step HBd.out hb)
 clear hg hbox hb
 refine hK.out _ _ ⟨blk_cell' BXa.out 0 _ rfl, blk_cell' BXa.out 1 _ rfl, blk_cell' BXa.out 2 _ rfl, blk_cell' BXa.out 3 _ rfl, blk_cell' BXa.out 4 _ rfl⟩ (fun hHeld => ?_)
 clear hK K
 refine norm_ (a' := ?_) ?_ ?_
 rotate_left
 ·show Act.put _ (some 19) _ = _
  simp only [Act.put, List.setIfInBounds_toArray, List.set_cons_zero, List.set_cons_succ, i64_w, i32_w]
  rfl
 refine one_ (i := 8) (N := some 23) #[true, true, true, true, true, true, true, true, true, false, false] rfl rfl (by kernel_rfl) (by decide) (fun K hK => ?_)
 refine lit_step (N := 23) (cs := #[.slice A at_ c, .slice (some ⟨g19, 0, none⟩) 1 1, .slice AD (l.length - at_) (c - at_)]) (e := 23) (n := 3) (by rfl) rfl ?hr ?_
 case hr => first | (go_simp; done) | (go_simp; rfl)
 intro g23 hg wb hbox hb
 have BXb := Aside0.mk (blk_below BXa.out hb)
 have BLb := Aside0.mk (blk_below BL.out hb)
 have BM := Aside0.mk hbox
 have HBb := Aside0.mk (below_step HBa.out hb)
 clear hg hbox hb
 refine hK.out _ _ ⟨blk_cell' BXb.out 0 _ rfl, blk_cell' BXb.out 1 _ rfl, blk_cell' BXb.out 2 _ rfl, blk_cell' BXb.out 3 _ rfl, blk_cell' BXb.out 4 _ rfl⟩ (fun hHeld => ?_)
 clear hK K
 refine norm_ (a' := ?_) ?_ ?_
 rotate_left
 ·show Act.put _ (some 23) _ = _
  simp only [Act.put, List.setIfInBounds_toArray, List.set_cons_zero, List.set_cons_succ, i64_w, i32_w]
  rfl
 refine one_ (i := 9) (N := some 24) #[true, true, true, true, true, true, true, true, true, true, false] rfl rfl (by kernel_rfl) (by decide) (fun K hK => ?_)
 refine gO Try.func67 #[.slice (some ⟨g23, 0, none⟩) 3 3] ?_
 have HQ1 : Kd.C k34 wb A (l.take at_).length (l.take at_) := Kd.C_take (Kd.C_below HR.out HBb.out) HAT.out
 have HQ2 : Kd.C k34 wb AD (l.drop at_).length (l.drop at_) := by
  rw [← HAD.out]
  exact Kd.C_drop (Kd.C_below HR.out HBb.out) HAT.out HC.out
 have HQ3 : Kd.C k34 wb (some ⟨g19, 0, none⟩) [x].length [x] := C_block BLb.out (reps1 (k34_mk wb x)) (by simp)
 have e1 : (l.take at_).length = at_ := by rw [List.length_take]; exact Nat.min_eq_left HAT.out
 have e2 : (l.drop at_).length = l.length - at_ := List.length_drop
 have HQ : Kd.C (Kd.slice 34 k34) wb (some ⟨g23, 0, none⟩) [l.take at_, [x], l.drop at_].length [l.take at_, [x], l.drop at_] := C_block BM.out (reps3 (cx := [.slice A at_ c]) (cy := [.slice (some ⟨g19, 0, none⟩) 1 1]) (cz := [.slice AD (l.length - at_) (c - at_)]) ⟨A, c, by rw [e1], by rw [e1]; exact Nat.le_trans HAT.out HC.out, HQ1⟩ ⟨_, 1, rfl, Nat.le_refl _, HQ3⟩ ⟨AD, c - at_, by rw [e2], by rw [e2]; have := HC.out; omega, HQ2⟩) (by simp)
 have HK_ : Calls Try.prog 67 #[.slice (some ⟨g23, 0, none⟩) 3 3] wb _ := api_Grant_67.calls (some ⟨g23, 0, none⟩) 3 [l.take at_, [x], l.drop at_] (l.take at_ ++ x :: l.drop at_) wb HQ (Nat.le_refl _) HF.out
 with_reducible refine HK_.mono ?_
 clear HK_ HQ HQ1 HQ2 HQ3 e1 e2
 rintro e wc ⟨v5, rfl, hr, hb⟩
 refine ⟨_, rfl, ?_⟩
 have HO := Aside0.mk (Kd.R_lower hr HBb.out.size)
 have BXc := Aside0.mk (blk_below BXb.out hb)
 have HBc := Aside0.mk (below_step HBb.out hb)
 clear hr hb
 refine hK.out _ _ ⟨blk_cell' BXc.out 0 _ rfl, blk_cell' BXc.out 1 _ rfl, blk_cell' BXc.out 2 _ rfl, blk_cell' BXc.out 3 _ rfl, blk_cell' BXc.out 4 _ rfl⟩ (fun hHeld => ?_)
 clear hK K
 refine norm_ (a' := ?_) ?_ ?_
 rotate_left
 ·show Act.put _ (some 24) _ = _
  simp only [Act.put, List.setIfInBounds_toArray, List.set_cons_zero, List.set_cons_succ, i64_w, i32_w]
  rfl
 refine run_ [(10, some 6)] ?_
 refine runP (v := ?_) (a' := ?_) rfl rfl (by kernel_rfl) (fun _ _ _ h => h) (Or.inl ⟨by rfl, ?_⟩) ?_ ?_; rotate_left; (· intro w'; go_simp; with_reducible rfl); rotate_left; (· simp only [Act.put, List.setIfInBounds_toArray, List.set_cons_zero, List.set_cons_succ, i64_w, i32_w]; rfl)
 refine runE ?_
 refine done_ (by kernel_rfl) ?_
 go_wp2
 go_ret
 exact ⟨_, rfl, HO.out, HBc.out⟩

end Go.Proofs.Ytbpfbdljcdcgnaa.Px
