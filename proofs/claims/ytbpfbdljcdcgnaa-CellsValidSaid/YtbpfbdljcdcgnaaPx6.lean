/- Walks of functions of this seat, written by a program of this workplace out of the translation. -/
import Derived.Test.YtbpfbdljcdcgnaaPx0
import Derived.Test.YtbpfbdljcdcgnaaPx5
namespace Go.Proofs.Ytbpfbdljcdcgnaa.Px
open Go.RowKit Go.Proofs.YtbpfbdljcdcgnaaW.PrintWords Go.Proofs.YtbpfbdljcdcgnaaW.PrintLast Go.Proofs.YtbpfbdljcdcgnaaW.PrintMore
attribute [local go_sem] max2_int min2_int max_two min_two max_three min_three max_four min_four   -- for this text's walks alone
set_option linter.unusedVariables false
set_option linter.unusedSimpArgs false

/-! ### api_Ask_60: function 60 -/
theorem blk_cell' {w : World} {g : Nat} {cs : Array Value} {t : TypeId} (h : w.heap[g]? = some (.cells cs t (0, 0))) (j : Nat) (v : Value) (hv : cs[j]? = some v) : w.cell? ⟨g, j, none⟩ = some v := (blk_cell h j).trans hv
theorem zeroCells_one (zs : Array Value) (n : Nat) (h1 : ∀ u ∈ zs.toList, u.oneCell' = true) (hs : 0 < zs.size) : (Builtin.zeroCells zs n).toList.length = n * zs.size ∧ ∀ u ∈ (Builtin.zeroCells zs n).toList, u.oneCell' = true := by
 unfold Builtin.zeroCells
 refine ⟨by simp, fun u hu => ?_⟩
 rw [Array.toList_map, List.mem_map] at hu
 obtain ⟨i, _, rfl⟩ := hu
 refine h1 _ ?_
 rw [getElem!_pos zs _ (Nat.mod_lt _ hs)]
 exact Array.mem_toList_iff.2 (Array.getElem_mem _)
/-- 'clear(s[i:])' on a row of one's own, of which what stands ahead of i is then kept. -/
theorem Kd.R_clear_run {α : Type} (d : Kd α) {P : Program} {W : World} (base : Nat) (t ty e : TypeId) (z : Value) (ht : P.underlying t = some (.slice e)) (hv : ∀ w, (zeroValue e).run P w = .ok z w) (hz : z.cells.size = d.sz) (h1 : ∀ u ∈ z.cells.toList, u.oneCell' = true) (hs0 : 0 < d.sz)
  {g n c i : Nat} {xs : List α} {ok : Nat → Prop} (HO : d.R e W base ok (.slice (some ⟨g, 0, none⟩) n c) xs) (hi : i ≤ n) {A : Option Addr} (hA : A = if c = i then some ⟨g, 0, none⟩ else (some (⟨g, 0, none⟩ : Addr)).map (·.add (i * d.sz))) (c2 : Nat) :
  ∃ w1, (Builtin.clear_ #[t] ty #[.slice A (n - i) c2]).run P W = .ok (.tuple #[]) w1 ∧ d.R e w1 base ok (.slice (some ⟨g, 0, none⟩) i c) (xs.take i) ∧ W.grownBy w1 (some g) := by
 obtain ⟨hn, hnc, _⟩ := Kd.R_reads' HO
 have HT := Kd.R_take (m := i) HO (by omega)
 rcases Nat.lt_or_ge i n with hin | hin
 ·have hci : c ≠ i := by omega
  rw [if_neg hci, Option.map_some, add_at, Nat.zero_add] at hA
  subst hA
  obtain ⟨hok, inner, hown, hr⟩ := HT
  obtain ⟨hil, hown⟩ := hown
  rcases hown with ⟨hv', _⟩ | ⟨g', cap', cur, hv', hb, hh, hle, hcm, hcs, htake⟩
  ·cases hv'
  injection hv' with ha _ hc
  injection ha with ha
  injection ha with hg
  subst hg; subst hc
  obtain ⟨zl, zo⟩ := zeroCells_one z.cells (n - i) h1 (by omega)
  rw [hz] at zl
  generalize hzz : (Builtin.zeroCells z.cells (n - i)).toList = zc at zl zo
  have hxl : (xs.take i).length = i := by rw [List.length_take]; omega
  rw [hxl] at hil hle htake
  have hfit : i * d.sz + zc.length ≤ cur.size := by
   rw [zl, ← Nat.add_mul, hcs]
   exact Nat.mul_le_mul_right _ (by omega)
  have hst := run_storeCells_cells (P := P) g (i * d.sz) zc 0 W (fun j hj => by rw [Nat.add_zero, cell_of_row W g _ cur e (0, 0) hh]; simp; omega) (fun j _ => blk_frozen hh _) zo
  rw [Nat.add_zero] at hst
  have hrun : (Builtin.clear_ #[t] ty #[.slice (some ⟨g, i * d.sz, none⟩) (n - i) c2]).run P W = .ok (.tuple #[]) (W.setCells g (i * d.sz) zc) := by
   obtain ⟨m, hm⟩ : ∃ m, n - i = m + 1 := ⟨n - i - 1, by omega⟩
   rw [hm] at hzz ⊢
   simp [Builtin.clear_, run_underlying ht, hv, hzz, hst]
  obtain ⟨cur', h3, h4, h5⟩ := setCells_row zc (i * d.sz) W cur hh hfit
  obtain ⟨s1, s2, s3, s4⟩ := setCells_same g zc (i * d.sz) W
  have hfar : ∀ k', k' ≠ g → (W.setCells g (i * d.sz) zc).heap[k']? = W.heap[k']? := fun k' hk' => setCells_far zc _ k' hk'
  have hmv : ∀ p q, d.M W base (fun k' => ok k' ∧ some k' ≠ (Value.slice (some ⟨g, 0, none⟩) i c).ownBlock) p q → d.M (W.setCells g (i * d.sz) zc) base (fun k' => ok k' ∧ some k' ≠ (Value.slice (some ⟨g, 0, none⟩) i c).ownBlock) p q := fun p q hp =>
   d.M_move (fun k' hk' => hfar k' (fun he => hk'.2 (by simp [Value.ownBlock, he]))) hp
  refine ⟨_, hrun, ⟨hok, inner, ⟨by rw [hxl]; exact hil, .inr ⟨g, c, cur', by rw [hxl], hb, h3, by rw [hxl]; exact hle, hcm, by rw [h4, hcs], ?_⟩⟩, hr.imp_ hmv⟩, ⟨s1, s2, s3, by rw [s4]; exact Nat.le_refl _, fun k' _ hk' => hfar k' (fun he => hk' (by rw [he]))⟩⟩
  rw [hxl, h5, ← htake, List.append_assoc]
  rw [List.take_append_of_le_length (by rw [List.length_take, Array.length_toList]; omega), List.take_take, Nat.min_self]
 have h0 : n - i = 0 := by omega
 rw [h0]
 refine ⟨W, ?_, HT, ⟨rfl, rfl, rfl, Nat.le_refl _, fun _ _ _ => rfl⟩⟩
 cases A <;> simp [Builtin.clear_, run_underlying ht]
theorem fidx_spec {α : Type} (p : α → Bool) (d : α) : ∀ (l : List α) (i : Int), (fidx p l i = -1 ∧ ∀ x ∈ l, p x = false) ∨ ∃ n, n < l.length ∧ fidx p l i = i + n ∧ p (l.getD n d) = true ∧ ∀ j, j < n → p (l.getD j d) = false
 | [], i => .inl ⟨rfl, fun x h => by simp at h⟩
 | x :: t, i => by
  by_cases h : p x = true
  ·exact .inr ⟨0, by simp, by simp [fidx, h], by simpa using h, fun j hj => absurd hj (Nat.not_lt_zero _)⟩
  rcases fidx_spec p d t (i + 1) with ⟨h1, h2⟩ | ⟨n, h1, h2, h3, h4⟩
  ·refine .inl ⟨by simp [fidx, h, h1], fun y hy => ?_⟩
   rcases List.mem_cons.1 hy with rfl | hy
   ·exact Bool.eq_false_iff.2 h
   exact h2 y hy
  refine .inr ⟨n + 1, by simpa using h1, by simp [fidx, h, h2]; omega, by simpa using h3, fun j hj => ?_⟩
  cases j with
  | zero => simpa using Bool.eq_false_iff.2 h
  | succ j => simpa using h4 j (by omega)
structure KeptSoFar {α : Type} (p : α → Bool) (l dk : List α) (i j : Nat) : Prop where
 lt : i < j
 le : j ≤ l.length
 len : dk.length = l.length
 head : dk.take i = (l.take j).filter (fun x => !p x)
 tail : dk.drop j = l.drop j
theorem KeptSoFar.at_ {α : Type} {p : α → Bool} {l dk : List α} {i j : Nat} (h : KeptSoFar p l dk i j) (d : α) (hj : j < l.length) : dk.getD j d = l.getD j d := by
 have h1 := congrArg (fun x => x.getD 0 d) h.tail
 simpa [List.getD_eq_getElem?_getD] using h1
theorem take_snoc {α : Type} (l : List α) (d : α) (j : Nat) (hj : j < l.length) : l.take (j + 1) = l.take j ++ [l.getD j d] := by
 rw [List.take_succ_eq_append_getElem hj]; simp [List.getD_eq_getElem?_getD, hj]
theorem KeptSoFar.skip {α : Type} {p : α → Bool} {l dk : List α} {i j : Nat} (h : KeptSoFar p l dk i j) (d : α) (hj : j < l.length) (hp : p (l.getD j d) = true) : KeptSoFar p l dk i (j + 1) := by
 refine ⟨by have := h.lt; omega, hj, h.len, ?_, ?_⟩
 ·rw [h.head, take_snoc l d j hj, List.filter_append, List.filter_cons, if_neg (by rw [hp]; decide), List.filter_nil, List.append_nil]
 have := congrArg (List.drop 1) h.tail
 rwa [List.drop_drop, List.drop_drop] at this
theorem KeptSoFar.keep {α : Type} {p : α → Bool} {l dk : List α} {i j : Nat} (h : KeptSoFar p l dk i j) (d : α) (hj : j < l.length) (hp : p (l.getD j d) = false) : KeptSoFar p l (dk.set i (l.getD j d)) (i + 1) (j + 1) := by
 have hlt := h.lt
 have hil : i < dk.length := by rw [h.len]; omega
 refine ⟨by omega, hj, by rw [List.length_set, h.len], ?_, ?_⟩
 ·rw [take_snoc l d j hj, List.filter_append, List.filter_cons, if_pos (by rw [hp]; rfl), List.filter_nil, ← h.head]
  rw [take_snoc _ d i (by rw [List.length_set]; exact hil), List.take_set_of_le (Nat.le_refl _)]
  simp [List.getD_eq_getElem?_getD, hil]
 rw [List.drop_set_of_lt (by omega)]
 have := congrArg (List.drop 1) h.tail
 rwa [List.drop_drop, List.drop_drop] at this
theorem KeptSoFar.start {α : Type} {p : α → Bool} {l : List α} (d : α) (n : Nat) (hn : n < l.length) (hp : p (l.getD n d) = true) (hb : ∀ j, j < n → p (l.getD j d) = false) : KeptSoFar p l l n (n + 1) := by
 refine ⟨Nat.lt_succ_self _, hn, rfl, ?_, rfl⟩
 rw [take_snoc l d n hn, List.filter_append, List.filter_cons, if_neg (by rw [hp]; decide), List.filter_nil, List.append_nil]
 refine (List.filter_eq_self.2 fun x hx => ?_).symm
 obtain ⟨q, hq, rfl⟩ := List.mem_iff_getElem.1 hx
 rw [List.length_take] at hq
 have := hb q (by omega)
 rw [List.getElem_take]
 rw [List.getD_eq_getElem?_getD, List.getElem?_eq_getElem (by omega)] at this
 simpa using this
theorem KeptSoFar.done {α : Type} {p : α → Bool} {l dk : List α} {i j : Nat} (h : KeptSoFar p l dk i j) (hj : ¬ j < l.length) : dk.take i = l.filter (fun x => !p x) := by
 rw [h.head, List.take_of_length_le (by omega)]
theorem below_low {b : Nat} {w W : World} (h : Below w.heap.size w W) (hb : b ≤ w.heap.size) : Below b w W := ⟨h.os, h.tape, h.output, h.size, fun k hk => h.block k (by omega)⟩
theorem below_on {b : Nat} {w W W2 : World} (h : Below b w W) (hb : b ≤ W.heap.size) (h2 : Below W.heap.size W W2) : Below b w W2 := h.trans (below_low h2 hb)
theorem below_grown {b gr : Nat} {w W W2 : World} (h : Below b w W) (hg : W.grownBy W2 (some gr)) (hgr : gr < W.heap.size) (hb : b ≤ gr) : Below b w W2 :=
 h.trans ⟨hg.os, hg.tape, hg.output, hg.size, fun k hk => hg.block k (by omega) (fun he => by injection he with he; omega)⟩
theorem at_call32 (g : Nat) (cb : Array Value) (p : S32 → Bool) (y : S32) {base : Nat} {w wr w3 : World} {gx gr n c : Nat} {dk : List S32}
  (hp : ∀ (W : World) (x : S32), Below base w W → Calls Try.prog g (#[.agg #[.int .i64 x.f0.f0, .int .i64 x.f0.f1, .int .i64 x.f1, .int .i64 x.f2]] ++ cb) W fun e w' => e = .returned (.bool (p x)) ∧ Below W.heap.size W w')
  (hw : Below base w wr) (hs : base ≤ wr.heap.size) (hb : Below wr.heap.size wr w3) (hgx : gx = wr.heap.size) (hbx : w3.heap[gx]? = some (.cells #[.int .i64 0, .int .i64 0, .int .i64 0, .int .i64 0] 32 (0, 0)))
  (HD : Kd.R k32 32 wr base (fun k => some k = (Value.slice (some ⟨gr, 0, none⟩) n c).ownBlock) (.slice (some ⟨gr, 0, none⟩) n c) dk) (hgr : gr < wr.heap.size) :
  let wc := (((w3.setCell ⟨gx, 0, none⟩ (.int .i64 y.f0.f0)).setCell ⟨gx, 1, none⟩ (.int .i64 y.f0.f1)).setCell ⟨gx, 2, none⟩ (.int .i64 y.f1)).setCell ⟨gx, 3, none⟩ (.int .i64 y.f2)
  Calls Try.prog g (#[.agg #[.int .i64 y.f0.f0, .int .i64 y.f0.f1, .int .i64 y.f1, .int .i64 y.f2]] ++ cb) wc (fun e w' => e = .returned (.bool (p y)) ∧ Below wc.heap.size wc w') ∧
   (∀ w', Below wc.heap.size wc w' → w'.heap[gx]? = some (.cells #[.int .i64 y.f0.f0, .int .i64 y.f0.f1, .int .i64 y.f1, .int .i64 y.f2] 32 (0, 0))) ∧
   (∀ w', Below wc.heap.size wc w' → (Kd.R k32 32 w' base (fun k => some k = (Value.slice (some ⟨gr, 0, none⟩) n c).ownBlock) (.slice (some ⟨gr, 0, none⟩) n c) dk ∧ Below base w w' ∧ gr < w'.heap.size ∧ base ≤ w'.heap.size)) := by
 intro wc
 have hge : wr.heap.size ≤ gx := by omega
 have hwc : wc = w3.setCells gx 0 [.int .i64 y.f0.f0, .int .i64 y.f0.f1, .int .i64 y.f1, .int .i64 y.f2] := rfl
 have hbc : Below wr.heap.size wr wc := below_set (below_set (below_set (below_set hb hge) hge) hge) hge
 have hbw : Below base w wc := below_on hw hs hbc
 have hbx2 : wc.heap[gx]? = some (.cells #[.int .i64 y.f0.f0, .int .i64 y.f0.f1, .int .i64 y.f1, .int .i64 y.f2] 32 (0, 0)) := by
  obtain ⟨cur', h3, h4, h5⟩ := setCells_row [.int .i64 y.f0.f0, .int .i64 y.f0.f1, .int .i64 y.f1, .int .i64 y.f2] 0 w3 _ hbx (by simp)
  rw [hwc, h3]
  have : cur' = #[.int .i64 y.f0.f0, .int .i64 y.f0.f1, .int .i64 y.f1, .int .i64 y.f2] := Array.toList_inj.1 (by rw [h5]; rfl)
  rw [this]
 have hdc : Kd.R k32 32 wc base (fun k => some k = (Value.slice (some ⟨gr, 0, none⟩) n c).ownBlock) (.slice (some ⟨gr, 0, none⟩) n c) dk := by
  refine Kd.R_step (Kd.R_below HD hb) (fun k hk _ => ?_)
  have hkg : k = gr := by simpa [Value.ownBlock] using hk
  rw [hwc]
  exact setCells_far _ _ k (by omega)
 refine ⟨hp wc y hbw, fun w' hw' => blk_below hbx2 hw', fun w' hw' => ⟨Kd.R_below hdc hw', below_on hbw (Nat.le_trans hs hbc.size) hw', ?_, ?_⟩⟩
 ·exact Nat.lt_of_lt_of_le hgr (Nat.le_trans hbc.size hw'.size)
 exact Nat.le_trans hs (Nat.le_trans hbc.size hw'.size)
theorem row_cells32 {base gr n c : Nat} {w : World} {ok : Nat → Prop} {dk : List S32} (HD : Kd.R k32 32 w base ok (.slice (some ⟨gr, 0, none⟩) n c) dk) (i : Nat) (hi : i < n) :
  w.cell? ⟨gr, i * 4, none⟩ = some (.int .i64 (dk.getD i z32).f0.f0) ∧ w.cell? ⟨gr, i * 4 + 1, none⟩ = some (.int .i64 (dk.getD i z32).f0.f1) ∧ w.cell? ⟨gr, i * 4 + 2, none⟩ = some (.int .i64 (dk.getD i z32).f1) ∧ w.cell? ⟨gr, i * 4 + 3, none⟩ = some (.int .i64 (dk.getD i z32).f2) ∧ w.frozen? ⟨gr, i * 4, none⟩ = false ∧ w.frozen? ⟨gr, i * 4 + 1, none⟩ = false ∧ w.frozen? ⟨gr, i * 4 + 2, none⟩ = false ∧ w.frozen? ⟨gr, i * 4 + 3, none⟩ = false := by
 obtain ⟨cs, hcl, hM, hcell, hfroz⟩ := Kd.R_elem HD z32 (i : Int) (by omega) (by omega)
 obtain rfl := k32_openM hM
 exact ⟨hcell 0 _ rfl, hcell 1 _ rfl, hcell 2 _ rfl, hcell 3 _ rfl, hfroz 0, hfroz 1, hfroz 2, hfroz 3⟩
theorem row_put32 {base gr n c : Nat} {w : World} {dk : List S32} (HD : Kd.R k32 32 w base (fun k => some k = (Value.slice (some ⟨gr, 0, none⟩) n c).ownBlock) (.slice (some ⟨gr, 0, none⟩) n c) dk) (i : Nat) (hi : i < n) (y : S32) :
  let wc := (((w.setCell ⟨gr, i * 4, none⟩ (.int .i64 y.f0.f0)).setCell ⟨gr, i * 4 + 1, none⟩ (.int .i64 y.f0.f1)).setCell ⟨gr, i * 4 + 2, none⟩ (.int .i64 y.f1)).setCell ⟨gr, i * 4 + 3, none⟩ (.int .i64 y.f2)
  Kd.R k32 32 wc base (fun k => some k = (Value.slice (some ⟨gr, 0, none⟩) n c).ownBlock) (.slice (some ⟨gr, 0, none⟩) n c) (dk.set i y) ∧ w.grownBy wc (some gr) := by
 intro wc
 obtain ⟨cs, hcl, hM, hcell, hfroz⟩ := Kd.R_elem HD z32 (i : Int) (by omega) (by omega)
 have := Kd.R_seg (okp := fun _ => False) HD (i : Int) (by omega) (by omega) (c := cs) (seg := [.int .i64 y.f0.f0, .int .i64 y.f0.f1, .int .i64 y.f1, .int .i64 y.f2]) (j := 0) hcl hcell (show (4 : Nat) ≤ 4 from Nat.le_refl _) (x' := y) (by
  rw [List.take_zero, List.nil_append, List.drop_of_length_le (by rw [hcl]; exact Nat.le_refl 4), List.append_nil]
  exact k32_mkM _ _ _ y) (fun _ h => h.elim)
 exact this
set_option maxHeartbeats 8000000 in
set_option maxRecDepth 100000 in
theorem dlf32 (g : Nat) (cb : Array Value) (p : S32 → Bool) (l : List S32) (v : Value) (base : Nat) (ok : Nat → Prop) (w : World) (hr : Kd.R k32 32 w base ok v l) (hbase : base ≤ w.heap.size)
  (eg : ∀ args w, (callFunc g args).run Try.prog w = .ok (.enter g args) w)
  (hp : ∀ (W : World) (x : S32), Below base w W → Calls Try.prog g (#[.agg #[.int .i64 x.f0.f0, .int .i64 x.f0.f1, .int .i64 x.f1, .int .i64 x.f2]] ++ cb) W fun e w' => e = .returned (.bool (p x)) ∧ Below W.heap.size W w') :
  Calls Try.prog 68 #[v, .func (.func g) #[] cb] w fun e w' => ∃ v', e = .returned v' ∧ Kd.R k32 32 w' base ok v' (l.filter fun x => !p x) ∧ Below base w w' := by
 obtain ⟨A, c, rfl⟩ := Kd.R_slice hr
 have HR := Aside0.mk hr
 have HC := Aside0.mk (Kd.R_reads' hr)
 have EG := Aside0.mk eg
 have HP := Aside0.mk hp
 have HI : Aside0 (Calls Try.prog 61 #[.slice A l.length c, .func (.func g) #[] cb] w fun e w' => e = .returned (.int .i64 (fidx p l 0)) ∧ Below w.heap.size w w') :=
  ⟨ixf32 g cb p A c l w HC.out.2.2 eg (fun W x hW => (hp W x (below_low hW hbase)).mono fun e w' hq => ⟨hq.1, below_step hW hq.2⟩)⟩
 have hu32 := Try.underlying32
 clear hr eg hp
 rcases fidx_spec p z32 l 0 with ⟨h1, h2⟩ | ⟨n, h1, h2, h3, h4⟩
 ·rw [h1] at HI
  have HF : Aside0 (l.filter (fun x => !p x) = l) := ⟨List.filter_eq_self.2 fun x hx => by rw [h2 x hx]; rfl⟩
  clear h1 h2
  go_enter Try.func68, Try.ntmps68
  go_wp2_with (go_at_call 61; refine HI.out.mono ?_; rintro e w2 ⟨rfl, hb2⟩; have HB2 := Aside0.mk hb2; clear hb2)
  go_ret
  exact ⟨_, rfl, by rw [HF.out]; exact Kd.R_below HR.out HB2.out, below_low HB2.out hbase⟩
 have hi : fidx p l 0 = (n : Int) := by omega
 rw [hi] at HI
 have KS := Aside0.mk (KeptSoFar.start z32 n h1 h3 h4)
 obtain ⟨gr, cap, he, hgb, hgl, _⟩ := Kd.R_form HR.out (show 0 < l.length by omega)
 injection he with hA _ hcc
 subst hA
 have hneg : ¬ ((n : Int) = -1) := by omega
 have hd1 := decide_eq_false hneg
 have HLN := Aside0.mk h1
 clear h1 h2 h3 h4 hi hcc
 have hbig : l.length ≤ 9223372036854775807 := by have := HC.out.2.2.2.1; omega
 have hwn : wrap64 ((n : Int) + 1) = ((n + 1 : Nat) : Int) := by have := HC.out.2.2.2.1; have := HLN.out; unfold wrap64; omega
 go_enter Try.func68, Try.ntmps68
 go_wp2_with (go_at_call 61; refine HI.out.mono ?_; rintro e w2 ⟨rfl, hb2⟩; have HB2 := Aside0.mk hb2; clear hb2)
 have HT : Aside0 (Kd.R k32 32 w2 base (fun k => some k = (Value.slice (some ⟨gr, 0, none⟩) l.length c).ownBlock) (.slice (some ⟨gr, 0, none⟩) l.length c) l) := ⟨Kd.R_tight rfl (Kd.R_below HR.out HB2.out)⟩
 have HBW := Aside0.mk (below_low HB2.out hbase)
 have GL : Aside0 (gr < w2.heap.size) := ⟨Nat.lt_of_lt_of_le hgl HB2.out.size⟩
 have OKG : Aside0 (ok gr) := ⟨HR.out.1 gr rfl⟩
 go_loopg [5, 6, 7] l.length (fun gg s5 s6 _ wr => ∃ (i j : Nat) (dk : List S32), s5 = .int .i64 i ∧ s6 = .int .i64 j ∧ l.length - j ≤ gg ∧ Aside0 (KeptSoFar p l dk i j) ∧ Aside0 (Kd.R k32 32 wr base (fun k => some k = (Value.slice (some ⟨gr, 0, none⟩) l.length c).ownBlock) (.slice (some ⟨gr, 0, none⟩) l.length c) dk) ∧ Aside0 (Below base w wr) ∧ Aside0 (gr < wr.heap.size) ∧ Aside0 (base ≤ wr.heap.size))
 case atStart => exact ⟨n, n + 1, l, rfl, by go_num, by omega, KS, HT, HBW, GL, ⟨Nat.le_trans hbase HB2.out.size⟩⟩
 case round =>
  obtain ⟨i, j, dk, rfl, rfl, hg, KI, HD, BW, GB, BS⟩ := hrel
  by_cases hlt : j < l.length
  ·have hltz : (j : Int) < (l.length : Int) := by omega
   have hilt : i < l.length := by have := KI.out.lt; omega
   obtain ⟨cs, hcl, hM, hcell, hfroz⟩ := Kd.R_elem HD.out z32 (j : Int) (by omega) hltz
   obtain ⟨cs2, hcl2, hM2, hcell2, hfroz2⟩ := Kd.R_elem HD.out z32 (i : Int) (by omega) (by omega)
   obtain rfl := k32_openM hM
   obtain rfl := k32_openM hM2
   simp only [Int.toNat_natCast] at hcell hfroz hcell2 hfroz2
   generalize hy : dk.getD j z32 = y at hcell hM
   generalize dk.getD i z32 = u at hcell2
   have EY : Aside0 (l.getD j z32 = y) := ⟨by rw [← hy]; exact (KI.out.at_ z32 hlt).symm⟩
   have C0 := Aside0.mk (show wr.cell? ⟨gr, j * 4, none⟩ = some (.int .i64 y.f0.f0) from hcell 0 _ rfl)
   have C1 := Aside0.mk (show wr.cell? ⟨gr, j * 4 + 1, none⟩ = some (.int .i64 y.f0.f1) from hcell 1 _ rfl)
   have C2 := Aside0.mk (show wr.cell? ⟨gr, j * 4 + 2, none⟩ = some (.int .i64 y.f1) from hcell 2 _ rfl)
   have C3 := Aside0.mk (show wr.cell? ⟨gr, j * 4 + 3, none⟩ = some (.int .i64 y.f2) from hcell 3 _ rfl)
   have c0 := C0.out
   have c1 := C1.out
   have c2 := C2.out
   have c3 := C3.out
   clear hcell hcl hM hcl2 hM2 hcell2 hfroz hfroz2 hy hd1 hneg hwn
   have hlt2 := Aside0.mk hlt
   have hilt2 := hilt
   have eg := EG.out
   cases hq : p y
   all_goals have PQ := Aside0.mk hq
   all_goals clear hq
   all_goals go_wp2_with (first
    | ((with_reducible refine gate_dst (N := 7) rfl ?_); refine bE (N := 7) (cs := #[.int .i64 0, .int .i64 0, .int .i64 0, .int .i64 0]) (t := 32) ?_; intro gx hgx w3 hbox hb3; have BX := Aside0.mk hbox; have HB3 := Aside0.mk hb3; have GX := Aside0.mk hgx; have s0 := blk_cell' BX.out 0 _ rfl; have s1 := blk_cell' BX.out 1 _ rfl; have s2 := blk_cell' BX.out 2 _ rfl; have s3 := blk_cell' BX.out 3 _ rfl; have f0 := blk_frozen BX.out 0; have f1 := blk_frozen BX.out 1; have f2 := blk_frozen BX.out 2; have f3 := blk_frozen BX.out 3; clear hb3 hbox hgx)
    | (go_at_fn g; obtain ⟨HPC, HX4, HD4⟩ := at_call32 g cb p y HP.out BW.out BS.out HB3.out GX.out BX.out HD.out GB.out; rw [PQ.out] at HPC; refine HPC.mono ?_; rintro e w4 ⟨rfl, hb4⟩; have HB4 := Aside0.mk hb4; have HD5 := Aside0.mk (HD4 _ hb4); have HX5 := Aside0.mk (HX4 _ hb4); clear HPC HX4 HD4 hb4; have t0 := blk_cell' HX5.out 0 _ rfl; have t1 := blk_cell' HX5.out 1 _ rfl; have t2 := blk_cell' HX5.out 2 _ rfl; have t3 := blk_cell' HX5.out 3 _ rfl; obtain ⟨e0, e1, e2, e3, z0, z1, z2, z3⟩ := row_cells32 HD5.out.1 i hilt2))
   ·have RP := row_put32 HD5.out.1 i hilt2 y
    have KK := KI.out.keep z32 hlt2.out (by rw [EY.out]; exact PQ.out)
    rw [EY.out] at KK
    have KL := KK.le
    go_roundg (l.length - (j + 1))
    case measure => omega
    case rel => exact ⟨i + 1, j + 1, dk.set i y, by go_num, by go_num, Nat.le_refl _, ⟨KK⟩, ⟨RP.1⟩, ⟨below_grown HD5.out.2.1 RP.2 HD5.out.2.2.1 hgb⟩, ⟨Nat.lt_of_lt_of_le HD5.out.2.2.1 RP.2.size⟩, ⟨Nat.le_trans HD5.out.2.2.2 RP.2.size⟩⟩
   have KK := KI.out.skip z32 hlt2.out (by rw [EY.out]; exact PQ.out)
   go_roundg (l.length - (j + 1))
   case measure => omega
   case rel => exact ⟨i, j + 1, dk, rfl, by go_num, Nat.le_refl _, ⟨KK⟩, ⟨HD5.out.1⟩, ⟨HD5.out.2.1⟩, ⟨HD5.out.2.2.1⟩, ⟨HD5.out.2.2.2⟩⟩
  have hltz : ¬ (j : Int) < (l.length : Int) := by omega
  have hd := decide_eq_false hltz
  have hil : i ≤ l.length := by have := KI.out.lt; have := KI.out.le; omega
  have hic : i ≤ c := Nat.le_trans hil HC.out.2.1
  have FIN := Aside0.mk (KI.out.done hlt)
  have zv : ∀ w, (zeroValue 32).run Try.prog w = .ok (.agg #[.int .i64 0, .int .i64 0, .int .i64 0, .int .i64 0]) w := Try.zeroValue32
  have hfin : ∀ w1, Kd.R k32 32 w1 base (fun k => some k = (Value.slice (some ⟨gr, 0, none⟩) l.length c).ownBlock) (.slice (some ⟨gr, 0, none⟩) i c) (dk.take i) → wr.grownBy w1 (some gr) → Kd.R k32 32 w1 base ok (.slice (some ⟨gr, 0, none⟩) i c) (l.filter fun x => !p x) ∧ Below base w w1 := fun w1 hR hgb' => ⟨by
   rw [← FIN.out]
   exact Kd.R_reok rfl hR (fun k hk => by
    have : gr = k := by simpa [Value.ownBlock] using hk
    rw [← this]; exact OKG.out), below_grown BW.out hgb' GB.out hgb⟩
  have HFIN := Aside0.mk hfin
  clear hfin
  by_cases hci : c = i
  ·obtain ⟨w1, hrun, hR, hgw⟩ := Kd.R_clear_run k32 (P := Try.prog) base 22 0 32 _ Try.underlying22 zv rfl (by decide) (by decide) HD.out hil (A := some ⟨gr, 0, none⟩) (by rw [if_pos hci]) 0
   have HH := Aside0.mk (HFIN.out w1 hR hgw)
   clear hR hgw zv
   subst hci
   go_wp2
   go_ret
   exact ⟨_, rfl, HH.out⟩
  obtain ⟨w1, hrun, hR, hgw⟩ := Kd.R_clear_run k32 (P := Try.prog) base 22 0 32 _ Try.underlying22 zv rfl (by decide) (by decide) HD.out hil (A := some ⟨gr, i * 4, none⟩) (by rw [if_neg hci, Option.map_some, add_at, Nat.zero_add]; rfl) (c - i)
  have HH := Aside0.mk (HFIN.out w1 hR hgw)
  clear hR hgw zv
  go_wp2
  go_ret
  exact ⟨_, rfl, HH.out⟩
theorem at_call34 (g : Nat) (cb : Array Value) (p : S34 → Bool) (y : S34) {base : Nat} {w wr w3 : World} {gx gr n c : Nat} {dk : List S34}
  (hp : ∀ (W : World) (x : S34), Below base w W → Calls Try.prog g (#[.agg #[.int .i64 x.f0.f0, .int .i64 x.f0.f1, .int .i64 x.f1, .int .i64 x.f2, .int .i64 x.f3]] ++ cb) W fun e w' => e = .returned (.bool (p x)) ∧ Below W.heap.size W w')
  (hw : Below base w wr) (hs : base ≤ wr.heap.size) (hb : Below wr.heap.size wr w3) (hgx : gx = wr.heap.size) (hbx : w3.heap[gx]? = some (.cells #[.int .i64 0, .int .i64 0, .int .i64 0, .int .i64 0, .int .i64 0] 34 (0, 0)))
  (HD : Kd.R k34 34 wr base (fun k => some k = (Value.slice (some ⟨gr, 0, none⟩) n c).ownBlock) (.slice (some ⟨gr, 0, none⟩) n c) dk) (hgr : gr < wr.heap.size) :
  let wc := ((((w3.setCell ⟨gx, 0, none⟩ (.int .i64 y.f0.f0)).setCell ⟨gx, 1, none⟩ (.int .i64 y.f0.f1)).setCell ⟨gx, 2, none⟩ (.int .i64 y.f1)).setCell ⟨gx, 3, none⟩ (.int .i64 y.f2)).setCell ⟨gx, 4, none⟩ (.int .i64 y.f3)
  Calls Try.prog g (#[.agg #[.int .i64 y.f0.f0, .int .i64 y.f0.f1, .int .i64 y.f1, .int .i64 y.f2, .int .i64 y.f3]] ++ cb) wc (fun e w' => e = .returned (.bool (p y)) ∧ Below wc.heap.size wc w') ∧
   (∀ w', Below wc.heap.size wc w' → w'.heap[gx]? = some (.cells #[.int .i64 y.f0.f0, .int .i64 y.f0.f1, .int .i64 y.f1, .int .i64 y.f2, .int .i64 y.f3] 34 (0, 0))) ∧
   (∀ w', Below wc.heap.size wc w' → (Kd.R k34 34 w' base (fun k => some k = (Value.slice (some ⟨gr, 0, none⟩) n c).ownBlock) (.slice (some ⟨gr, 0, none⟩) n c) dk ∧ Below base w w' ∧ gr < w'.heap.size ∧ base ≤ w'.heap.size)) := by
 intro wc
 have hge : wr.heap.size ≤ gx := by omega
 have hwc : wc = w3.setCells gx 0 [.int .i64 y.f0.f0, .int .i64 y.f0.f1, .int .i64 y.f1, .int .i64 y.f2, .int .i64 y.f3] := rfl
 have hbc : Below wr.heap.size wr wc := below_set (below_set (below_set (below_set (below_set hb hge) hge) hge) hge) hge
 have hbw : Below base w wc := below_on hw hs hbc
 have hbx2 : wc.heap[gx]? = some (.cells #[.int .i64 y.f0.f0, .int .i64 y.f0.f1, .int .i64 y.f1, .int .i64 y.f2, .int .i64 y.f3] 34 (0, 0)) := by
  obtain ⟨cur', h3, h4, h5⟩ := setCells_row [.int .i64 y.f0.f0, .int .i64 y.f0.f1, .int .i64 y.f1, .int .i64 y.f2, .int .i64 y.f3] 0 w3 _ hbx (by simp)
  rw [hwc, h3]
  have : cur' = #[.int .i64 y.f0.f0, .int .i64 y.f0.f1, .int .i64 y.f1, .int .i64 y.f2, .int .i64 y.f3] := Array.toList_inj.1 (by rw [h5]; rfl)
  rw [this]
 have hdc : Kd.R k34 34 wc base (fun k => some k = (Value.slice (some ⟨gr, 0, none⟩) n c).ownBlock) (.slice (some ⟨gr, 0, none⟩) n c) dk := by
  refine Kd.R_step (Kd.R_below HD hb) (fun k hk _ => ?_)
  have hkg : k = gr := by simpa [Value.ownBlock] using hk
  rw [hwc]
  exact setCells_far _ _ k (by omega)
 refine ⟨hp wc y hbw, fun w' hw' => blk_below hbx2 hw', fun w' hw' => ⟨Kd.R_below hdc hw', below_on hbw (Nat.le_trans hs hbc.size) hw', ?_, ?_⟩⟩
 ·exact Nat.lt_of_lt_of_le hgr (Nat.le_trans hbc.size hw'.size)
 exact Nat.le_trans hs (Nat.le_trans hbc.size hw'.size)
theorem row_cells34 {base gr n c : Nat} {w : World} {ok : Nat → Prop} {dk : List S34} (HD : Kd.R k34 34 w base ok (.slice (some ⟨gr, 0, none⟩) n c) dk) (i : Nat) (hi : i < n) :
  w.cell? ⟨gr, i * 5, none⟩ = some (.int .i64 (dk.getD i z34).f0.f0) ∧ w.cell? ⟨gr, i * 5 + 1, none⟩ = some (.int .i64 (dk.getD i z34).f0.f1) ∧ w.cell? ⟨gr, i * 5 + 2, none⟩ = some (.int .i64 (dk.getD i z34).f1) ∧ w.cell? ⟨gr, i * 5 + 3, none⟩ = some (.int .i64 (dk.getD i z34).f2) ∧ w.cell? ⟨gr, i * 5 + 4, none⟩ = some (.int .i64 (dk.getD i z34).f3) ∧ w.frozen? ⟨gr, i * 5, none⟩ = false ∧ w.frozen? ⟨gr, i * 5 + 1, none⟩ = false ∧ w.frozen? ⟨gr, i * 5 + 2, none⟩ = false ∧ w.frozen? ⟨gr, i * 5 + 3, none⟩ = false ∧ w.frozen? ⟨gr, i * 5 + 4, none⟩ = false := by
 obtain ⟨cs, hcl, hM, hcell, hfroz⟩ := Kd.R_elem HD z34 (i : Int) (by omega) (by omega)
 obtain rfl := k34_openM hM
 exact ⟨hcell 0 _ rfl, hcell 1 _ rfl, hcell 2 _ rfl, hcell 3 _ rfl, hcell 4 _ rfl, hfroz 0, hfroz 1, hfroz 2, hfroz 3, hfroz 4⟩
theorem row_put34 {base gr n c : Nat} {w : World} {dk : List S34} (HD : Kd.R k34 34 w base (fun k => some k = (Value.slice (some ⟨gr, 0, none⟩) n c).ownBlock) (.slice (some ⟨gr, 0, none⟩) n c) dk) (i : Nat) (hi : i < n) (y : S34) :
  let wc := ((((w.setCell ⟨gr, i * 5, none⟩ (.int .i64 y.f0.f0)).setCell ⟨gr, i * 5 + 1, none⟩ (.int .i64 y.f0.f1)).setCell ⟨gr, i * 5 + 2, none⟩ (.int .i64 y.f1)).setCell ⟨gr, i * 5 + 3, none⟩ (.int .i64 y.f2)).setCell ⟨gr, i * 5 + 4, none⟩ (.int .i64 y.f3)
  Kd.R k34 34 wc base (fun k => some k = (Value.slice (some ⟨gr, 0, none⟩) n c).ownBlock) (.slice (some ⟨gr, 0, none⟩) n c) (dk.set i y) ∧ w.grownBy wc (some gr) := by
 intro wc
 obtain ⟨cs, hcl, hM, hcell, hfroz⟩ := Kd.R_elem HD z34 (i : Int) (by omega) (by omega)
 have := Kd.R_seg (okp := fun _ => False) HD (i : Int) (by omega) (by omega) (c := cs) (seg := [.int .i64 y.f0.f0, .int .i64 y.f0.f1, .int .i64 y.f1, .int .i64 y.f2, .int .i64 y.f3]) (j := 0) hcl hcell (show (5 : Nat) ≤ 5 from Nat.le_refl _) (x' := y) (by
  rw [List.take_zero, List.nil_append, List.drop_of_length_le (by rw [hcl]; exact Nat.le_refl 5), List.append_nil]
  exact k34_mkM _ _ _ y) (fun _ h => h.elim)
 exact this
set_option maxHeartbeats 8000000 in
set_option maxRecDepth 100000 in
theorem dlf34 (g : Nat) (cb : Array Value) (p : S34 → Bool) (l : List S34) (v : Value) (base : Nat) (ok : Nat → Prop) (w : World) (hr : Kd.R k34 34 w base ok v l) (hbase : base ≤ w.heap.size)
  (eg : ∀ args w, (callFunc g args).run Try.prog w = .ok (.enter g args) w)
  (hp : ∀ (W : World) (x : S34), Below base w W → Calls Try.prog g (#[.agg #[.int .i64 x.f0.f0, .int .i64 x.f0.f1, .int .i64 x.f1, .int .i64 x.f2, .int .i64 x.f3]] ++ cb) W fun e w' => e = .returned (.bool (p x)) ∧ Below W.heap.size W w') :
  Calls Try.prog 70 #[v, .func (.func g) #[] cb] w fun e w' => ∃ v', e = .returned v' ∧ Kd.R k34 34 w' base ok v' (l.filter fun x => !p x) ∧ Below base w w' := by
 obtain ⟨A, c, rfl⟩ := Kd.R_slice hr
 have HR := Aside0.mk hr
 have HC := Aside0.mk (Kd.R_reads' hr)
 have EG := Aside0.mk eg
 have HP := Aside0.mk hp
 have HI : Aside0 (Calls Try.prog 65 #[.slice A l.length c, .func (.func g) #[] cb] w fun e w' => e = .returned (.int .i64 (fidx p l 0)) ∧ Below w.heap.size w w') :=
  ⟨ixf34 g cb p A c l w HC.out.2.2 eg (fun W x hW => (hp W x (below_low hW hbase)).mono fun e w' hq => ⟨hq.1, below_step hW hq.2⟩)⟩
 have hu34 := Try.underlying34
 clear hr eg hp
 rcases fidx_spec p z34 l 0 with ⟨h1, h2⟩ | ⟨n, h1, h2, h3, h4⟩
 ·rw [h1] at HI
  have HF : Aside0 (l.filter (fun x => !p x) = l) := ⟨List.filter_eq_self.2 fun x hx => by rw [h2 x hx]; rfl⟩
  clear h1 h2
  go_enter Try.func70, Try.ntmps70
  go_wp2_with (go_at_call 65; refine HI.out.mono ?_; rintro e w2 ⟨rfl, hb2⟩; have HB2 := Aside0.mk hb2; clear hb2)
  go_ret
  exact ⟨_, rfl, by rw [HF.out]; exact Kd.R_below HR.out HB2.out, below_low HB2.out hbase⟩
 have hi : fidx p l 0 = (n : Int) := by omega
 rw [hi] at HI
 have KS := Aside0.mk (KeptSoFar.start z34 n h1 h3 h4)
 obtain ⟨gr, cap, he, hgb, hgl, _⟩ := Kd.R_form HR.out (show 0 < l.length by omega)
 injection he with hA _ hcc
 subst hA
 have hneg : ¬ ((n : Int) = -1) := by omega
 have hd1 := decide_eq_false hneg
 have HLN := Aside0.mk h1
 clear h1 h2 h3 h4 hi hcc
 have hbig : l.length ≤ 9223372036854775807 := by have := HC.out.2.2.2.1; omega
 have hwn : wrap64 ((n : Int) + 1) = ((n + 1 : Nat) : Int) := by have := HC.out.2.2.2.1; have := HLN.out; unfold wrap64; omega
 go_enter Try.func70, Try.ntmps70
 go_wp2_with (go_at_call 65; refine HI.out.mono ?_; rintro e w2 ⟨rfl, hb2⟩; have HB2 := Aside0.mk hb2; clear hb2)
 have HT : Aside0 (Kd.R k34 34 w2 base (fun k => some k = (Value.slice (some ⟨gr, 0, none⟩) l.length c).ownBlock) (.slice (some ⟨gr, 0, none⟩) l.length c) l) := ⟨Kd.R_tight rfl (Kd.R_below HR.out HB2.out)⟩
 have HBW := Aside0.mk (below_low HB2.out hbase)
 have GL : Aside0 (gr < w2.heap.size) := ⟨Nat.lt_of_lt_of_le hgl HB2.out.size⟩
 have OKG : Aside0 (ok gr) := ⟨HR.out.1 gr rfl⟩
 go_loopg [5, 6, 7] l.length (fun gg s5 s6 _ wr => ∃ (i j : Nat) (dk : List S34), s5 = .int .i64 i ∧ s6 = .int .i64 j ∧ l.length - j ≤ gg ∧ Aside0 (KeptSoFar p l dk i j) ∧ Aside0 (Kd.R k34 34 wr base (fun k => some k = (Value.slice (some ⟨gr, 0, none⟩) l.length c).ownBlock) (.slice (some ⟨gr, 0, none⟩) l.length c) dk) ∧ Aside0 (Below base w wr) ∧ Aside0 (gr < wr.heap.size) ∧ Aside0 (base ≤ wr.heap.size))
 case atStart => exact ⟨n, n + 1, l, rfl, by go_num, by omega, KS, HT, HBW, GL, ⟨Nat.le_trans hbase HB2.out.size⟩⟩
 case round =>
  obtain ⟨i, j, dk, rfl, rfl, hg, KI, HD, BW, GB, BS⟩ := hrel
  by_cases hlt : j < l.length
  ·have hltz : (j : Int) < (l.length : Int) := by omega
   have hilt : i < l.length := by have := KI.out.lt; omega
   obtain ⟨cs, hcl, hM, hcell, hfroz⟩ := Kd.R_elem HD.out z34 (j : Int) (by omega) hltz
   obtain ⟨cs2, hcl2, hM2, hcell2, hfroz2⟩ := Kd.R_elem HD.out z34 (i : Int) (by omega) (by omega)
   obtain rfl := k34_openM hM
   obtain rfl := k34_openM hM2
   simp only [Int.toNat_natCast] at hcell hfroz hcell2 hfroz2
   generalize hy : dk.getD j z34 = y at hcell hM
   generalize dk.getD i z34 = u at hcell2
   have EY : Aside0 (l.getD j z34 = y) := ⟨by rw [← hy]; exact (KI.out.at_ z34 hlt).symm⟩
   have C0 := Aside0.mk (show wr.cell? ⟨gr, j * 5, none⟩ = some (.int .i64 y.f0.f0) from hcell 0 _ rfl)
   have C1 := Aside0.mk (show wr.cell? ⟨gr, j * 5 + 1, none⟩ = some (.int .i64 y.f0.f1) from hcell 1 _ rfl)
   have C2 := Aside0.mk (show wr.cell? ⟨gr, j * 5 + 2, none⟩ = some (.int .i64 y.f1) from hcell 2 _ rfl)
   have C3 := Aside0.mk (show wr.cell? ⟨gr, j * 5 + 3, none⟩ = some (.int .i64 y.f2) from hcell 3 _ rfl)
   have C4 := Aside0.mk (show wr.cell? ⟨gr, j * 5 + 4, none⟩ = some (.int .i64 y.f3) from hcell 4 _ rfl)
   have c0 := C0.out
   have c1 := C1.out
   have c2 := C2.out
   have c3 := C3.out
   have c4 := C4.out
   clear hcell hcl hM hcl2 hM2 hcell2 hfroz hfroz2 hy hd1 hneg hwn
   have hlt2 := Aside0.mk hlt
   have hilt2 := hilt
   have eg := EG.out
   cases hq : p y
   all_goals have PQ := Aside0.mk hq
   all_goals clear hq
   all_goals go_wp2_with (first
    | ((with_reducible refine gate_dst (N := 7) rfl ?_); refine bE (N := 7) (cs := #[.int .i64 0, .int .i64 0, .int .i64 0, .int .i64 0, .int .i64 0]) (t := 34) ?_; intro gx hgx w3 hbox hb3; have BX := Aside0.mk hbox; have HB3 := Aside0.mk hb3; have GX := Aside0.mk hgx; have s0 := blk_cell' BX.out 0 _ rfl; have s1 := blk_cell' BX.out 1 _ rfl; have s2 := blk_cell' BX.out 2 _ rfl; have s3 := blk_cell' BX.out 3 _ rfl; have s4 := blk_cell' BX.out 4 _ rfl; have f0 := blk_frozen BX.out 0; have f1 := blk_frozen BX.out 1; have f2 := blk_frozen BX.out 2; have f3 := blk_frozen BX.out 3; have f4 := blk_frozen BX.out 4; clear hb3 hbox hgx)
    | (go_at_fn g; obtain ⟨HPC, HX4, HD4⟩ := at_call34 g cb p y HP.out BW.out BS.out HB3.out GX.out BX.out HD.out GB.out; rw [PQ.out] at HPC; refine HPC.mono ?_; rintro e w4 ⟨rfl, hb4⟩; have HB4 := Aside0.mk hb4; have HD5 := Aside0.mk (HD4 _ hb4); have HX5 := Aside0.mk (HX4 _ hb4); clear HPC HX4 HD4 hb4; have t0 := blk_cell' HX5.out 0 _ rfl; have t1 := blk_cell' HX5.out 1 _ rfl; have t2 := blk_cell' HX5.out 2 _ rfl; have t3 := blk_cell' HX5.out 3 _ rfl; have t4 := blk_cell' HX5.out 4 _ rfl; obtain ⟨e0, e1, e2, e3, e4, z0, z1, z2, z3, z4⟩ := row_cells34 HD5.out.1 i hilt2))
   ·have RP := row_put34 HD5.out.1 i hilt2 y
    have KK := KI.out.keep z34 hlt2.out (by rw [EY.out]; exact PQ.out)
    rw [EY.out] at KK
    have KL := KK.le
    go_roundg (l.length - (j + 1))
    case measure => omega
    case rel => exact ⟨i + 1, j + 1, dk.set i y, by go_num, by go_num, Nat.le_refl _, ⟨KK⟩, ⟨RP.1⟩, ⟨below_grown HD5.out.2.1 RP.2 HD5.out.2.2.1 hgb⟩, ⟨Nat.lt_of_lt_of_le HD5.out.2.2.1 RP.2.size⟩, ⟨Nat.le_trans HD5.out.2.2.2 RP.2.size⟩⟩
   have KK := KI.out.skip z34 hlt2.out (by rw [EY.out]; exact PQ.out)
   go_roundg (l.length - (j + 1))
   case measure => omega
   case rel => exact ⟨i, j + 1, dk, rfl, by go_num, Nat.le_refl _, ⟨KK⟩, ⟨HD5.out.1⟩, ⟨HD5.out.2.1⟩, ⟨HD5.out.2.2.1⟩, ⟨HD5.out.2.2.2⟩⟩
  have hltz : ¬ (j : Int) < (l.length : Int) := by omega
  have hd := decide_eq_false hltz
  have hil : i ≤ l.length := by have := KI.out.lt; have := KI.out.le; omega
  have hic : i ≤ c := Nat.le_trans hil HC.out.2.1
  have FIN := Aside0.mk (KI.out.done hlt)
  have zv : ∀ w, (zeroValue 34).run Try.prog w = .ok (.agg #[.int .i64 0, .int .i64 0, .int .i64 0, .int .i64 0, .int .i64 0]) w := Try.zeroValue34
  have hfin : ∀ w1, Kd.R k34 34 w1 base (fun k => some k = (Value.slice (some ⟨gr, 0, none⟩) l.length c).ownBlock) (.slice (some ⟨gr, 0, none⟩) i c) (dk.take i) → wr.grownBy w1 (some gr) → Kd.R k34 34 w1 base ok (.slice (some ⟨gr, 0, none⟩) i c) (l.filter fun x => !p x) ∧ Below base w w1 := fun w1 hR hgb' => ⟨by
   rw [← FIN.out]
   exact Kd.R_reok rfl hR (fun k hk => by
    have : gr = k := by simpa [Value.ownBlock] using hk
    rw [← this]; exact OKG.out), below_grown BW.out hgb' GB.out hgb⟩
  have HFIN := Aside0.mk hfin
  clear hfin
  by_cases hci : c = i
  ·obtain ⟨w1, hrun, hR, hgw⟩ := Kd.R_clear_run k34 (P := Try.prog) base 23 0 34 _ Try.underlying23 zv rfl (by decide) (by decide) HD.out hil (A := some ⟨gr, 0, none⟩) (by rw [if_pos hci]) 0
   have HH := Aside0.mk (HFIN.out w1 hR hgw)
   clear hR hgw zv
   subst hci
   go_wp2
   go_ret
   exact ⟨_, rfl, HH.out⟩
  obtain ⟨w1, hrun, hR, hgw⟩ := Kd.R_clear_run k34 (P := Try.prog) base 23 0 34 _ Try.underlying23 zv rfl (by decide) (by decide) HD.out hil (A := some ⟨gr, i * 5, none⟩) (by rw [if_neg hci, Option.map_some, add_at, Nat.zero_add]; rfl) (c - i)
  have HH := Aside0.mk (HFIN.out w1 hR hgw)
  clear hR hgw zv
  go_wp2
  go_ret
  exact ⟨_, rfl, HH.out⟩
theorem at_call51 (g : Nat) (cb : Array Value) (p : S51 → Bool) (y : S51) {base : Nat} {w wr w3 : World} {gx gr n c : Nat} {dk : List S51}
  (hp : ∀ (W : World) (x : S51), Below base w W → Calls Try.prog g (#[.agg #[.int .i64 x.f0.f0, .int .i64 x.f0.f1, .int .i64 x.f1]] ++ cb) W fun e w' => e = .returned (.bool (p x)) ∧ Below W.heap.size W w')
  (hw : Below base w wr) (hs : base ≤ wr.heap.size) (hb : Below wr.heap.size wr w3) (hgx : gx = wr.heap.size) (hbx : w3.heap[gx]? = some (.cells #[.int .i64 0, .int .i64 0, .int .i64 0] 51 (0, 0)))
  (HD : Kd.R k51 51 wr base (fun k => some k = (Value.slice (some ⟨gr, 0, none⟩) n c).ownBlock) (.slice (some ⟨gr, 0, none⟩) n c) dk) (hgr : gr < wr.heap.size) :
  let wc := ((w3.setCell ⟨gx, 0, none⟩ (.int .i64 y.f0.f0)).setCell ⟨gx, 1, none⟩ (.int .i64 y.f0.f1)).setCell ⟨gx, 2, none⟩ (.int .i64 y.f1)
  Calls Try.prog g (#[.agg #[.int .i64 y.f0.f0, .int .i64 y.f0.f1, .int .i64 y.f1]] ++ cb) wc (fun e w' => e = .returned (.bool (p y)) ∧ Below wc.heap.size wc w') ∧
   (∀ w', Below wc.heap.size wc w' → w'.heap[gx]? = some (.cells #[.int .i64 y.f0.f0, .int .i64 y.f0.f1, .int .i64 y.f1] 51 (0, 0))) ∧
   (∀ w', Below wc.heap.size wc w' → (Kd.R k51 51 w' base (fun k => some k = (Value.slice (some ⟨gr, 0, none⟩) n c).ownBlock) (.slice (some ⟨gr, 0, none⟩) n c) dk ∧ Below base w w' ∧ gr < w'.heap.size ∧ base ≤ w'.heap.size)) := by
 intro wc
 have hge : wr.heap.size ≤ gx := by omega
 have hwc : wc = w3.setCells gx 0 [.int .i64 y.f0.f0, .int .i64 y.f0.f1, .int .i64 y.f1] := rfl
 have hbc : Below wr.heap.size wr wc := below_set (below_set (below_set hb hge) hge) hge
 have hbw : Below base w wc := below_on hw hs hbc
 have hbx2 : wc.heap[gx]? = some (.cells #[.int .i64 y.f0.f0, .int .i64 y.f0.f1, .int .i64 y.f1] 51 (0, 0)) := by
  obtain ⟨cur', h3, h4, h5⟩ := setCells_row [.int .i64 y.f0.f0, .int .i64 y.f0.f1, .int .i64 y.f1] 0 w3 _ hbx (by simp)
  rw [hwc, h3]
  have : cur' = #[.int .i64 y.f0.f0, .int .i64 y.f0.f1, .int .i64 y.f1] := Array.toList_inj.1 (by rw [h5]; rfl)
  rw [this]
 have hdc : Kd.R k51 51 wc base (fun k => some k = (Value.slice (some ⟨gr, 0, none⟩) n c).ownBlock) (.slice (some ⟨gr, 0, none⟩) n c) dk := by
  refine Kd.R_step (Kd.R_below HD hb) (fun k hk _ => ?_)
  have hkg : k = gr := by simpa [Value.ownBlock] using hk
  rw [hwc]
  exact setCells_far _ _ k (by omega)
 refine ⟨hp wc y hbw, fun w' hw' => blk_below hbx2 hw', fun w' hw' => ⟨Kd.R_below hdc hw', below_on hbw (Nat.le_trans hs hbc.size) hw', ?_, ?_⟩⟩
 ·exact Nat.lt_of_lt_of_le hgr (Nat.le_trans hbc.size hw'.size)
 exact Nat.le_trans hs (Nat.le_trans hbc.size hw'.size)
theorem row_cells51 {base gr n c : Nat} {w : World} {ok : Nat → Prop} {dk : List S51} (HD : Kd.R k51 51 w base ok (.slice (some ⟨gr, 0, none⟩) n c) dk) (i : Nat) (hi : i < n) :
  w.cell? ⟨gr, i * 3, none⟩ = some (.int .i64 (dk.getD i z51).f0.f0) ∧ w.cell? ⟨gr, i * 3 + 1, none⟩ = some (.int .i64 (dk.getD i z51).f0.f1) ∧ w.cell? ⟨gr, i * 3 + 2, none⟩ = some (.int .i64 (dk.getD i z51).f1) ∧ w.frozen? ⟨gr, i * 3, none⟩ = false ∧ w.frozen? ⟨gr, i * 3 + 1, none⟩ = false ∧ w.frozen? ⟨gr, i * 3 + 2, none⟩ = false := by
 obtain ⟨cs, hcl, hM, hcell, hfroz⟩ := Kd.R_elem HD z51 (i : Int) (by omega) (by omega)
 obtain rfl := k51_openM hM
 exact ⟨hcell 0 _ rfl, hcell 1 _ rfl, hcell 2 _ rfl, hfroz 0, hfroz 1, hfroz 2⟩
theorem row_put51 {base gr n c : Nat} {w : World} {dk : List S51} (HD : Kd.R k51 51 w base (fun k => some k = (Value.slice (some ⟨gr, 0, none⟩) n c).ownBlock) (.slice (some ⟨gr, 0, none⟩) n c) dk) (i : Nat) (hi : i < n) (y : S51) :
  let wc := ((w.setCell ⟨gr, i * 3, none⟩ (.int .i64 y.f0.f0)).setCell ⟨gr, i * 3 + 1, none⟩ (.int .i64 y.f0.f1)).setCell ⟨gr, i * 3 + 2, none⟩ (.int .i64 y.f1)
  Kd.R k51 51 wc base (fun k => some k = (Value.slice (some ⟨gr, 0, none⟩) n c).ownBlock) (.slice (some ⟨gr, 0, none⟩) n c) (dk.set i y) ∧ w.grownBy wc (some gr) := by
 intro wc
 obtain ⟨cs, hcl, hM, hcell, hfroz⟩ := Kd.R_elem HD z51 (i : Int) (by omega) (by omega)
 have := Kd.R_seg (okp := fun _ => False) HD (i : Int) (by omega) (by omega) (c := cs) (seg := [.int .i64 y.f0.f0, .int .i64 y.f0.f1, .int .i64 y.f1]) (j := 0) hcl hcell (show (3 : Nat) ≤ 3 from Nat.le_refl _) (x' := y) (by
  rw [List.take_zero, List.nil_append, List.drop_of_length_le (by rw [hcl]; exact Nat.le_refl 3), List.append_nil]
  exact k51_mkM _ _ _ y) (fun _ h => h.elim)
 exact this
set_option maxHeartbeats 8000000 in
set_option maxRecDepth 100000 in
theorem dlf51 (g : Nat) (cb : Array Value) (p : S51 → Bool) (l : List S51) (v : Value) (base : Nat) (ok : Nat → Prop) (w : World) (hr : Kd.R k51 51 w base ok v l) (hbase : base ≤ w.heap.size)
  (eg : ∀ args w, (callFunc g args).run Try.prog w = .ok (.enter g args) w)
  (hp : ∀ (W : World) (x : S51), Below base w W → Calls Try.prog g (#[.agg #[.int .i64 x.f0.f0, .int .i64 x.f0.f1, .int .i64 x.f1]] ++ cb) W fun e w' => e = .returned (.bool (p x)) ∧ Below W.heap.size W w') :
  Calls Try.prog 72 #[v, .func (.func g) #[] cb] w fun e w' => ∃ v', e = .returned v' ∧ Kd.R k51 51 w' base ok v' (l.filter fun x => !p x) ∧ Below base w w' := by
 obtain ⟨A, c, rfl⟩ := Kd.R_slice hr
 have HR := Aside0.mk hr
 have HC := Aside0.mk (Kd.R_reads' hr)
 have EG := Aside0.mk eg
 have HP := Aside0.mk hp
 have HI : Aside0 (Calls Try.prog 76 #[.slice A l.length c, .func (.func g) #[] cb] w fun e w' => e = .returned (.int .i64 (fidx p l 0)) ∧ Below w.heap.size w w') :=
  ⟨ixf51 g cb p A c l w HC.out.2.2 eg (fun W x hW => (hp W x (below_low hW hbase)).mono fun e w' hq => ⟨hq.1, below_step hW hq.2⟩)⟩
 have hu51 := Try.underlying51
 clear hr eg hp
 rcases fidx_spec p z51 l 0 with ⟨h1, h2⟩ | ⟨n, h1, h2, h3, h4⟩
 ·rw [h1] at HI
  have HF : Aside0 (l.filter (fun x => !p x) = l) := ⟨List.filter_eq_self.2 fun x hx => by rw [h2 x hx]; rfl⟩
  clear h1 h2
  go_enter Try.func72, Try.ntmps72
  go_wp2_with (go_at_call 76; refine HI.out.mono ?_; rintro e w2 ⟨rfl, hb2⟩; have HB2 := Aside0.mk hb2; clear hb2)
  go_ret
  exact ⟨_, rfl, by rw [HF.out]; exact Kd.R_below HR.out HB2.out, below_low HB2.out hbase⟩
 have hi : fidx p l 0 = (n : Int) := by omega
 rw [hi] at HI
 have KS := Aside0.mk (KeptSoFar.start z51 n h1 h3 h4)
 obtain ⟨gr, cap, he, hgb, hgl, _⟩ := Kd.R_form HR.out (show 0 < l.length by omega)
 injection he with hA _ hcc
 subst hA
 have hneg : ¬ ((n : Int) = -1) := by omega
 have hd1 := decide_eq_false hneg
 have HLN := Aside0.mk h1
 clear h1 h2 h3 h4 hi hcc
 have hbig : l.length ≤ 9223372036854775807 := by have := HC.out.2.2.2.1; omega
 have hwn : wrap64 ((n : Int) + 1) = ((n + 1 : Nat) : Int) := by have := HC.out.2.2.2.1; have := HLN.out; unfold wrap64; omega
 go_enter Try.func72, Try.ntmps72
 go_wp2_with (go_at_call 76; refine HI.out.mono ?_; rintro e w2 ⟨rfl, hb2⟩; have HB2 := Aside0.mk hb2; clear hb2)
 have HT : Aside0 (Kd.R k51 51 w2 base (fun k => some k = (Value.slice (some ⟨gr, 0, none⟩) l.length c).ownBlock) (.slice (some ⟨gr, 0, none⟩) l.length c) l) := ⟨Kd.R_tight rfl (Kd.R_below HR.out HB2.out)⟩
 have HBW := Aside0.mk (below_low HB2.out hbase)
 have GL : Aside0 (gr < w2.heap.size) := ⟨Nat.lt_of_lt_of_le hgl HB2.out.size⟩
 have OKG : Aside0 (ok gr) := ⟨HR.out.1 gr rfl⟩
 go_loopg [5, 6, 7] l.length (fun gg s5 s6 _ wr => ∃ (i j : Nat) (dk : List S51), s5 = .int .i64 i ∧ s6 = .int .i64 j ∧ l.length - j ≤ gg ∧ Aside0 (KeptSoFar p l dk i j) ∧ Aside0 (Kd.R k51 51 wr base (fun k => some k = (Value.slice (some ⟨gr, 0, none⟩) l.length c).ownBlock) (.slice (some ⟨gr, 0, none⟩) l.length c) dk) ∧ Aside0 (Below base w wr) ∧ Aside0 (gr < wr.heap.size) ∧ Aside0 (base ≤ wr.heap.size))
 case atStart => exact ⟨n, n + 1, l, rfl, by go_num, by omega, KS, HT, HBW, GL, ⟨Nat.le_trans hbase HB2.out.size⟩⟩
 case round =>
  obtain ⟨i, j, dk, rfl, rfl, hg, KI, HD, BW, GB, BS⟩ := hrel
  by_cases hlt : j < l.length
  ·have hltz : (j : Int) < (l.length : Int) := by omega
   have hilt : i < l.length := by have := KI.out.lt; omega
   obtain ⟨cs, hcl, hM, hcell, hfroz⟩ := Kd.R_elem HD.out z51 (j : Int) (by omega) hltz
   obtain ⟨cs2, hcl2, hM2, hcell2, hfroz2⟩ := Kd.R_elem HD.out z51 (i : Int) (by omega) (by omega)
   obtain rfl := k51_openM hM
   obtain rfl := k51_openM hM2
   simp only [Int.toNat_natCast] at hcell hfroz hcell2 hfroz2
   generalize hy : dk.getD j z51 = y at hcell hM
   generalize dk.getD i z51 = u at hcell2
   have EY : Aside0 (l.getD j z51 = y) := ⟨by rw [← hy]; exact (KI.out.at_ z51 hlt).symm⟩
   have C0 := Aside0.mk (show wr.cell? ⟨gr, j * 3, none⟩ = some (.int .i64 y.f0.f0) from hcell 0 _ rfl)
   have C1 := Aside0.mk (show wr.cell? ⟨gr, j * 3 + 1, none⟩ = some (.int .i64 y.f0.f1) from hcell 1 _ rfl)
   have C2 := Aside0.mk (show wr.cell? ⟨gr, j * 3 + 2, none⟩ = some (.int .i64 y.f1) from hcell 2 _ rfl)
   have c0 := C0.out
   have c1 := C1.out
   have c2 := C2.out
   clear hcell hcl hM hcl2 hM2 hcell2 hfroz hfroz2 hy hd1 hneg hwn
   have hlt2 := Aside0.mk hlt
   have hilt2 := hilt
   have eg := EG.out
   cases hq : p y
   all_goals have PQ := Aside0.mk hq
   all_goals clear hq
   all_goals go_wp2_with (first
    | ((with_reducible refine gate_dst (N := 7) rfl ?_); refine bE (N := 7) (cs := #[.int .i64 0, .int .i64 0, .int .i64 0]) (t := 51) ?_; intro gx hgx w3 hbox hb3; have BX := Aside0.mk hbox; have HB3 := Aside0.mk hb3; have GX := Aside0.mk hgx; have s0 := blk_cell' BX.out 0 _ rfl; have s1 := blk_cell' BX.out 1 _ rfl; have s2 := blk_cell' BX.out 2 _ rfl; have f0 := blk_frozen BX.out 0; have f1 := blk_frozen BX.out 1; have f2 := blk_frozen BX.out 2; clear hb3 hbox hgx)
    | (go_at_fn g; obtain ⟨HPC, HX4, HD4⟩ := at_call51 g cb p y HP.out BW.out BS.out HB3.out GX.out BX.out HD.out GB.out; rw [PQ.out] at HPC; refine HPC.mono ?_; rintro e w4 ⟨rfl, hb4⟩; have HB4 := Aside0.mk hb4; have HD5 := Aside0.mk (HD4 _ hb4); have HX5 := Aside0.mk (HX4 _ hb4); clear HPC HX4 HD4 hb4; have t0 := blk_cell' HX5.out 0 _ rfl; have t1 := blk_cell' HX5.out 1 _ rfl; have t2 := blk_cell' HX5.out 2 _ rfl; obtain ⟨e0, e1, e2, z0, z1, z2⟩ := row_cells51 HD5.out.1 i hilt2))
   ·have RP := row_put51 HD5.out.1 i hilt2 y
    have KK := KI.out.keep z51 hlt2.out (by rw [EY.out]; exact PQ.out)
    rw [EY.out] at KK
    have KL := KK.le
    go_roundg (l.length - (j + 1))
    case measure => omega
    case rel => exact ⟨i + 1, j + 1, dk.set i y, by go_num, by go_num, Nat.le_refl _, ⟨KK⟩, ⟨RP.1⟩, ⟨below_grown HD5.out.2.1 RP.2 HD5.out.2.2.1 hgb⟩, ⟨Nat.lt_of_lt_of_le HD5.out.2.2.1 RP.2.size⟩, ⟨Nat.le_trans HD5.out.2.2.2 RP.2.size⟩⟩
   have KK := KI.out.skip z51 hlt2.out (by rw [EY.out]; exact PQ.out)
   go_roundg (l.length - (j + 1))
   case measure => omega
   case rel => exact ⟨i, j + 1, dk, rfl, by go_num, Nat.le_refl _, ⟨KK⟩, ⟨HD5.out.1⟩, ⟨HD5.out.2.1⟩, ⟨HD5.out.2.2.1⟩, ⟨HD5.out.2.2.2⟩⟩
  have hltz : ¬ (j : Int) < (l.length : Int) := by omega
  have hd := decide_eq_false hltz
  have hil : i ≤ l.length := by have := KI.out.lt; have := KI.out.le; omega
  have hic : i ≤ c := Nat.le_trans hil HC.out.2.1
  have FIN := Aside0.mk (KI.out.done hlt)
  have zv : ∀ w, (zeroValue 51).run Try.prog w = .ok (.agg #[.int .i64 0, .int .i64 0, .int .i64 0]) w := Try.zeroValue51
  have hfin : ∀ w1, Kd.R k51 51 w1 base (fun k => some k = (Value.slice (some ⟨gr, 0, none⟩) l.length c).ownBlock) (.slice (some ⟨gr, 0, none⟩) i c) (dk.take i) → wr.grownBy w1 (some gr) → Kd.R k51 51 w1 base ok (.slice (some ⟨gr, 0, none⟩) i c) (l.filter fun x => !p x) ∧ Below base w w1 := fun w1 hR hgb' => ⟨by
   rw [← FIN.out]
   exact Kd.R_reok rfl hR (fun k hk => by
    have : gr = k := by simpa [Value.ownBlock] using hk
    rw [← this]; exact OKG.out), below_grown BW.out hgb' GB.out hgb⟩
  have HFIN := Aside0.mk hfin
  clear hfin
  by_cases hci : c = i
  ·obtain ⟨w1, hrun, hR, hgw⟩ := Kd.R_clear_run k51 (P := Try.prog) base 24 0 51 _ Try.underlying24 zv rfl (by decide) (by decide) HD.out hil (A := some ⟨gr, 0, none⟩) (by rw [if_pos hci]) 0
   have HH := Aside0.mk (HFIN.out w1 hR hgw)
   clear hR hgw zv
   subst hci
   go_wp2
   go_ret
   exact ⟨_, rfl, HH.out⟩
  obtain ⟨w1, hrun, hR, hgw⟩ := Kd.R_clear_run k51 (P := Try.prog) base 24 0 51 _ Try.underlying24 zv rfl (by decide) (by decide) HD.out hil (A := some ⟨gr, i * 3, none⟩) (by rw [if_neg hci, Option.map_some, add_at, Nat.zero_add]; rfl) (c - i)
  have HH := Aside0.mk (HFIN.out w1 hR hgw)
  clear hR hgw zv
  go_wp2
  go_ret
  exact ⟨_, rfl, HH.out⟩
def api_Ask_60.f (l0 : List (S51)) : Option (List (S51)) := if l0.length < 5864062014805 then some l0 else none
set_option maxHeartbeats 4000000 in
theorem api_Ask_60.calls (A0 : Option Addr) (c0 : Nat) (l0 : List (S51)) (r : List (S51)) (w : World) (hr0 : Kd.C k51 w A0 l0.length l0) (hc0 : l0.length ≤ c0) (h : api_Ask_60.f l0 = some r) :
  Calls Try.prog 60 #[.slice A0 l0.length c0] w fun e w' => ∃ v0_ : Value, e = .returned (v0_) ∧ Kd.R k51 51 w' w.heap.size (fun _ => True) v0_ r ∧ Below w.heap.size w w' := by
 have HL : Aside0 (l0.length < 5864062014805 ∧ l0 = r) := ⟨by
  unfold api_Ask_60.f at h
  by_cases hl : l0.length < 5864062014805
  ·rw [if_pos hl] at h; exact ⟨hl, Option.some.inj h⟩
  rw [if_neg hl] at h; exact absurd h (by simp)⟩
 obtain rfl := HL.out.2
 clear h hc0
 have HR := Aside0.mk hr0
 clear hr0
 have HB := Aside0.mk (Below.refl w.heap.size w)
 rcases A0 with _ | ad
 ·have h0 : l0 = [] := by
   rcases Nat.eq_zero_or_pos l0.length with h0 | h0
   ·exact List.eq_nil_of_length_eq_zero h0
   obtain ⟨ad, h, _⟩ := HR.out.2.2 h0
   cases h
  subst h0
  have heq := eql_slice_nil (P := Try.prog) 24 51 Try.underlying24 none 0 c0
  go_enter Try.func60, Try.ntmps60
  go_wp2
  go_ret
  exact ⟨_, rfl, Kd.R_nil _ _ _ _ _, HB.out⟩
 have heq := eql_slice_nil (P := Try.prog) 24 51 Try.underlying24 (some ad) l0.length c0
 go_enter Try.func60, Try.ntmps60
 go_wp2_with (first
  | ((with_reducible refine gate_dst (N := 5) rfl ?_); refine Kd.R_lit k51 _ 51 ?hg (N := 5) ?hd (xs := []) (inner := []) (ok := fun _ => True) (okp := fun _ => True) ?hr ?hp (fun _ hk => hk) trivial (Below.refl _ _) (Nat.le_refl _) (by simp) ?_; (case hd => rfl); (case hg => rfl); (case hr => first | (go_simp; done) | (go_simp; rfl)); (case hp => exact Reps.none _ _); intro v5 w5 ho hb hg_ hnew_; clear hg_ hnew_; have HO5 := Aside0.mk (Kd.R_lower ho HB.out.size); have HB5 := Aside0.mk (below_step HB.out hb); clear ho hb)
  | ((with_reducible refine gate_builtin (b := .append) (xs := #[.tmp 5, .tmp 6]) rfl ?_); at_builtin; refine Kd.R_append_rows k51 (w0 := w) w.heap.size rfl (.tmp 5) (.tmp 6) 24 51 (.agg #[(.int .i64 0), (.int .i64 0), (.int .i64 0)]) 24 rfl Try.underlying24 info51 rfl (by decide) (by omega) v5 [] l0 _ _ _ (fun _ => True) (fun _ => False) rfl rfl ?aO ?aR (fun _ _ h_ => flat51 _ _ _ _ _ h_) (fun _ h_ => h_.elim) (fun _ _ => trivial) ?aB ?aS ?aL ?_; (case aR => exact Kd.C_below HR.out HB5.out); (case aO => exact HO5.out); (case aB => exact HB5.out); (case aS => exact HB5.out.size); (case aL => have := HL.out.1; simp; omega); intro v7 w7 ho hb hg hat; clear hg hat; have HO7 := Aside0.mk ho; have HB7 := Aside0.mk hb; clear ho hb))
 go_ret
 exact ⟨_, rfl, HO7.out, HB7.out⟩

end Go.Proofs.Ytbpfbdljcdcgnaa.Px
