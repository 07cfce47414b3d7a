/- Walks of functions of this seat, written by a program of this workplace out of the translation. -/
import Derived.Test.YthobfempjekhdaaPx0
import Derived.Test.YthobfempjekhdaaPx2
import Derived.Test.YthobfempjekhdaaPx3
namespace Go.Proofs.Ythobfempjekhdaa.Px
open Go.RowKit Go.Proofs.YthobfempjekhdaaW.PrintWords Go.Proofs.YthobfempjekhdaaW.PrintLast Go.Proofs.YthobfempjekhdaaW.PrintMore
attribute [local go_sem] max2_int min2_int max_two min_two max_three min_three max_four min_four   -- for this text's walks alone
set_option linter.unusedVariables false
set_option linter.unusedSimpArgs false

/-! ### down_Expire: function 17 -/
theorem fidx_spec {α : Type} (p : α → Bool) (d : α) : ∀ (l : List α) (i : Int), (fidx p l i = -1 ∧ ∀ x ∈ l, p x = false) ∨ ∃ n, n < l.length ∧ fidx p l i = i + n ∧ p (l.getD n d) = true ∧ ∀ j, j < n → p (l.getD j d) = false
  | [], i => .inl ⟨rfl, fun x h => by simp at h⟩
  | x :: t, i => by
    by_cases h : p x = true
    · exact .inr ⟨0, by simp, by simp [fidx, h], by simpa using h, fun j hj => absurd hj (Nat.not_lt_zero _)⟩
    · rcases fidx_spec p d t (i + 1) with ⟨h1, h2⟩ | ⟨n, h1, h2, h3, h4⟩
      · refine .inl ⟨by simp [fidx, h, h1], fun y hy => ?_⟩
        rcases List.mem_cons.1 hy with rfl | hy
        · exact Bool.eq_false_iff.2 h
        · exact h2 y hy
      · refine .inr ⟨n + 1, by simpa using h1, by simp [fidx, h, h2]; omega, by simpa using h3, fun j hj => ?_⟩
        cases j with
        | zero => simpa using Bool.eq_false_iff.2 h
        | succ j => simpa using h4 j (by omega)
structure KeptSoFar {α : Type} (p : α → Bool) (l dk : List α) (i j : Nat) : Prop where
  lt : i < j
  le : j ≤ l.length
  len : dk.length = l.length
  head : dk.take i = (l.take j).filter (fun x => !p x)
  tail : dk.drop j = l.drop j
theorem KeptSoFar.at_ {α : Type} {p : α → Bool} {l dk : List α} {i j : Nat} (h : KeptSoFar p l dk i j) (d : α) (hj : j < l.length) : dk.getD j d = l.getD j d := by
  have h1 := congrArg (fun x => x.getD 0 d) h.tail
  simpa [List.getD_eq_getElem?_getD] using h1
theorem take_snoc {α : Type} (l : List α) (d : α) (j : Nat) (hj : j < l.length) : l.take (j + 1) = l.take j ++ [l.getD j d] := by
  rw [List.take_succ_eq_append_getElem hj]; simp [List.getD_eq_getElem?_getD, hj]
theorem KeptSoFar.skip {α : Type} {p : α → Bool} {l dk : List α} {i j : Nat} (h : KeptSoFar p l dk i j) (d : α) (hj : j < l.length) (hp : p (l.getD j d) = true) : KeptSoFar p l dk i (j + 1) := by
  refine ⟨by have := h.lt; omega, hj, h.len, ?_, ?_⟩
  · rw [h.head, take_snoc l d j hj, List.filter_append, List.filter_cons, if_neg (by rw [hp]; decide), List.filter_nil, List.append_nil]
  · have := congrArg (List.drop 1) h.tail
    rwa [List.drop_drop, List.drop_drop] at this
theorem KeptSoFar.keep {α : Type} {p : α → Bool} {l dk : List α} {i j : Nat} (h : KeptSoFar p l dk i j) (d : α) (hj : j < l.length) (hp : p (l.getD j d) = false) : KeptSoFar p l (dk.set i (l.getD j d)) (i + 1) (j + 1) := by
  have hlt := h.lt
  have hil : i < dk.length := by rw [h.len]; omega
  refine ⟨by omega, hj, by rw [List.length_set, h.len], ?_, ?_⟩
  · rw [take_snoc l d j hj, List.filter_append, List.filter_cons, if_pos (by rw [hp]; rfl), List.filter_nil, ← h.head]
    rw [take_snoc _ d i (by rw [List.length_set]; exact hil), List.take_set_of_le (Nat.le_refl _)]
    simp [List.getD_eq_getElem?_getD, hil]
  · rw [List.drop_set_of_lt (by omega)]
    have := congrArg (List.drop 1) h.tail
    rwa [List.drop_drop, List.drop_drop] at this
theorem KeptSoFar.start {α : Type} {p : α → Bool} {l : List α} (d : α) (n : Nat) (hn : n < l.length) (hp : p (l.getD n d) = true) (hb : ∀ j, j < n → p (l.getD j d) = false) : KeptSoFar p l l n (n + 1) := by
  refine ⟨Nat.lt_succ_self _, hn, rfl, ?_, rfl⟩
  rw [take_snoc l d n hn, List.filter_append, List.filter_cons, if_neg (by rw [hp]; decide), List.filter_nil, List.append_nil]
  refine (List.filter_eq_self.2 fun x hx => ?_).symm
  obtain ⟨q, hq, rfl⟩ := List.mem_iff_getElem.1 hx
  rw [List.length_take] at hq
  have := hb q (by omega)
  rw [List.getElem_take]
  rw [List.getD_eq_getElem?_getD, List.getElem?_eq_getElem (by omega)] at this
  simpa using this
theorem KeptSoFar.done {α : Type} {p : α → Bool} {l dk : List α} {i j : Nat} (h : KeptSoFar p l dk i j) (hj : ¬ j < l.length) : dk.take i = l.filter (fun x => !p x) := by
  rw [h.head, List.take_of_length_le (by omega)]
theorem below_low {b : Nat} {w W : World} (h : Below w.heap.size w W) (hb : b ≤ w.heap.size) : Below b w W := ⟨h.os, h.tape, h.output, h.size, fun k hk => h.block k (by omega)⟩
theorem below_on {b : Nat} {w W W2 : World} (h : Below b w W) (hb : b ≤ W.heap.size) (h2 : Below W.heap.size W W2) : Below b w W2 := h.trans (below_low h2 hb)
theorem at_call35 (g : Nat) (cb : Array Value) (p : S35 → Bool) (y : S35) {base : Nat} {w wr w3 : World} {gx gr n c : Nat} {dk : List S35}
    (hp : ∀ (W : World) (x : S35), Below base w W → Calls Try.prog g (#[.agg #[.int .i64 x.f0, .int .i64 x.f1, .int .i64 x.f2, .int .i64 x.f3]] ++ cb) W fun e w' => e = .returned (.bool (p x)) ∧ Below W.heap.size W w')
    (hw : Below base w wr) (hs : base ≤ wr.heap.size) (hb : Below wr.heap.size wr w3) (hgx : gx = wr.heap.size) (hbx : w3.heap[gx]? = some (.cells #[.int .i64 0, .int .i64 0, .int .i64 0, .int .i64 0] 35 (0, 0)))
    (HD : Kd.R k35 35 wr base (fun k => some k = (Value.slice (some ⟨gr, 0, none⟩) n c).ownBlock) (.slice (some ⟨gr, 0, none⟩) n c) dk) (hgr : gr < wr.heap.size) :
    let wc := (((w3.setCell ⟨gx, 0, none⟩ (.int .i64 y.f0)).setCell ⟨gx, 1, none⟩ (.int .i64 y.f1)).setCell ⟨gx, 2, none⟩ (.int .i64 y.f2)).setCell ⟨gx, 3, none⟩ (.int .i64 y.f3)
    Calls Try.prog g (#[.agg #[.int .i64 y.f0, .int .i64 y.f1, .int .i64 y.f2, .int .i64 y.f3]] ++ cb) wc (fun e w' => e = .returned (.bool (p y)) ∧ Below wc.heap.size wc w') ∧
      (∀ w', Below wc.heap.size wc w' → w'.heap[gx]? = some (.cells #[.int .i64 y.f0, .int .i64 y.f1, .int .i64 y.f2, .int .i64 y.f3] 35 (0, 0))) ∧
      (∀ w', Below wc.heap.size wc w' → (Kd.R k35 35 w' base (fun k => some k = (Value.slice (some ⟨gr, 0, none⟩) n c).ownBlock) (.slice (some ⟨gr, 0, none⟩) n c) dk ∧ Below base w w' ∧ gr < w'.heap.size ∧ base ≤ w'.heap.size)) := by
  intro wc
  have hge : wr.heap.size ≤ gx := by omega
  have hwc : wc = w3.setCells gx 0 [.int .i64 y.f0, .int .i64 y.f1, .int .i64 y.f2, .int .i64 y.f3] := rfl
  have hbc : Below wr.heap.size wr wc := below_set (below_set (below_set (below_set hb hge) hge) hge) hge
  have hbw : Below base w wc := below_on hw hs hbc
  have hbx2 : wc.heap[gx]? = some (.cells #[.int .i64 y.f0, .int .i64 y.f1, .int .i64 y.f2, .int .i64 y.f3] 35 (0, 0)) := by
    obtain ⟨cur', h3, h4, h5⟩ := setCells_row [.int .i64 y.f0, .int .i64 y.f1, .int .i64 y.f2, .int .i64 y.f3] 0 w3 _ hbx (by simp)
    rw [hwc, h3]
    have : cur' = #[.int .i64 y.f0, .int .i64 y.f1, .int .i64 y.f2, .int .i64 y.f3] := Array.toList_inj.1 (by rw [h5]; rfl)
    rw [this]
  have hdc : Kd.R k35 35 wc base (fun k => some k = (Value.slice (some ⟨gr, 0, none⟩) n c).ownBlock) (.slice (some ⟨gr, 0, none⟩) n c) dk := by
    refine Kd.R_step (Kd.R_below HD hb) (fun k hk _ => ?_)
    have hkg : k = gr := by simpa [Value.ownBlock] using hk
    rw [hwc]
    exact setCells_far _ _ k (by omega)
  refine ⟨hp wc y hbw, fun w' hw' => blk_below hbx2 hw', fun w' hw' => ⟨Kd.R_below hdc hw', below_on hbw (Nat.le_trans hs hbc.size) hw', ?_, ?_⟩⟩
  · exact Nat.lt_of_lt_of_le hgr (Nat.le_trans hbc.size hw'.size)
  · exact Nat.le_trans hs (Nat.le_trans hbc.size hw'.size)
theorem row_cells35 {base gr n c : Nat} {w : World} {ok : Nat → Prop} {dk : List S35} (HD : Kd.R k35 35 w base ok (.slice (some ⟨gr, 0, none⟩) n c) dk) (i : Nat) (hi : i < n) :
    w.cell? ⟨gr, i * 4, none⟩ = some (.int .i64 (dk.getD i z35).f0) ∧ w.cell? ⟨gr, i * 4 + 1, none⟩ = some (.int .i64 (dk.getD i z35).f1) ∧ w.cell? ⟨gr, i * 4 + 2, none⟩ = some (.int .i64 (dk.getD i z35).f2) ∧ w.cell? ⟨gr, i * 4 + 3, none⟩ = some (.int .i64 (dk.getD i z35).f3) ∧
      w.frozen? ⟨gr, i * 4, none⟩ = false ∧ w.frozen? ⟨gr, i * 4 + 1, none⟩ = false ∧ w.frozen? ⟨gr, i * 4 + 2, none⟩ = false ∧ w.frozen? ⟨gr, i * 4 + 3, none⟩ = false := by
  obtain ⟨cs, hcl, hM, hcell, hfroz⟩ := Kd.R_elem HD z35 (i : Int) (by omega) (by omega)
  obtain rfl := k35_openM hM
  exact ⟨hcell 0 _ rfl, hcell 1 _ rfl, hcell 2 _ rfl, hcell 3 _ rfl, hfroz 0, hfroz 1, hfroz 2, hfroz 3⟩
theorem row_put35 {base gr n c : Nat} {w : World} {dk : List S35} (HD : Kd.R k35 35 w base (fun k => some k = (Value.slice (some ⟨gr, 0, none⟩) n c).ownBlock) (.slice (some ⟨gr, 0, none⟩) n c) dk) (i : Nat) (hi : i < n) (y : S35) :
    let wc := (((w.setCell ⟨gr, i * 4, none⟩ (.int .i64 y.f0)).setCell ⟨gr, i * 4 + 1, none⟩ (.int .i64 y.f1)).setCell ⟨gr, i * 4 + 2, none⟩ (.int .i64 y.f2)).setCell ⟨gr, i * 4 + 3, none⟩ (.int .i64 y.f3)
    Kd.R k35 35 wc base (fun k => some k = (Value.slice (some ⟨gr, 0, none⟩) n c).ownBlock) (.slice (some ⟨gr, 0, none⟩) n c) (dk.set i y) ∧ w.grownBy wc (some gr) := by
  intro wc
  obtain ⟨cs, hcl, hM, hcell, hfroz⟩ := Kd.R_elem HD z35 (i : Int) (by omega) (by omega)
  have := Kd.R_seg (okp := fun _ => False) HD (i : Int) (by omega) (by omega) (c := cs) (seg := [.int .i64 y.f0, .int .i64 y.f1, .int .i64 y.f2, .int .i64 y.f3]) (j := 0) hcl hcell (show (4 : Nat) ≤ 4 from Nat.le_refl _) (x' := y) (by
    rw [List.take_zero, List.nil_append, List.drop_of_length_le (by rw [hcl]; exact Nat.le_refl 4), List.append_nil]
    exact k35_mkM _ _ _ y) (fun _ h => h.elim)
  exact this
theorem below_grown {b gr : Nat} {w W W2 : World} (h : Below b w W) (hg : W.grownBy W2 (some gr)) (hgr : gr < W.heap.size) (hb : b ≤ gr) : Below b w W2 :=
  h.trans ⟨hg.os, hg.tape, hg.output, hg.size, fun k hk => hg.block k (by omega) (fun he => by injection he with he; omega)⟩
set_option maxHeartbeats 8000000 in
set_option maxRecDepth 100000 in
theorem dlf35 (g : Nat) (cb : Array Value) (p : S35 → Bool) (l : List S35) (v : Value) (base : Nat) (ok : Nat → Prop) (w : World) (hr : Kd.R k35 35 w base ok v l) (hbase : base ≤ w.heap.size)
    (eg : ∀ args w, (callFunc g args).run Try.prog w = .ok (.enter g args) w)
    (hp : ∀ (W : World) (x : S35), Below base w W → Calls Try.prog g (#[.agg #[.int .i64 x.f0, .int .i64 x.f1, .int .i64 x.f2, .int .i64 x.f3]] ++ cb) W fun e w' => e = .returned (.bool (p x)) ∧ Below W.heap.size W w') :
    Calls Try.prog 34 #[v, .func (.func g) #[] cb] w fun e w' => ∃ v', e = .returned v' ∧ Kd.R k35 35 w' base ok v' (l.filter fun x => !p x) ∧ Below base w w' := by
  obtain ⟨A, c, rfl⟩ := Kd.R_slice hr
  have HR := Aside0.mk hr
  have HC := Aside0.mk (Kd.R_reads' hr)
  have EG := Aside0.mk eg
  have HP := Aside0.mk hp
  have HI : Aside0 (Calls Try.prog 32 #[.slice A l.length c, .func (.func g) #[] cb] w fun e w' => e = .returned (.int .i64 (fidx p l 0)) ∧ Below w.heap.size w w') :=
    ⟨ixf35 g cb p A c l w HC.out.2.2 eg (fun W x hW => (hp W x (below_low hW hbase)).mono fun e w' hq => ⟨hq.1, below_step hW hq.2⟩)⟩
  have hu35 := Try.underlying35
  clear hr eg hp
  rcases fidx_spec p z35 l 0 with ⟨h1, h2⟩ | ⟨n, h1, h2, h3, h4⟩
  · rw [h1] at HI
    have HF : Aside0 (l.filter (fun x => !p x) = l) := ⟨List.filter_eq_self.2 fun x hx => by rw [h2 x hx]; rfl⟩
    clear h1 h2
    go_enter Try.func34, Try.ntmps34
    go_wp2_with (go_at_call 32; refine HI.out.mono ?_; rintro e w2 ⟨rfl, hb2⟩; have HB2 := Aside0.mk hb2; clear hb2)
    go_ret
    exact ⟨_, rfl, by rw [HF.out]; exact Kd.R_below HR.out HB2.out, below_low HB2.out hbase⟩
  · have hi : fidx p l 0 = (n : Int) := by omega
    rw [hi] at HI
    have KS := Aside0.mk (KeptSoFar.start z35 n h1 h3 h4)
    obtain ⟨gr, cap, he, hgb, hgl, _⟩ := Kd.R_form HR.out (show 0 < l.length by omega)
    injection he with hA _ hcc
    subst hA
    have hneg : ¬ ((n : Int) = -1) := by omega
    have hd1 := decide_eq_false hneg
    have HLN := Aside0.mk h1
    clear h1 h2 h3 h4 hi hcc
    have hbig : l.length ≤ 9223372036854775807 := by have := HC.out.2.2.2.1; omega
    have hwn : wrap64 ((n : Int) + 1) = ((n + 1 : Nat) : Int) := by have := HC.out.2.2.2.1; have := HLN.out; unfold wrap64; omega
    go_enter Try.func34, Try.ntmps34
    go_wp2_with (go_at_call 32; refine HI.out.mono ?_; rintro e w2 ⟨rfl, hb2⟩; have HB2 := Aside0.mk hb2; clear hb2)
    have HT : Aside0 (Kd.R k35 35 w2 base (fun k => some k = (Value.slice (some ⟨gr, 0, none⟩) l.length c).ownBlock) (.slice (some ⟨gr, 0, none⟩) l.length c) l) := ⟨Kd.R_tight rfl (Kd.R_below HR.out HB2.out)⟩
    have HBW := Aside0.mk (below_low HB2.out hbase)
    have GL : Aside0 (gr < w2.heap.size) := ⟨Nat.lt_of_lt_of_le hgl HB2.out.size⟩
    have OKG : Aside0 (ok gr) := ⟨HR.out.1 gr rfl⟩
    go_loopg [5, 6, 7] l.length (fun gg s5 s6 _ wr => ∃ (i j : Nat) (dk : List S35), s5 = .int .i64 i ∧ s6 = .int .i64 j ∧ l.length - j ≤ gg ∧ Aside0 (KeptSoFar p l dk i j) ∧ Aside0 (Kd.R k35 35 wr base (fun k => some k = (Value.slice (some ⟨gr, 0, none⟩) l.length c).ownBlock) (.slice (some ⟨gr, 0, none⟩) l.length c) dk) ∧ Aside0 (Below base w wr) ∧ Aside0 (gr < wr.heap.size) ∧ Aside0 (base ≤ wr.heap.size))
    case atStart => exact ⟨n, n + 1, l, rfl, by go_num, by omega, KS, HT, HBW, GL, ⟨Nat.le_trans hbase HB2.out.size⟩⟩
    case round =>
      obtain ⟨i, j, dk, rfl, rfl, hg, KI, HD, BW, GB, BS⟩ := hrel
      by_cases hlt : j < l.length
      · have hltz : (j : Int) < (l.length : Int) := by omega
        have hilt : i < l.length := by have := KI.out.lt; omega
        obtain ⟨cs, hcl, hM, hcell, hfroz⟩ := Kd.R_elem HD.out z35 (j : Int) (by omega) hltz
        obtain ⟨cs2, hcl2, hM2, hcell2, hfroz2⟩ := Kd.R_elem HD.out z35 (i : Int) (by omega) (by omega)
        obtain rfl := k35_openM hM
        obtain rfl := k35_openM hM2
        simp only [Int.toNat_natCast] at hcell hfroz hcell2 hfroz2
        generalize hy : dk.getD j z35 = y at hcell hM
        generalize dk.getD i z35 = u at hcell2
        have EY : Aside0 (l.getD j z35 = y) := ⟨by rw [← hy]; exact (KI.out.at_ z35 hlt).symm⟩
        have C0 := Aside0.mk (show wr.cell? ⟨gr, j * 4, none⟩ = some (.int .i64 y.f0) from hcell 0 _ rfl)
        have C1 := Aside0.mk (show wr.cell? ⟨gr, j * 4 + 1, none⟩ = some (.int .i64 y.f1) from hcell 1 _ rfl)
        have C2 := Aside0.mk (show wr.cell? ⟨gr, j * 4 + 2, none⟩ = some (.int .i64 y.f2) from hcell 2 _ rfl)
        have C3 := Aside0.mk (show wr.cell? ⟨gr, j * 4 + 3, none⟩ = some (.int .i64 y.f3) from hcell 3 _ rfl)
        have c0 := C0.out
        have c1 := C1.out
        have c2 := C2.out
        have c3 := C3.out
        clear hcell hcl hM hcl2 hM2 hcell2 hfroz hfroz2 hy hd1 hneg hwn
        have hlt2 := Aside0.mk hlt
        have hilt2 := hilt
        have eg := EG.out
        cases hq : p y
        all_goals have PQ := Aside0.mk hq
        all_goals clear hq
        all_goals go_wp2_with (first
          | ((with_reducible refine gate_dst (N := 7) rfl ?_); refine box_event ?hg (N := 7) ?hd (cs := #[.int .i64 0, .int .i64 0, .int .i64 0, .int .i64 0]) (t := 35) ?hr ?_; (case hd => rfl); (case hg => rfl); (case hr => first | (go_simp; done) | (go_simp; rfl)); intro gx hgx w3 hbox hb3; have BX := Aside0.mk hbox; have HB3 := Aside0.mk hb3; have GX := Aside0.mk hgx; have s0 := blk_cell' BX.out 0 _ rfl; have s1 := blk_cell' BX.out 1 _ rfl; have s2 := blk_cell' BX.out 2 _ rfl; have s3 := blk_cell' BX.out 3 _ rfl; have f0 := blk_frozen BX.out 0; have f1 := blk_frozen BX.out 1; have f2 := blk_frozen BX.out 2; have f3 := blk_frozen BX.out 3; clear hb3 hbox hgx)
          | (go_at_fn g; obtain ⟨HPC, HX4, HD4⟩ := at_call35 g cb p y HP.out BW.out BS.out HB3.out GX.out BX.out HD.out GB.out; rw [PQ.out] at HPC; refine HPC.mono ?_; rintro e w4 ⟨rfl, hb4⟩; have HB4 := Aside0.mk hb4; have HD5 := Aside0.mk (HD4 _ hb4); have HX5 := Aside0.mk (HX4 _ hb4); clear HPC HX4 HD4 hb4; have t0 := blk_cell' HX5.out 0 _ rfl; have t1 := blk_cell' HX5.out 1 _ rfl; have t2 := blk_cell' HX5.out 2 _ rfl; have t3 := blk_cell' HX5.out 3 _ rfl; obtain ⟨e0, e1, e2, e3, z0, z1, z2, z3⟩ := row_cells35 HD5.out.1 i hilt2))
        · have RP := row_put35 HD5.out.1 i hilt2 y
          have KK := KI.out.keep z35 hlt2.out (by rw [EY.out]; exact PQ.out)
          rw [EY.out] at KK
          have KL := KK.le
          go_roundg (l.length - (j + 1))
          case measure => omega
          case rel => exact ⟨i + 1, j + 1, dk.set i y, by go_num, by go_num, Nat.le_refl _, ⟨KK⟩, ⟨RP.1⟩, ⟨below_grown HD5.out.2.1 RP.2 HD5.out.2.2.1 hgb⟩, ⟨Nat.lt_of_lt_of_le HD5.out.2.2.1 RP.2.size⟩, ⟨Nat.le_trans HD5.out.2.2.2 RP.2.size⟩⟩
        · have KK := KI.out.skip z35 hlt2.out (by rw [EY.out]; exact PQ.out)
          go_roundg (l.length - (j + 1))
          case measure => omega
          case rel => exact ⟨i, j + 1, dk, rfl, by go_num, Nat.le_refl _, ⟨KK⟩, ⟨HD5.out.1⟩, ⟨HD5.out.2.1⟩, ⟨HD5.out.2.2.1⟩, ⟨HD5.out.2.2.2⟩⟩
      · have hltz : ¬ (j : Int) < (l.length : Int) := by omega
        have hd := decide_eq_false hltz
        have hil : i ≤ l.length := by have := KI.out.lt; have := KI.out.le; omega
        have hic : i ≤ c := Nat.le_trans hil HC.out.2.1
        have FIN := Aside0.mk (KI.out.done hlt)
        have zv : ∀ w, (zeroValue 35).run Try.prog w = .ok (.agg #[.int .i64 0, .int .i64 0, .int .i64 0, .int .i64 0]) w := Try.zeroValue35
        have hfin : ∀ w1, Kd.R k35 35 w1 base (fun k => some k = (Value.slice (some ⟨gr, 0, none⟩) l.length c).ownBlock) (.slice (some ⟨gr, 0, none⟩) i c) (dk.take i) → wr.grownBy w1 (some gr) → Kd.R k35 35 w1 base ok (.slice (some ⟨gr, 0, none⟩) i c) (l.filter fun x => !p x) ∧ Below base w w1 := fun w1 hR hgb' => ⟨by
          rw [← FIN.out]
          exact Kd.R_reok rfl hR (fun k hk => by
            have : gr = k := by simpa [Value.ownBlock] using hk
            rw [← this]; exact OKG.out), below_grown BW.out hgb' GB.out hgb⟩
        have HFIN := Aside0.mk hfin
        clear hfin
        by_cases hci : c = i
        · obtain ⟨w1, hrun, hR, hgw⟩ := Kd.R_clear_run k35 (P := Try.prog) base 22 0 35 _ Try.underlying22 zv rfl (by decide) (by decide) HD.out hil (A := some ⟨gr, 0, none⟩) (by rw [if_pos hci]) 0
          have HH := Aside0.mk (HFIN.out w1 hR hgw)
          clear hR hgw zv
          subst hci
          go_wp2
          go_ret
          exact ⟨_, rfl, HH.out⟩
        · obtain ⟨w1, hrun, hR, hgw⟩ := Kd.R_clear_run k35 (P := Try.prog) base 22 0 35 _ Try.underlying22 zv rfl (by decide) (by decide) HD.out hil (A := some ⟨gr, i * 4, none⟩) (by rw [if_neg hci, Option.map_some, add_at, Nat.zero_add]; rfl) (c - i)
          have HH := Aside0.mk (HFIN.out w1 hR hgw)
          clear hR hgw zv
          go_wp2
          go_ret
          exact ⟨_, rfl, HH.out⟩
def exp36 (t : Int) (x : S35) : Bool := decide (x.f3 < t)
set_option maxHeartbeats 2000000 in
theorem exp36.calls (t : Int) (x : S35) (gb : Nat) (W : World) (hb : W.heap[gb]? = some (.cells #[.int .i64 t] 3 (0, 0))) :
    Calls Try.prog 36 #[.agg #[.int .i64 x.f0, .int .i64 x.f1, .int .i64 x.f2, .int .i64 x.f3], .pointer (some ⟨gb, 0, none⟩)] W fun e w' => e = .returned (.bool (exp36 t x)) ∧ Below W.heap.size W w' := by
  have hu35 := Try.underlying35
  have HB0 := Aside0.mk (Below.refl W.heap.size W)
  have BG := Aside0.mk hb
  clear hb
  go_enter Try.func36, Try.ntmps36
  go_wp2_with (first | ((with_reducible refine gate_dst (N := 2) rfl ?_); refine box_event ?hg (N := 2) ?hd (cs := #[.int .i64 x.f0, .int .i64 x.f1, .int .i64 x.f2, .int .i64 x.f3]) (t := 35) ?hr ?_; (case hd => rfl); (case hg => rfl); (case hr => first | (go_simp; done) | (go_simp; rfl)); intro gx hg w1 hbox hb1; have BX := Aside0.mk hbox; have HB1 := Aside0.mk (below_step HB0.out hb1); have x0 : w1.cell? ⟨gx, 3, none⟩ = some (.int .i64 x.f3) := blk_cell' BX.out 3 _ rfl; have g0 : w1.cell? ⟨gb, 0, none⟩ = some (.int .i64 t) := blk_cell' (blk_below BG.out hb1) 0 _ rfl; clear hb1 hbox hg))
  go_ret
  exact ⟨rfl, by repeat (first | exact HB1.out | apply below_drew1 | apply pw_below_drewN)⟩
def down_Expire.f (k : Nat) (l0 : List (S35)) (a1 : Int) : Option (List (S35)) := (down_valid.f k l0).bind fun t => if t = true then (api_Down_35.f l0).bind fun c => some (c.filter fun x => !exp36 a1 x) else some []
theorem down_Expire.mono : ∀ a0 a1 k, LeO (down_Expire.f k a0 a1) (down_Expire.f (k + 1) a0 a1) := by
  intro l0 a1 k r h
  unfold down_Expire.f at h ⊢
  obtain ⟨t, ht, hr⟩ := Option.bind_eq_some_iff.1 h
  rw [down_valid.mono l0 k _ ht]
  exact hr
set_option maxHeartbeats 4000000 in
theorem down_Expire.calls (k : Nat) (A0 : Option Addr) (c0 : Nat) (l0 : List (S35)) (a1 : Int) (r : List (S35)) (w : World) (hr0 : Kd.C k35 w A0 l0.length l0) (hc0 : l0.length ≤ c0) (h : down_Expire.f k l0 a1 = some r) :
    Calls Try.prog 17 #[.slice A0 l0.length c0, .int .i64 a1] w fun e w' => ∃ v0_ : Value, e = .returned (v0_) ∧ Kd.R k35 35 w' w.heap.size (fun _ => True) v0_ r ∧ Below w.heap.size w w' := by
  have HR := Aside0.mk hr0
  have HC := Aside0.mk hc0
  have HB0 := Aside0.mk (Below.refl w.heap.size w)
  have hmf : ∀ (fn : Fn) (first cap : Array Value) (w : World), (Instr.makeFunc fn first cap).run Try.prog w = .ok (.func fn first cap) w := fun _ _ _ _ => rfl
  have eg : ∀ args w, (callFunc 36 args).run Try.prog w = .ok (.enter 36 args) w := enters_of Try.func36 (by kernel_rfl) rfl
  have EG := Aside0.mk eg
  unfold down_Expire.f at h
  obtain ⟨t, ht, hr⟩ := Option.bind_eq_some_iff.1 h
  have HV := Aside0.mk (fun w' (hw : Below w.heap.size w w') => down_valid.calls k A0 c0 l0 t w' (Kd.C_below HR.out hw) HC.out ht)
  clear hr0 hc0 h eg ht
  cases t
  · rw [if_neg (by decide)] at hr
    obtain rfl := Option.some.inj hr
    clear hr
    go_enter Try.func17, Try.ntmps17
    go_wp2_with (first | ((with_reducible refine gate_dst (N := 3) rfl ?_); refine box_event ?hg (N := 3) ?hd (cs := #[.int .i64 a1]) (t := 3) ?hr ?_; (case hd => rfl); (case hg => rfl); (case hr => first | (go_simp; done) | (go_simp; rfl)); intro gx hg w1 hbox hb1; have BX := Aside0.mk hbox; have HB1 := Aside0.mk (below_step HB0.out hb1); clear hb1 hbox hg) | (go_at_call 25; refine (HV.out _ HB1.out).mono ?_; rintro e w2 ⟨rfl, hb2⟩; have HB2 := Aside0.mk (below_step HB1.out hb2); clear hb2))
    go_ret
    exact ⟨_, rfl, Kd.R_nil _ _ _ _ _, HB2.out⟩
  · rw [if_pos rfl] at hr
    obtain ⟨cl, hcl, hr⟩ := Option.bind_eq_some_iff.1 hr
    obtain rfl := Option.some.inj hr
    have HK := Aside0.mk (fun w' (hw : Below w.heap.size w w') => api_Down_35.calls A0 c0 l0 cl w' (Kd.C_below HR.out hw) HC.out hcl)
    clear hr hcl
    go_enter Try.func17, Try.ntmps17
    go_wp2_with (first | ((with_reducible refine gate_dst (N := 3) rfl ?_); refine box_event ?hg (N := 3) ?hd (cs := #[.int .i64 a1]) (t := 3) ?hr ?_; (case hd => rfl); (case hg => rfl); (case hr => first | (go_simp; done) | (go_simp; rfl)); intro gx hg w1 hbox hb1; have BX := Aside0.mk hbox; have HB1 := Aside0.mk (below_step HB0.out hb1); clear hb1 hbox hg) | (go_at_call 25; refine (HV.out _ HB1.out).mono ?_; rintro e w2 ⟨rfl, hb2⟩; have HB2 := Aside0.mk (below_step HB1.out hb2); have BX2 := Aside0.mk (blk_below BX.out hb2); clear hb2) | (go_at_call 35; refine (HK.out _ HB2.out).mono ?_; rintro e w3 ⟨v3, rfl, hr3, hb3⟩; have HB3 := Aside0.mk (below_step HB2.out hb3); have BX3 := Aside0.mk (blk_below BX2.out hb3); have HO3 := Aside0.mk hr3; have HS3 := Aside0.mk hb3.size; clear hb3 hr3) | (go_at_call 34; refine (dlf35 36 #[.pointer (some ⟨gx, 0, none⟩)] (exp36 a1) cl v3 _ (fun _ => True) w3 HO3.out HS3.out EG.out (fun W x hW => exp36.calls a1 x gx W ((hW.block gx (blk_lt BX2.out)).trans BX3.out))).mono ?_; rintro e w4 ⟨v4, rfl, hr4, hb4⟩; have HO4 := Aside0.mk (Kd.R_lower hr4 HB2.out.size); have HB4 := Aside0.mk (HB3.out.trans (⟨hb4.os, hb4.tape, hb4.output, hb4.size, fun k hk => hb4.block k (Nat.lt_of_lt_of_le hk HB2.out.size)⟩)); clear hr4 hb4))
    go_ret
    exact ⟨_, rfl, HO4.out, HB4.out⟩

/-! ### down_Tell: function 19 -/
def down_Tell.l0 : Nat → List (S35) → Int → Int → Option ((List (S35)))
  | 0, _, _, _ => none
  | k + 1, x3, x11, x12 => if x12 < x11 then (if 0 ≤ x12 then (if x12 < (x3.length : Int) then ((some (x3.set (x12 : Int).toNat (⟨(rd_T35 x3 x12).f0, 0, (rd_T35 x3 x12).f2, (rd_T35 x3 x12).f3⟩ : S35) : List (S35))).bind fun y110 => (down_Tell.l0 k (y110.set (x12 : Int).toNat (⟨(rd_T35 y110 x12).f0, (rd_T35 y110 x12).f1, (rd_T35 y110 x12).f2, 0⟩ : S35)) x11 (wrap64 (x12 + 1)))) else (none)) else (none)) else (some x3)
def down_Tell.f (k : Nat) (l0 : List (S35)) : Option ((List (S35))) := (down_valid.f k l0).bind fun t106 => (if t106 = true then ((api_Down_35.f l0).bind fun t107 => (down_Tell.l0 k t107 (t107.length : Int) 0)) else (some ([] : List (S35))))
theorem down_Tell.mono_l : ∀ k, (∀ y0 y1 y2, LeO (down_Tell.l0 k y0 y1 y2) (down_Tell.l0 (k + 1) y0 y1 y2))
  | 0 => fun _ _ _ r h => by simp [down_Tell.l0] at h
  | k + 1 => by
    have ih0 := down_Tell.mono_l k
    · intro y0 y1 y2
      unfold down_Tell.l0
      repeat' first
      | (with_reducible exact ih0 _ _ _)
      | (with_reducible exact down_valid.mono _ _)
      | (with_reducible exact LeO.refl _)
      | (with_reducible exact LeO.none _)
      | (with_reducible refine LeO.ite ?_ ?_)
      | (with_reducible refine LeO.bind ?_ (fun _ => ?_))
      | exact ih0 _ _ _
      | exact down_valid.mono _ _
      | exact LeO.none _
      | refine LeO.ite ?_ ?_
      | refine LeO.bind ?_ (fun _ => ?_)
theorem down_Tell.mono : ∀ a0 k, LeO (down_Tell.f k a0) (down_Tell.f (k + 1) a0) := by
  intro a0 k
  have ih0 := down_Tell.mono_l k
  unfold down_Tell.f
  repeat' first
      | (with_reducible exact ih0 _ _ _)
      | (with_reducible exact down_valid.mono _ _)
      | (with_reducible exact LeO.refl _)
      | (with_reducible exact LeO.none _)
      | (with_reducible refine LeO.ite ?_ ?_)
      | (with_reducible refine LeO.bind ?_ (fun _ => ?_))
      | exact ih0 _ _ _
      | exact down_valid.mono _ _
      | exact LeO.none _
      | refine LeO.ite ?_ ?_
      | refine LeO.bind ?_ (fun _ => ?_)
set_option maxHeartbeats 8000000 in
set_option maxRecDepth 100000 in
theorem down_Tell.calls (k : Nat) (A0 : Option Addr) (c0 : Nat) (l0 : List (S35)) (r : List (S35)) (w : World) (hr0 : Kd.C k35 w A0 l0.length l0) (hc0 : l0.length ≤ c0) (h : down_Tell.f k l0 = some r) :
    Calls Try.prog 19 #[.slice A0 l0.length c0] w fun e w' => ∃ v0_ : Value, e = .returned (v0_) ∧ Kd.R k35 35 w' w.heap.size (fun _ => True) v0_ r ∧ Below w.heap.size w w' := by
  have HR0 := Aside0.mk hr0
  have HC0 := Aside0.mk hc0
  clear hr0 hc0
  have HB := Aside0.mk (Below.refl w.heap.size w)
  have H : ((down_valid.f k l0).bind fun t106 => (if t106 = true then ((api_Down_35.f l0).bind fun t107 => (down_Tell.l0 k t107 (t107.length : Int) 0)) else (some ([] : List (S35))))) = some r := h
  clear h
  replace H := Option.bind_eq_some_iff.mp H
  obtain ⟨t106, A20, H⟩ := H
  replace H : (if t106 = true then ((api_Down_35.f l0).bind fun t107 => (down_Tell.l0 k t107 (t107.length : Int) 0)) else (some ([] : List (S35)))) = some r := H
  have A2 := Aside0.mk A20
  clear A20
  by_cases c3 : t106 = true
  · subst c3
    have H1 : ((api_Down_35.f l0).bind fun t107 => (down_Tell.l0 k t107 (t107.length : Int) 0)) = some r := by rw [if_pos rfl] at H; exact H
    clear H
    have H := H1
    clear H1
    replace H := Option.bind_eq_some_iff.mp H
    obtain ⟨t107, A40, H⟩ := H
    replace H : (down_Tell.l0 k t107 (t107.length : Int) 0) = some r := H
    have A4 := Aside0.mk A40
    clear A40
    have H' := Aside0.mk H
    clear H
    go_enter Try.func19, Try.ntmps19
    go_wp2_with (first | ((with_reducible refine gate_callee (f := 25) rfl ?_); refine goesL_ (some 6) rfl rfl Try.func25 (by kernel_rfl) rfl #[.slice A0 l0.length c0] rfl (by (try simp only [List.map_toArray, List.map_cons, List.map_nil]); first | done | rfl | (simp only [List.length_drop, List.length_take]; rfl)) ?_; (with_reducible refine (down_valid.calls k _ _ l0 true _ ?side1 ?side2 A2.out).mono ?_); (case side1 => repeat (first | exact HR0.out | (with_reducible refine Kd.C_alloc ?_ _) | (with_reducible refine Kd.C_drewN ?_ _) | (with_reducible refine Kd.C_drew ?_))); (case side2 => exact HC0.out); rintro e w5 ⟨rfl, hb⟩; refine ⟨_, rfl, ?_⟩; have n0_ := Aside0.mk (below_step (by repeat (first | (with_reducible first | exact HB.out | apply below_alloc | apply pw_below_drewN | apply below_drew1) | exact HB.out)) hb); clear HB; have HB := n0_; clear n0_; (try clear hb); (try clear hb2); (try clear hk); (try clear hi)) | ((with_reducible refine gate_callee (f := 35) rfl ?_); refine goesL_ (some 9) rfl rfl Try.func35 (by kernel_rfl) rfl #[.slice A0 l0.length c0] rfl (by (try simp only [List.map_toArray, List.map_cons, List.map_nil]); first | done | rfl | (simp only [List.length_drop, List.length_take]; rfl)) ?_; (with_reducible refine (api_Down_35.calls _ _ l0 t107 _ ?side1 ?side2 A4.out).mono ?_); (case side1 => repeat (first | exact (Kd.C_below HR0.out HB.out) | (with_reducible refine Kd.C_alloc ?_ _) | (with_reducible refine Kd.C_drewN ?_ _) | (with_reducible refine Kd.C_drew ?_))); (case side2 => exact HC0.out); rintro e w6 ⟨v108, rfl, ho0, hb⟩; refine ⟨_, rfl, ?_⟩; have n0_ := Aside0.mk (Kd.R_lower ho0 (below_size (by repeat (first | (with_reducible first | exact HB.out | apply below_alloc | apply pw_below_drewN | apply below_drew1) | exact HB.out)))); have n1_ := Aside0.mk (below_step (by repeat (first | (with_reducible first | exact HB.out | apply below_alloc | apply pw_below_drewN | apply below_drew1) | exact HB.out)) hb); clear HB; have HO109 := n0_; have HB := n1_; clear n0_ n1_; (try clear hb); (try clear hb2); (try clear hk); (try clear hi); (try clear ho0); obtain ⟨Ao7, co7, eo7⟩ := Kd.R_slice HO109.out; subst eo7))
    go_loopg [12] k (fun kq v12 w' => ∃ (x3_1 : List (S35)) (x12_1 : Int), v12 = .int .i64 x12_1 ∧ Aside0 (down_Tell.l0 kq x3_1 (t107.length : Int) x12_1 = some r) ∧ Aside0 (kq ≤ k) ∧ Aside0 (Kd.R k35 35 w' w.heap.size (fun _ => True) (.slice Ao7 t107.length co7) x3_1) ∧ Aside0 (Below w.heap.size w w'))
    case atStart => exact ⟨(t107), (0), (by first | rfl | (simp; done) | (simp [*]; done)), H', ⟨Nat.le_refl _⟩, ⟨by (with_reducible repeat (first | apply Kd.R_alloc | apply Kd.R_drewN | apply Kd.R_drew)); exact HO109.out⟩, ⟨by repeat (first | (with_reducible first | exact HB.out | apply below_alloc | apply pw_below_drewN | apply below_drew1) | exact HB.out)⟩⟩
    case round =>
      clear H'
      try clear c1
      try clear c2
      try clear p2
      try clear c3
      obtain ⟨x3_1, x12_1, rfl, HA, HK1, HO_3, HB⟩ := hrel
      have hl3_1 := (Kd.R_reads' HO_3.out).1
      rw [hl3_1] at HO_3
      (try simp only [hl3_1])
      cases gk with
      | zero => exact absurd HA.out (by simp [down_Tell.l0])
      | succ k1 =>
        have H := HA.out
        clear HA
        simp only [down_Tell.l0] at H
        by_cases c8 : x12_1 < (t107.length : Int)
        · rw [if_pos c8] at H
          have c8b0 : decide (x12_1 < (t107.length : Int)) = true := decide_eq_true c8
          clear c8
          by_cases c9 : 0 ≤ x12_1
          · rw [if_pos c9] at H
            have c9b0 : decide (0 ≤ x12_1) = true := decide_eq_true c9
            clear c9
            by_cases c10 : x12_1 < (x3_1.length : Int)
            · rw [if_pos c10] at H
              have c10b0 : decide (x12_1 < (x3_1.length : Int)) = true := decide_eq_true c10
              clear c10
              obtain ⟨y110, hy110⟩ : ∃ y_ : List (S35), y_ = (x3_1.set (x12_1 : Int).toNat (⟨(rd_T35 x3_1 x12_1).f0, 0, (rd_T35 x3_1 x12_1).f2, (rd_T35 x3_1 x12_1).f3⟩ : S35)) := ⟨_, rfl⟩
              replace H : (down_Tell.l0 k1 (y110.set (x12_1 : Int).toNat (⟨(rd_T35 y110 x12_1).f0, (rd_T35 y110 x12_1).f1, (rd_T35 y110 x12_1).f2, 0⟩ : S35)) (t107.length : Int) (wrap64 (x12_1 + 1))) = some r := by first | (rw [hy110]; with_reducible exact H) | (have H2_ := (Option.bind_some _ _).symm.trans H; rw [hy110]; with_reducible exact H2_) | (have H2_ := (Option.bind_some _ _).symm.trans H; with_reducible exact H2_) | with_reducible exact H | (rw [hy110]; exact H) | exact H
              have Ny110 := Aside0.mk hy110
              clear hy110
              obtain ⟨y111, hy111⟩ : ∃ y_ : List (S35), y_ = (y110.set (x12_1 : Int).toNat (⟨(rd_T35 y110 x12_1).f0, (rd_T35 y110 x12_1).f1, (rd_T35 y110 x12_1).f2, 0⟩ : S35)) := ⟨_, rfl⟩
              replace H : (down_Tell.l0 k1 y111 (t107.length : Int) (wrap64 (x12_1 + 1))) = some r := by first | (rw [hy111]; with_reducible exact H) | (have H2_ := (Option.bind_some _ _).symm.trans H; rw [hy111]; with_reducible exact H2_) | (have H2_ := (Option.bind_some _ _).symm.trans H; with_reducible exact H2_) | with_reducible exact H | (rw [hy111]; exact H) | exact H
              have Ny111 := Aside0.mk hy111
              clear hy111
              have H' := Aside0.mk H
              clear H
              have p11 : 0 ≤ (x12_1 : Int) := of_decide_eq_true (by first | (with_reducible assumption) | assumption)
              have q11 : (x12_1 : Int) < ((x3_1.length : Int) : Int) := of_decide_eq_true (by first | (with_reducible assumption) | assumption)
              obtain ⟨go11, co11, eo11, gb11, gl11, cl11, HG11⟩ := Kd.R_form HO_3.out (by omega)
              (first | cases eo11 | (injection eo11 with ea_ en_ ec_; (first | subst ea_ | (injection ea_ with ea_; subst ea_)); subst ec_; clear en_))
              have GB11 := Aside0.mk gb11
              have GG11 := Aside0.mk HG11
              clear gb11 gl11 HG11
              obtain ⟨ce11, hcl11, hM11, hcc11, hfr11⟩ := Kd.R_elem HO_3.out z35 (x12_1 : Int) p11 q11
              obtain rfl := k35_openM hM11
              have hx11_0 : wr.cell? ⟨go11, (x12_1 : Int).toNat * 4, none⟩ = some (.int .i64 ((rd_T35 x3_1 x12_1).f0)) := hcc11 0 _ rfl
              have hx11_1 : wr.cell? ⟨go11, (x12_1 : Int).toNat * 4 + 1, none⟩ = some (.int .i64 ((rd_T35 x3_1 x12_1).f1)) := hcc11 1 _ rfl
              have hx11_2 : wr.cell? ⟨go11, (x12_1 : Int).toNat * 4 + 2, none⟩ = some (.int .i64 ((rd_T35 x3_1 x12_1).f2)) := hcc11 2 _ rfl
              have hx11_3 : wr.cell? ⟨go11, (x12_1 : Int).toNat * 4 + 3, none⟩ = some (.int .i64 ((rd_T35 x3_1 x12_1).f3)) := hcc11 3 _ rfl
              have hf11_0 : wr.frozen? ⟨go11, (x12_1 : Int).toNat * 4, none⟩ = false := hfr11 0
              have hf11_1 : wr.frozen? ⟨go11, (x12_1 : Int).toNat * 4 + 1, none⟩ = false := hfr11 1
              have hf11_2 : wr.frozen? ⟨go11, (x12_1 : Int).toNat * 4 + 2, none⟩ = false := hfr11 2
              have hf11_3 : wr.frozen? ⟨go11, (x12_1 : Int).toNat * 4 + 3, none⟩ = false := hfr11 3
              clear hcl11 hcc11 hfr11 hM11
              replace p11 := eq_true p11
              replace q11 := eq_true q11
              have HX13 := Aside0.mk (show Kd.R k35 35 wr w.heap.size (fun _ => True) (.slice (some ⟨go11, 0, none⟩) x3_1.length co7) x3_1 from (by (with_reducible repeat (first | apply Kd.R_alloc | apply Kd.R_drewN | apply Kd.R_drew)); exact HO_3.out))
              obtain ⟨ce13, hcl13, hM13, hcc13, hfr13⟩ := Kd.R_elem HX13.out z35 (x12_1 : Int) (of_decide_eq_true (by first | (with_reducible assumption) | assumption)) (by have h_ : (x12_1 : Int) < ((x3_1.length : Int) : Int) := of_decide_eq_true (by first | (with_reducible assumption) | assumption); first | exact h_ | (have e_ := (Kd.R_reads' HO_3.out).1; omega) | simpa using h_)
              obtain rfl := k35_openM hM13
              have HP13 := Kd.R_seg HX13.out (x12_1 : Int) (of_decide_eq_true (by first | (with_reducible assumption) | assumption)) (by have h_ : (x12_1 : Int) < ((x3_1.length : Int) : Int) := of_decide_eq_true (by first | (with_reducible assumption) | assumption); first | exact h_ | (have e_ := (Kd.R_reads' HO_3.out).1; omega) | simpa using h_) (seg := [.int .i64 0]) (j := 1) hcl13 hcc13 (show 2 ≤ 4 from by decide) (x' := (⟨(rd_T35 x3_1 x12_1).f0, 0, (rd_T35 x3_1 x12_1).f2, (rd_T35 x3_1 x12_1).f3⟩ : S35)) (k35_mkM _ _ _ (⟨(rd_T35 x3_1 x12_1).f0, 0, (rd_T35 x3_1 x12_1).f2, (rd_T35 x3_1 x12_1).f3⟩ : S35) ) (fun _ hk => hk)
              have hx13_1 := hcc13 1 _ rfl
              (try simp only [show (k35).sz = 4 from rfl, Nat.mul_one, Nat.add_zero] at hx13_1)
              have hf13_1 := hfr13 1
              (try simp only [show (k35).sz = 4 from rfl, Nat.mul_one, Nat.add_zero] at hf13_1)
              clear hcl13 hcc13 hfr13 hM13
              go_wp2_with (first | ((with_reducible refine gate_store (t := 3) (p := 20) rfl ?_); refine store_event (t := 3) (p := 20) (v := ?vo_w14) (w1 := (wr.setCell ⟨go11, (x12_1 : Int).toNat * 4 + 1, none⟩ (.int .i64 0))) ?hg ?ho ?hn ?hr ?_; (case ho => rfl); (case hg => rfl); (case hn => rfl); (case hr => first | (go_simp; done) | (go_simp; rfl)); intro w14 hw; have hg : wr.grownBy w14 (some go11) := (by rw [hw]; exact HP13.2); have hp_ : Kd.R k35 35 w14 w.heap.size (fun _ => True) (.slice (some ⟨go11, 0, none⟩) x3_1.length co7) y110 := (by rw [hw, Ny110.out]; exact HP13.1); clear HP13; have n0_ := Aside0.mk (hp_); have n1_ := Aside0.mk ((by rw [hw]; exact below_set (HB.out) GB11.out : Below w.heap.size w w14)); clear HO_3; clear HB; have HO_3 := n0_; have HB := n1_; clear n0_ n1_; clear hg hw hp_; have p12 : 0 ≤ (x12_1 : Int) := of_decide_eq_true (by first | (with_reducible assumption) | assumption); have q12 : (x12_1 : Int) < ((x3_1.length : Int) : Int) := of_decide_eq_true (by first | (with_reducible assumption) | assumption); obtain ⟨ce12, hcl12, hM12, hcc12, hfr12⟩ := Kd.R_elem HO_3.out z35 (x12_1 : Int) p12 q12; obtain rfl := k35_openM hM12; have hx12_0 : w14.cell? ⟨go11, (x12_1 : Int).toNat * 4, none⟩ = some (.int .i64 ((rd_T35 y110 x12_1).f0)) := hcc12 0 _ rfl; have hx12_1 : w14.cell? ⟨go11, (x12_1 : Int).toNat * 4 + 1, none⟩ = some (.int .i64 ((rd_T35 y110 x12_1).f1)) := hcc12 1 _ rfl; have hx12_2 : w14.cell? ⟨go11, (x12_1 : Int).toNat * 4 + 2, none⟩ = some (.int .i64 ((rd_T35 y110 x12_1).f2)) := hcc12 2 _ rfl; have hx12_3 : w14.cell? ⟨go11, (x12_1 : Int).toNat * 4 + 3, none⟩ = some (.int .i64 ((rd_T35 y110 x12_1).f3)) := hcc12 3 _ rfl; have hf12_0 : w14.frozen? ⟨go11, (x12_1 : Int).toNat * 4, none⟩ = false := hfr12 0; have hf12_1 : w14.frozen? ⟨go11, (x12_1 : Int).toNat * 4 + 1, none⟩ = false := hfr12 1; have hf12_2 : w14.frozen? ⟨go11, (x12_1 : Int).toNat * 4 + 2, none⟩ = false := hfr12 2; have hf12_3 : w14.frozen? ⟨go11, (x12_1 : Int).toNat * 4 + 3, none⟩ = false := hfr12 3; clear hcl12 hcc12 hfr12 hM12; replace p12 := eq_true p12; replace q12 := eq_true q12; have HX15 := Aside0.mk (show Kd.R k35 35 w14 w.heap.size (fun _ => True) (.slice (some ⟨go11, 0, none⟩) x3_1.length co7) y110 from (by (with_reducible repeat (first | apply Kd.R_alloc | apply Kd.R_drewN | apply Kd.R_drew)); exact HO_3.out)); obtain ⟨ce15, hcl15, hM15, hcc15, hfr15⟩ := Kd.R_elem HX15.out z35 (x12_1 : Int) (of_decide_eq_true (by first | (with_reducible assumption) | assumption)) (by have h_ : (x12_1 : Int) < ((x3_1.length : Int) : Int) := of_decide_eq_true (by first | (with_reducible assumption) | assumption); first | exact h_ | (have e_ := (Kd.R_reads' HO_3.out).1; omega) | simpa using h_); obtain rfl := k35_openM hM15; have HP15 := Kd.R_seg HX15.out (x12_1 : Int) (of_decide_eq_true (by first | (with_reducible assumption) | assumption)) (by have h_ : (x12_1 : Int) < ((x3_1.length : Int) : Int) := of_decide_eq_true (by first | (with_reducible assumption) | assumption); first | exact h_ | (have e_ := (Kd.R_reads' HO_3.out).1; omega) | simpa using h_) (seg := [.int .i64 0]) (j := 3) hcl15 hcc15 (show 4 ≤ 4 from by decide) (x' := (⟨(rd_T35 y110 x12_1).f0, (rd_T35 y110 x12_1).f1, (rd_T35 y110 x12_1).f2, 0⟩ : S35)) (k35_mkM _ _ _ (⟨(rd_T35 y110 x12_1).f0, (rd_T35 y110 x12_1).f1, (rd_T35 y110 x12_1).f2, 0⟩ : S35) ) (fun _ hk => hk); have hx15_3 := hcc15 3 _ rfl; (try simp only [show (k35).sz = 4 from rfl, Nat.mul_one, Nat.add_zero] at hx15_3); have hf15_3 := hfr15 3; (try simp only [show (k35).sz = 4 from rfl, Nat.mul_one, Nat.add_zero] at hf15_3); clear hcl15 hcc15 hfr15 hM15) | ((with_reducible refine gate_store (t := 3) (p := 22) rfl ?_); refine store_event (t := 3) (p := 22) (v := ?vo_w16) (w1 := (w14.setCell ⟨go11, (x12_1 : Int).toNat * 4 + 3, none⟩ (.int .i64 0))) ?hg ?ho ?hn ?hr ?_; (case ho => rfl); (case hg => rfl); (case hn => rfl); (case hr => first | (go_simp; done) | (go_simp; rfl)); intro w16 hw; have hg : w14.grownBy w16 (some go11) := (by rw [hw]; exact HP15.2); have hp_ : Kd.R k35 35 w16 w.heap.size (fun _ => True) (.slice (some ⟨go11, 0, none⟩) x3_1.length co7) y111 := (by rw [hw, Ny111.out]; exact HP15.1); clear HP15; have n0_ := Aside0.mk (hp_); have n1_ := Aside0.mk ((by rw [hw]; exact below_set (HB.out) GB11.out : Below w.heap.size w w16)); clear HO_3; clear HB; have HO_3 := n0_; have HB := n1_; clear n0_ n1_; clear hg hw hp_))
              (try simp only [← hl3_1])
              go_roundg k1
              case measure => have := HK1.out; omega
              case rel => exact ⟨(y111), (wrap64 (x12_1 + 1)), (by first | rfl | (simp; done) | (simp [*]; done)), H', ⟨by have := HK1.out; omega⟩, ⟨by (try simp only [hl3_1]); (with_reducible repeat (first | apply Kd.R_alloc | apply Kd.R_drewN | apply Kd.R_drew)); exact HO_3.out⟩, ⟨by repeat (first | (with_reducible first | exact HB.out | apply below_alloc | apply pw_below_drewN | apply below_drew1) | exact HB.out)⟩⟩
            · rw [if_neg c10] at H
              exact absurd H (by simp)
          · rw [if_neg c9] at H
            exact absurd H (by simp)
        · rw [if_neg c8] at H
          have c8b0 : decide (x12_1 < (t107.length : Int)) = false := decide_eq_false c8
          simp only [hl3_1] at c8b0
          clear c8
          obtain rfl := Option.some.inj H
          go_wp2
          go_ret
          exact ⟨_, by first | rfl | (simp [errW_none, errW_some] <;> rfl) | (simp [*, errW_none, errW_some] <;> rfl), by (with_reducible repeat (first | apply Kd.R_alloc | apply Kd.R_drewN | apply Kd.R_drew)); exact HO_3.out, by repeat (first | (with_reducible first | exact HB.out | apply below_alloc | apply pw_below_drewN | apply below_drew1) | exact HB.out)⟩
  · replace c3 := Bool.eq_false_iff.mpr c3
    subst c3
    have H1 : (some ([] : List (S35))) = some r := by rw [if_neg (show ¬ (false = true) by decide)] at H; exact H
    clear H
    have H := H1
    clear H1
    obtain rfl := Option.some.inj H
    go_enter Try.func19, Try.ntmps19
    go_wp2_with (first | ((with_reducible refine gate_callee (f := 25) rfl ?_); refine goesL_ (some 6) rfl rfl Try.func25 (by kernel_rfl) rfl #[.slice A0 l0.length c0] rfl (by (try simp only [List.map_toArray, List.map_cons, List.map_nil]); first | done | rfl | (simp only [List.length_drop, List.length_take]; rfl)) ?_; (with_reducible refine (down_valid.calls k _ _ l0 false _ ?side1 ?side2 A2.out).mono ?_); (case side1 => repeat (first | exact HR0.out | (with_reducible refine Kd.C_alloc ?_ _) | (with_reducible refine Kd.C_drewN ?_ _) | (with_reducible refine Kd.C_drew ?_))); (case side2 => exact HC0.out); rintro e w17 ⟨rfl, hb⟩; refine ⟨_, rfl, ?_⟩; have n0_ := Aside0.mk (below_step (by repeat (first | (with_reducible first | exact HB.out | apply below_alloc | apply pw_below_drewN | apply below_drew1) | exact HB.out)) hb); clear HB; have HB := n0_; clear n0_; (try clear hb); (try clear hb2); (try clear hk); (try clear hi)))
    go_ret
    exact ⟨_, by first | rfl | (simp [errW_none, errW_some] <;> rfl) | (simp [*, errW_none, errW_some] <;> rfl), by first | exact Kd.R_nil _ _ _ _ _ | exact Kd.N_nil _ _ _ _ _ | exact Kd.V_nil _ _ _ _ _ | exact Kd.Q_nil _ _ _ _ _ | exact Kd.S_nil _ _ _ _ _, by repeat (first | (with_reducible first | exact HB.out | apply below_alloc | apply pw_below_drewN | apply below_drew1) | exact HB.out)⟩

end Go.Proofs.Ythobfempjekhdaa.Px
