/- Walks of functions of this seat, written by a program of this workplace out of the translation. -/
import Derived.Test.YtbpfbdljcdcgnaaPx0
import Derived.Test.YtbpfbdljcdcgnaaPx6
import Derived.Test.YtbpfbdljcdcgnaaPx7
namespace Go.Proofs.Ytbpfbdljcdcgnaa.Px
open Go.RowKit Go.Proofs.YtbpfbdljcdcgnaaW.PrintWords Go.Proofs.YtbpfbdljcdcgnaaW.PrintLast Go.Proofs.YtbpfbdljcdcgnaaW.PrintMore
attribute [local go_sem] max2_int min2_int max_two min_two max_three min_three max_four min_four   -- for this text's walks alone
set_option linter.unusedVariables false
set_option linter.unusedSimpArgs false

/-! ### cells_use_40: function 40 -/
theorem invc66 (x : Value) (w : World) : (invoke (.fn (.method "slotmesh/cells.cell") #[]) #[.iface 66 x]).run Try.prog w = .ok (.enter 93 #[x]) w := by kernel_rfl
theorem mthc66 (x : Value) (w : World) : (method 237 66 x "slotmesh/cells.cell").run Try.prog w = .ok (93, x) w := by kernel_rfl
theorem mthv66 (x : Value) (w : World) : (method 237 66 x "slotmesh/cells.valid").run Try.prog w = .ok (94, x) w := by kernel_rfl
theorem invc73 (x : Value) (w : World) : (invoke (.fn (.method "slotmesh/cells.cell") #[]) #[.iface 73 x]).run Try.prog w = .ok (.enter 96 #[x]) w := by kernel_rfl
theorem mthc73 (x : Value) (w : World) : (method 237 73 x "slotmesh/cells.cell").run Try.prog w = .ok (96, x) w := by kernel_rfl
theorem mthv73 (x : Value) (w : World) : (method 237 73 x "slotmesh/cells.valid").run Try.prog w = .ok (97, x) w := by kernel_rfl
theorem mthc86 (x : Value) (w : World) : (method 237 86 x "slotmesh/cells.cell").run Try.prog w = .ok (98, x) w := by kernel_rfl
theorem mthv86 (x : Value) (w : World) : (method 237 86 x "slotmesh/cells.valid").run Try.prog w = .ok (99, x) w := by kernel_rfl
theorem info66 : (Try.prog.info? 66).map (fun i => (i.zero, i.size, i.bytes)) = some (some (.agg #[(.int .i64 0), (.int .i64 0), (.int .i64 0), (.int .i64 0)]), 4, 32) := by kernel_rfl
theorem put32 {wr w3 : World} {gx t : Nat} (y : S32) (hb3 : Below wr.heap.size wr w3) (hge : wr.heap.size ≤ gx) (hbx : w3.heap[gx]? = some (.cells #[.int .i64 0, .int .i64 0, .int .i64 0, .int .i64 0] t (0, 0))) :
  let wc := (((w3.setCell ⟨gx, 0, none⟩ (.int .i64 y.f0.f0)).setCell ⟨gx, 1, none⟩ (.int .i64 y.f0.f1)).setCell ⟨gx, 2, none⟩ (.int .i64 y.f1)).setCell ⟨gx, 3, none⟩ (.int .i64 y.f2)
  wc.heap[gx]? = some (.cells #[.int .i64 y.f0.f0, .int .i64 y.f0.f1, .int .i64 y.f1, .int .i64 y.f2] t (0, 0)) ∧ Below wr.heap.size wr wc := by
 intro wc
 have hwc : wc = w3.setCells gx 0 [.int .i64 y.f0.f0, .int .i64 y.f0.f1, .int .i64 y.f1, .int .i64 y.f2] := rfl
 refine ⟨?_, below_set (below_set (below_set (below_set (hb3) hge) hge) hge) hge⟩
 obtain ⟨cur', h3, h4, h5⟩ := setCells_row [.int .i64 y.f0.f0, .int .i64 y.f0.f1, .int .i64 y.f1, .int .i64 y.f2] 0 w3 _ hbx (by simp)
 rw [hwc, h3]
 have : cur' = #[.int .i64 y.f0.f0, .int .i64 y.f0.f1, .int .i64 y.f1, .int .i64 y.f2] := Array.toList_inj.1 (by rw [h5]; rfl)
 rw [this]
theorem info73 : (Try.prog.info? 73).map (fun i => (i.zero, i.size, i.bytes)) = some (some (.agg #[(.int .i64 0), (.int .i64 0), (.int .i64 0), (.int .i64 0), (.int .i64 0)]), 5, 40) := by kernel_rfl
theorem put34 {wr w3 : World} {gx t : Nat} (y : S34) (hb3 : Below wr.heap.size wr w3) (hge : wr.heap.size ≤ gx) (hbx : w3.heap[gx]? = some (.cells #[.int .i64 0, .int .i64 0, .int .i64 0, .int .i64 0, .int .i64 0] t (0, 0))) :
  let wc := ((((w3.setCell ⟨gx, 0, none⟩ (.int .i64 y.f0.f0)).setCell ⟨gx, 1, none⟩ (.int .i64 y.f0.f1)).setCell ⟨gx, 2, none⟩ (.int .i64 y.f1)).setCell ⟨gx, 3, none⟩ (.int .i64 y.f2)).setCell ⟨gx, 4, none⟩ (.int .i64 y.f3)
  wc.heap[gx]? = some (.cells #[.int .i64 y.f0.f0, .int .i64 y.f0.f1, .int .i64 y.f1, .int .i64 y.f2, .int .i64 y.f3] t (0, 0)) ∧ Below wr.heap.size wr wc := by
 intro wc
 have hwc : wc = w3.setCells gx 0 [.int .i64 y.f0.f0, .int .i64 y.f0.f1, .int .i64 y.f1, .int .i64 y.f2, .int .i64 y.f3] := rfl
 refine ⟨?_, below_set (below_set (below_set (below_set (below_set (hb3) hge) hge) hge) hge) hge⟩
 obtain ⟨cur', h3, h4, h5⟩ := setCells_row [.int .i64 y.f0.f0, .int .i64 y.f0.f1, .int .i64 y.f1, .int .i64 y.f2, .int .i64 y.f3] 0 w3 _ hbx (by simp)
 rw [hwc, h3]
 have : cur' = #[.int .i64 y.f0.f0, .int .i64 y.f0.f1, .int .i64 y.f1, .int .i64 y.f2, .int .i64 y.f3] := Array.toList_inj.1 (by rw [h5]; rfl)
 rw [this]
theorem info86 : (Try.prog.info? 86).map (fun i => (i.zero, i.size, i.bytes)) = some (some (.agg #[(.int .i64 0), (.int .i64 0), (.int .i64 0)]), 3, 24) := by kernel_rfl
theorem put51 {wr w3 : World} {gx t : Nat} (y : S51) (hb3 : Below wr.heap.size wr w3) (hge : wr.heap.size ≤ gx) (hbx : w3.heap[gx]? = some (.cells #[.int .i64 0, .int .i64 0, .int .i64 0] t (0, 0))) :
  let wc := ((w3.setCell ⟨gx, 0, none⟩ (.int .i64 y.f0.f0)).setCell ⟨gx, 1, none⟩ (.int .i64 y.f0.f1)).setCell ⟨gx, 2, none⟩ (.int .i64 y.f1)
  wc.heap[gx]? = some (.cells #[.int .i64 y.f0.f0, .int .i64 y.f0.f1, .int .i64 y.f1] t (0, 0)) ∧ Below wr.heap.size wr wc := by
 intro wc
 have hwc : wc = w3.setCells gx 0 [.int .i64 y.f0.f0, .int .i64 y.f0.f1, .int .i64 y.f1] := rfl
 refine ⟨?_, below_set (below_set (below_set (hb3) hge) hge) hge⟩
 obtain ⟨cur', h3, h4, h5⟩ := setCells_row [.int .i64 y.f0.f0, .int .i64 y.f0.f1, .int .i64 y.f1] 0 w3 _ hbx (by simp)
 rw [hwc, h3]
 have : cur' = #[.int .i64 y.f0.f0, .int .i64 y.f0.f1, .int .i64 y.f1] := Array.toList_inj.1 (by rw [h5]; rfl)
 rw [this]
set_option maxHeartbeats 4000000 in
set_option maxRecDepth 100000 in
theorem ent32 (A : Option Addr) (c : Nat) (l : List S32) (w : World) (hr : Kd.C k32 w A l.length l) (hl : l.length < 4398046511104) :
  Calls Try.prog 41 #[.slice A l.length c, .func (.func 31) #[] #[]] w fun e w' => ∃ v, e = .returned v ∧ Kd.R k32 66 w' w.heap.size (fun _ => True) v l ∧ Below w.heap.size w w' := by
 have hu1 := Try.underlying32
 have HR := Aside0.mk hr
 have HB := Aside0.mk (Below.refl w.heap.size w)
 have HL := Aside0.mk hl
 have hbig : (l.length : Int) ≤ 9223372036854775807 := by omega
 clear hr hl
 go_enter Try.func41, Try.ntmps41
 go_wp2
 go_loopg [5, 10] l.length (fun gg s5 s10 wr => ∃ kk : Nat, s10 = .int .i64 kk ∧ Aside0 (kk ≤ l.length ∧ l.length - kk ≤ gg) ∧ Aside0 (Kd.R k32 66 wr w.heap.size (fun _ => True) s5 (l.take kk)) ∧ Aside0 (Below w.heap.size w wr))
 case atStart => exact ⟨0, rfl, ⟨Nat.zero_le _, Nat.le_refl _⟩, ⟨by simpa using Kd.R_nil _ _ _ _ _⟩, HB⟩
 case round =>
  obtain ⟨kk, rfl, HK, HO, BW⟩ := hrel
  by_cases hlt : kk < l.length
  ·have hltz : (kk : Int) < (l.length : Int) := by omega
   have hd := decide_eq_true hltz
   obtain ⟨ad, hA, h0, h1, h2, h3⟩ := at_T32 HR.out (kk : Int) (by omega) hltz
   subst hA
   replace h0 := (BW.out.cell (World.block_lt_of_cell? w _ h0)).trans h0
   replace h1 := (BW.out.cell (World.block_lt_of_cell? w _ h1)).trans h1
   replace h2 := (BW.out.cell (World.block_lt_of_cell? w _ h2)).trans h2
   replace h3 := (BW.out.cell (World.block_lt_of_cell? w _ h3)).trans h3
   simp only [Int.toNat_natCast] at h0 h1 h2 h3
   have HY : Aside0 (l.take (kk + 1) = l.take kk ++ [rd_T32 l kk]) := ⟨by rw [List.take_succ_eq_append_getElem hlt]; unfold rd_T32; rw [Int.toNat_natCast, List.getD_eq_getElem?_getD, List.getElem?_eq_getElem hlt]; rfl⟩
   generalize rd_T32 l kk = y at h0 h1 h2 h3 HY
   have LK : Aside0 ((l.take kk).length < 4398046511104) := ⟨by have := HL.out; have := HK.out; simp only [List.length_take]; omega⟩
   have BS := Aside0.mk BW.out.size
   have hk0 : (0 : Int) ≤ (kk : Int) := by omega
   go_wp2_with (first
    | ((with_reducible refine gate_dst (N := 7) rfl ?_); refine bE (N := 7) (cs := #[.int .i64 0, .int .i64 0, .int .i64 0, .int .i64 0]) (t := 32) ?_; intro gx hg w3 hbox hb; have s0 := blk_cell' hbox 0 _ rfl; have f0 := blk_frozen hbox 0; have s1 := blk_cell' hbox 1 _ rfl; have f1 := blk_frozen hbox 1; have s2 := blk_cell' hbox 2 _ rfl; have f2 := blk_frozen hbox 2; have s3 := blk_cell' hbox 3 _ rfl; have f3 := blk_frozen hbox 3; have BX := Aside0.mk hbox; have HB3 := Aside0.mk hb; have GX := Aside0.mk (Nat.le_of_eq hg.symm); clear hb hbox hg)
    | (go_at_call 31; obtain ⟨HX4, HB4⟩ := put32 y HB3.out GX.out BX.out; refine (cells_toUse.calls y.f0.f0 y.f0.f1 y.f1 y.f2 y.f0.f0 y.f0.f1 y.f1 y.f2 _ rfl).mono ?_; rintro e w5 ⟨rfl, hb5⟩; have HB5 := Aside0.mk (below_step HB4 hb5); have HO5 := Aside0.mk (Kd.R_below HO.out HB5.out); have HW5 := Aside0.mk (below_step BW.out HB5.out); clear hb5 HX4 HB4)
    | ((with_reducible refine gate_builtin (b := .append) (xs := #[.tmp 14, .tmp 18]) rfl ?_); at_builtin; refine Kd.R_append k32 (w0 := w) w.heap.size rfl (.tmp 14) (.tmp 18) 80 66 (.agg #[(.int .i64 0), (.int .i64 0), (.int .i64 0), (.int .i64 0)]) 32 rfl Try.underlying80 info66 rfl (by decide) (by omega) _ (l.take kk) y [.int .i64 y.f0.f0, .int .i64 y.f0.f1, .int .i64 y.f1, .int .i64 y.f2] (fun _ => True) (fun _ => False) rfl rfl ?aP (fun _ hk => hk.elim) ?aF ?aO ?aB ?aS ?aL ?_; (case aP => exact k32_mkM _ _ _ y); (case aB => exact (by repeat (first | exact HW5.out | apply below_alloc | apply pw_below_drewN | apply below_drew1))); (case aF => exact (fun _ _ => trivial)); (case aO => exact (sR HO5)); (case aS => exact (below_size (by repeat (first | exact HW5.out | apply below_alloc | apply pw_below_drewN | apply below_drew1)))); (case aL => have := LK.out; omega); intro v19 w7 ho hb hg hat; rw [← HY.out] at ho; have HO7 := Aside0.mk ho; have HB7 := Aside0.mk hb; clear ho hb hg hat))
   go_roundg (l.length - (kk + 1))
   case measure => have := HK.out; omega
   case rel => exact ⟨kk + 1, by go_num, ⟨by have := HK.out; omega, by omega⟩, HO7, HB7⟩
  have hd : decide ((kk : Int) < (l.length : Int)) = false := decide_eq_false (by omega)
  have HT : Aside0 (l.take kk = l) := ⟨by rw [List.take_of_length_le (by omega)]⟩
  go_wp2
  go_ret
  exact ⟨_, rfl, by rw [← HT.out]; exact HO.out, BW.out⟩
set_option maxHeartbeats 4000000 in
set_option maxRecDepth 100000 in
theorem ent34 (A : Option Addr) (c : Nat) (l : List S34) (w : World) (hr : Kd.C k34 w A l.length l) (hl : l.length < 3518437208883) :
  Calls Try.prog 43 #[.slice A l.length c, .func (.func 38) #[] #[]] w fun e w' => ∃ v, e = .returned v ∧ Kd.R k34 73 w' w.heap.size (fun _ => True) v l ∧ Below w.heap.size w w' := by
 have hu1 := Try.underlying34
 have HR := Aside0.mk hr
 have HB := Aside0.mk (Below.refl w.heap.size w)
 have HL := Aside0.mk hl
 have hbig : (l.length : Int) ≤ 9223372036854775807 := by omega
 clear hr hl
 go_enter Try.func43, Try.ntmps43
 go_wp2
 go_loopg [5, 10] l.length (fun gg s5 s10 wr => ∃ kk : Nat, s10 = .int .i64 kk ∧ Aside0 (kk ≤ l.length ∧ l.length - kk ≤ gg) ∧ Aside0 (Kd.R k34 73 wr w.heap.size (fun _ => True) s5 (l.take kk)) ∧ Aside0 (Below w.heap.size w wr))
 case atStart => exact ⟨0, rfl, ⟨Nat.zero_le _, Nat.le_refl _⟩, ⟨by simpa using Kd.R_nil _ _ _ _ _⟩, HB⟩
 case round =>
  obtain ⟨kk, rfl, HK, HO, BW⟩ := hrel
  by_cases hlt : kk < l.length
  ·have hltz : (kk : Int) < (l.length : Int) := by omega
   have hd := decide_eq_true hltz
   obtain ⟨ad, hA, h0, h1, h2, h3, h4⟩ := at_T34 HR.out (kk : Int) (by omega) hltz
   subst hA
   replace h0 := (BW.out.cell (World.block_lt_of_cell? w _ h0)).trans h0
   replace h1 := (BW.out.cell (World.block_lt_of_cell? w _ h1)).trans h1
   replace h2 := (BW.out.cell (World.block_lt_of_cell? w _ h2)).trans h2
   replace h3 := (BW.out.cell (World.block_lt_of_cell? w _ h3)).trans h3
   replace h4 := (BW.out.cell (World.block_lt_of_cell? w _ h4)).trans h4
   simp only [Int.toNat_natCast] at h0 h1 h2 h3 h4
   have HY : Aside0 (l.take (kk + 1) = l.take kk ++ [rd_T34 l kk]) := ⟨by rw [List.take_succ_eq_append_getElem hlt]; unfold rd_T34; rw [Int.toNat_natCast, List.getD_eq_getElem?_getD, List.getElem?_eq_getElem hlt]; rfl⟩
   generalize rd_T34 l kk = y at h0 h1 h2 h3 h4 HY
   have LK : Aside0 ((l.take kk).length < 3518437208883) := ⟨by have := HL.out; have := HK.out; simp only [List.length_take]; omega⟩
   have BS := Aside0.mk BW.out.size
   have hk0 : (0 : Int) ≤ (kk : Int) := by omega
   go_wp2_with (first
    | ((with_reducible refine gate_dst (N := 7) rfl ?_); refine bE (N := 7) (cs := #[.int .i64 0, .int .i64 0, .int .i64 0, .int .i64 0, .int .i64 0]) (t := 34) ?_; intro gx hg w3 hbox hb; have s0 := blk_cell' hbox 0 _ rfl; have f0 := blk_frozen hbox 0; have s1 := blk_cell' hbox 1 _ rfl; have f1 := blk_frozen hbox 1; have s2 := blk_cell' hbox 2 _ rfl; have f2 := blk_frozen hbox 2; have s3 := blk_cell' hbox 3 _ rfl; have f3 := blk_frozen hbox 3; have s4 := blk_cell' hbox 4 _ rfl; have f4 := blk_frozen hbox 4; have BX := Aside0.mk hbox; have HB3 := Aside0.mk hb; have GX := Aside0.mk (Nat.le_of_eq hg.symm); clear hb hbox hg)
    | (go_at_call 38; obtain ⟨HX4, HB4⟩ := put34 y HB3.out GX.out BX.out; refine (cells_toGrant.calls y.f0.f0 y.f0.f1 y.f1 y.f2 y.f3 y.f0.f0 y.f0.f1 y.f1 y.f2 y.f3 _ rfl).mono ?_; rintro e w5 ⟨rfl, hb5⟩; have HB5 := Aside0.mk (below_step HB4 hb5); have HO5 := Aside0.mk (Kd.R_below HO.out HB5.out); have HW5 := Aside0.mk (below_step BW.out HB5.out); clear hb5 HX4 HB4)
    | ((with_reducible refine gate_builtin (b := .append) (xs := #[.tmp 14, .tmp 18]) rfl ?_); at_builtin; refine Kd.R_append k34 (w0 := w) w.heap.size rfl (.tmp 14) (.tmp 18) 83 73 (.agg #[(.int .i64 0), (.int .i64 0), (.int .i64 0), (.int .i64 0), (.int .i64 0)]) 40 rfl Try.underlying83 info73 rfl (by decide) (by omega) _ (l.take kk) y [.int .i64 y.f0.f0, .int .i64 y.f0.f1, .int .i64 y.f1, .int .i64 y.f2, .int .i64 y.f3] (fun _ => True) (fun _ => False) rfl rfl ?aP (fun _ hk => hk.elim) ?aF ?aO ?aB ?aS ?aL ?_; (case aP => exact k34_mkM _ _ _ y); (case aB => exact (by repeat (first | exact HW5.out | apply below_alloc | apply pw_below_drewN | apply below_drew1))); (case aF => exact (fun _ _ => trivial)); (case aO => exact (sR HO5)); (case aS => exact (below_size (by repeat (first | exact HW5.out | apply below_alloc | apply pw_below_drewN | apply below_drew1)))); (case aL => have := LK.out; omega); intro v19 w7 ho hb hg hat; rw [← HY.out] at ho; have HO7 := Aside0.mk ho; have HB7 := Aside0.mk hb; clear ho hb hg hat))
   go_roundg (l.length - (kk + 1))
   case measure => have := HK.out; omega
   case rel => exact ⟨kk + 1, by go_num, ⟨by have := HK.out; omega, by omega⟩, HO7, HB7⟩
  have hd : decide ((kk : Int) < (l.length : Int)) = false := decide_eq_false (by omega)
  have HT : Aside0 (l.take kk = l) := ⟨by rw [List.take_of_length_le (by omega)]⟩
  go_wp2
  go_ret
  exact ⟨_, rfl, by rw [← HT.out]; exact HO.out, BW.out⟩
set_option maxHeartbeats 4000000 in
set_option maxRecDepth 100000 in
theorem ent51 (A : Option Addr) (c : Nat) (l : List S51) (w : World) (hr : Kd.C k51 w A l.length l) (hl : l.length < 5864062014805) :
  Calls Try.prog 45 #[.slice A l.length c, .func (.func 46) #[] #[]] w fun e w' => ∃ v, e = .returned v ∧ Kd.R k51 86 w' w.heap.size (fun _ => True) v l ∧ Below w.heap.size w w' := by
 have hu1 := Try.underlying51
 have HR := Aside0.mk hr
 have HB := Aside0.mk (Below.refl w.heap.size w)
 have HL := Aside0.mk hl
 have hbig : (l.length : Int) ≤ 9223372036854775807 := by omega
 clear hr hl
 go_enter Try.func45, Try.ntmps45
 go_wp2
 go_loopg [5, 10] l.length (fun gg s5 s10 wr => ∃ kk : Nat, s10 = .int .i64 kk ∧ Aside0 (kk ≤ l.length ∧ l.length - kk ≤ gg) ∧ Aside0 (Kd.R k51 86 wr w.heap.size (fun _ => True) s5 (l.take kk)) ∧ Aside0 (Below w.heap.size w wr))
 case atStart => exact ⟨0, rfl, ⟨Nat.zero_le _, Nat.le_refl _⟩, ⟨by simpa using Kd.R_nil _ _ _ _ _⟩, HB⟩
 case round =>
  obtain ⟨kk, rfl, HK, HO, BW⟩ := hrel
  by_cases hlt : kk < l.length
  ·have hltz : (kk : Int) < (l.length : Int) := by omega
   have hd := decide_eq_true hltz
   obtain ⟨ad, hA, h0, h1, h2⟩ := at_T51 HR.out (kk : Int) (by omega) hltz
   subst hA
   replace h0 := (BW.out.cell (World.block_lt_of_cell? w _ h0)).trans h0
   replace h1 := (BW.out.cell (World.block_lt_of_cell? w _ h1)).trans h1
   replace h2 := (BW.out.cell (World.block_lt_of_cell? w _ h2)).trans h2
   simp only [Int.toNat_natCast] at h0 h1 h2
   have HY : Aside0 (l.take (kk + 1) = l.take kk ++ [rd_T51 l kk]) := ⟨by rw [List.take_succ_eq_append_getElem hlt]; unfold rd_T51; rw [Int.toNat_natCast, List.getD_eq_getElem?_getD, List.getElem?_eq_getElem hlt]; rfl⟩
   generalize rd_T51 l kk = y at h0 h1 h2 HY
   have LK : Aside0 ((l.take kk).length < 5864062014805) := ⟨by have := HL.out; have := HK.out; simp only [List.length_take]; omega⟩
   have BS := Aside0.mk BW.out.size
   have hk0 : (0 : Int) ≤ (kk : Int) := by omega
   go_wp2_with (first
    | ((with_reducible refine gate_dst (N := 7) rfl ?_); refine bE (N := 7) (cs := #[.int .i64 0, .int .i64 0, .int .i64 0]) (t := 51) ?_; intro gx hg w3 hbox hb; have s0 := blk_cell' hbox 0 _ rfl; have f0 := blk_frozen hbox 0; have s1 := blk_cell' hbox 1 _ rfl; have f1 := blk_frozen hbox 1; have s2 := blk_cell' hbox 2 _ rfl; have f2 := blk_frozen hbox 2; have BX := Aside0.mk hbox; have HB3 := Aside0.mk hb; have GX := Aside0.mk (Nat.le_of_eq hg.symm); clear hb hbox hg)
    | (go_at_call 46; obtain ⟨HX4, HB4⟩ := put51 y HB3.out GX.out BX.out; refine (cells_toAsk.calls y.f0.f0 y.f0.f1 y.f1 y.f0.f0 y.f0.f1 y.f1 _ rfl).mono ?_; rintro e w5 ⟨rfl, hb5⟩; have HB5 := Aside0.mk (below_step HB4 hb5); have HO5 := Aside0.mk (Kd.R_below HO.out HB5.out); have HW5 := Aside0.mk (below_step BW.out HB5.out); clear hb5 HX4 HB4)
    | ((with_reducible refine gate_builtin (b := .append) (xs := #[.tmp 14, .tmp 18]) rfl ?_); at_builtin; refine Kd.R_append k51 (w0 := w) w.heap.size rfl (.tmp 14) (.tmp 18) 87 86 (.agg #[(.int .i64 0), (.int .i64 0), (.int .i64 0)]) 24 rfl Try.underlying87 info86 rfl (by decide) (by omega) _ (l.take kk) y [.int .i64 y.f0.f0, .int .i64 y.f0.f1, .int .i64 y.f1] (fun _ => True) (fun _ => False) rfl rfl ?aP (fun _ hk => hk.elim) ?aF ?aO ?aB ?aS ?aL ?_; (case aP => exact k51_mkM _ _ _ y); (case aB => exact (by repeat (first | exact HW5.out | apply below_alloc | apply pw_below_drewN | apply below_drew1))); (case aF => exact (fun _ _ => trivial)); (case aO => exact (sR HO5)); (case aS => exact (below_size (by repeat (first | exact HW5.out | apply below_alloc | apply pw_below_drewN | apply below_drew1)))); (case aL => have := LK.out; omega); intro v19 w7 ho hb hg hat; rw [← HY.out] at ho; have HO7 := Aside0.mk ho; have HB7 := Aside0.mk hb; clear ho hb hg hat))
   go_roundg (l.length - (kk + 1))
   case measure => have := HK.out; omega
   case rel => exact ⟨kk + 1, by go_num, ⟨by have := HK.out; omega, by omega⟩, HO7, HB7⟩
  have hd : decide ((kk : Int) < (l.length : Int)) = false := decide_eq_false (by omega)
  have HT : Aside0 (l.take kk = l) := ⟨by rw [List.take_of_length_le (by omega)]⟩
  go_wp2
  go_ret
  exact ⟨_, rfl, by rw [← HT.out]; exact HO.out, BW.out⟩
open Go.Maps in
theorem law3 : Keyed Try.prog 3 := int_keyed Try.underlying3
theorem zero3 (w : World) : (zeroValue 3).run Try.prog w = .ok (.int .i64 0) w := by kernel_rfl
def Cnt (D : DataW Unit) (ss : List Int) : Prop := Maps.IsMap D ∧ ∀ s : Int, D.atKey (.int .i64 s) (.lit (.int .i64 0)) = .lit (.int .i64 (ss.count s : Nat)) ∧ Maps.has D (.int .i64 s) = ss.contains s
theorem cnt_nil : Cnt (.map []) [] := ⟨Maps.isMap_empty, fun s => ⟨by rfl, by rfl⟩⟩
theorem cnt_step {D : DataW Unit} {ss : List Int} (h : Cnt D ss) (s c : Int) (hl : ss.length < 1000000) (hat : D.atKey (.int .i64 s) (.lit (.int .i64 0)) = .lit (.int .i64 c)) :
  Cnt (D.put (.int .i64 s) (.lit (.int .i64 (wrap64 (c + 1))))) (ss ++ [s]) := by
 have hc : c = (ss.count s : Nat) := by
  have := (h.2 s).1.symm.trans hat
  injection this with h1; injection h1 with _ h2; exact h2.symm
 have hle : ss.count s ≤ ss.length := List.count_le_length
 refine ⟨h.1.put _ _, fun u => ?_⟩
 by_cases hu : u = s
 ·subst hu
  refine ⟨?_, ?_⟩
  ·rw [Maps.atKey_put_same h.1 (show Go.WideAt.IsKeyLit (.int .i64 u) from trivial), hc, show wrap64 (((List.count u ss : Nat) : Int) + 1) = ((List.count u ss + 1 : Nat) : Int) by unfold wrap64; omega]
   simp
  rw [Maps.has_put_same h.1 (show Go.WideAt.IsKeyLit (.int .i64 u) from trivial)]; simp
 have hne : (Lit.int .i64 u) ≠ .int .i64 s := fun e => by injection e with _ e2; exact hu e2
 refine ⟨?_, ?_⟩
 ·rw [Maps.atKey_put_other hne, (h.2 u).1, List.count_append]
  simp [Ne.symm hu, hu]
 rw [Maps.has_put_other hne, (h.2 u).2]; simp [hu, Ne.symm hu]
def CMap (w : World) (b : Nat) (ss : List Int) : Prop := ∃ D : DataW Unit, w.ownsMap Try.prog 3 (plainElem Try.prog 3) b ss.length D ∧ Cnt D ss
theorem cmap_kept {w w' : World} {b : Nat} {ss : List Int} {row : Option Nat} (h : CMap w b ss) (hg : w.grownBy w' row) (hne : some b ≠ row) : CMap w' b ss := by
 obtain ⟨D, h1, h2⟩ := h
 exact ⟨D, h1.kept hg hne, h2⟩
theorem cmap_ne {w : World} {b g : Nat} {ss : List Int} {cs : Array Value} {t : TypeId} {fr : Nat × Nat} (h : CMap w b ss) (hg : w.heap[g]? = some (.cells cs t fr)) : some g ≠ some b := by
 obtain ⟨D, ⟨es, clk, hb, _⟩, _⟩ := h
 intro e
 injection e with e; subst e
 rw [hg] at hb; cases hb
theorem grown_of {w w' : World} (h : Below w.heap.size w w') : w.grownBy w' none := ⟨h.os, h.tape, h.output, h.size, fun k hk _ => h.block k hk⟩
theorem grown_below {a b c : World} {row : Option Nat} (h : a.grownBy b row) (hb : Below b.heap.size b c) : a.grownBy c row := h.trans ((grown_of hb).but _)
theorem cell_grown {w w' : World} {b : Nat} {ss : List Int} (hm : CMap w b ss) (h : w.grownBy w' (some b)) {a : Addr} {v : Value} (hc : w.cell? a = some v) : w'.cell? a = some v := by
 obtain ⟨D, ⟨es, clk, hb, _⟩, _⟩ := hm
 have hlt := World.block_lt_of_cell? w _ hc
 rw [h.cell_far a hlt (fun e => ?_)]
 ·exact hc
 injection e with e
 simp [World.cell?, e, hb] at hc
theorem blk_grown' {w w' : World} {g : Nat} {o : Obj} {row : Option Nat} (h : w.heap[g]? = some o) (hg : w.grownBy w' row) (hne : some g ≠ row) : w'.heap[g]? = some o := (hg.block g (blk_lt h) hne).trans h
def plc (slot off peer nodes data : Int) : Bool := decide (0 ≤ slot) && decide (slot < data) && decide (0 ≤ off) && decide (off < 16) && decide (0 ≤ peer) && decide (peer < nodes)
theorem plc_eq (a b c d e : Int) : cells_placed.f a b c d e = some (plc a b c d e) := by
 unfold cells_placed.f plc
 repeat' split
 all_goals (simp_all <;> omega)
def v32 (nodes data : Int) (x : S32) : Bool := plc x.f0.f0 x.f0.f1 x.f1 nodes data && decide (0 ≤ x.f2) && decide (x.f2 ≤ 1000000000)
def v34 (nodes data : Int) (x : S34) : Bool := plc x.f0.f0 x.f0.f1 x.f1 nodes data && decide (0 ≤ x.f2) && decide (x.f2 ≤ x.f3) && decide (x.f3 ≤ 1000000000)
def v51 (nodes data : Int) (x : S51) : Bool := plc x.f0.f0 x.f0.f1 x.f1 nodes data
theorem v32_eq (nodes data : Int) (x : S32) : cells_use_valid.f x.f0.f0 x.f0.f1 x.f1 x.f2 nodes data = some (v32 nodes data x) := by
 unfold cells_use_valid.f v32
 rw [plc_eq, Option.bind_some]
 cases plc x.f0.f0 x.f0.f1 x.f1 nodes data
 ·rfl
 rw [if_pos rfl]
 repeat' split
 all_goals (simp_all <;> omega)
theorem v34_eq (nodes data : Int) (x : S34) : cells_grant_valid.f x.f0.f0 x.f0.f1 x.f1 x.f2 x.f3 nodes data = some (v34 nodes data x) := by
 unfold cells_grant_valid.f v34
 rw [plc_eq, Option.bind_some]
 cases plc x.f0.f0 x.f0.f1 x.f1 nodes data
 ·rfl
 rw [if_pos rfl]
 repeat' split
 all_goals (simp_all <;> omega)
theorem v51_eq (nodes data : Int) (x : S51) : cells_ask_valid.f x.f0.f0 x.f0.f1 x.f1 nodes data = some (v51 nodes data x) := by
 unfold cells_ask_valid.f v51
 rw [plc_eq]; rfl
theorem v32_slot {nodes data : Int} {x : S32} (h : v32 nodes data x = true) : 0 ≤ x.f0.f0 ∧ x.f0.f0 < data := by
 unfold v32 plc at h; simp at h; omega
theorem v34_slot {nodes data : Int} {x : S34} (h : v34 nodes data x = true) : 0 ≤ x.f0.f0 ∧ x.f0.f0 < data := by
 unfold v34 plc at h; simp at h; omega
theorem v51_slot {nodes data : Int} {x : S51} (h : v51 nodes data x = true) : 0 ≤ x.f0.f0 ∧ x.f0.f0 < data := by
 unfold v51 plc at h; simp at h; omega
def snd32 (nodes data : Int) : Int → List S32 → Bool
 | _, [] => true
 | last, x :: t => v32 nodes data x && decide (last < x.f0.f0) && snd32 nodes data x.f0.f0 t
set_option maxHeartbeats 8000000 in
set_option maxRecDepth 100000 in
theorem snd32.calls (A : Option Addr) (c : Nat) (l : List S32) (nodes data : Int) (b : Nat) (ss : List Int) (w : World) (hr : Kd.C k32 w A l.length l) (hdata : data ≤ 60) (hm : CMap w b ss) (hn : ss.length + l.length < 1000000) :
  Calls Try.prog 40 #[.slice A l.length c, .agg #[.int .i64 nodes, .int .i64 data], .map (some b)] w fun e w' => e = .returned (.bool (snd32 nodes data (-1) l)) ∧ (snd32 nodes data (-1) l = true → CMap w' b (ss ++ l.map (fun x => x.f0.f0))) ∧ w.grownBy w' (some b) := by
 have hu1 := Try.underlying66
 have hu2 := Try.underlying30
 have hu3 := Try.underlying28
 have hiv := mthv66
 have hic := mthc66
 have HR := Aside0.mk hr
 have HM0 := Aside0.mk hm
 have HD := Aside0.mk hdata
 have HN := Aside0.mk hn
 have HB := Aside0.mk (Below.refl w.heap.size w)
 have hbig : (l.length : Int) ≤ 9223372036854775807 := by omega
 clear hr hm hdata hn
 go_enter Try.func40, Try.ntmps40
 go_wp2_with (first | ((with_reducible refine gate_dst (N := 4) rfl ?_); refine bE (N := 4) (cs := #[.int .i64 nodes, .int .i64 data]) (t := 28) ?_; intro g4 hg w1 hbox hb; have X1 := Aside0.mk hbox; have HG1 := Aside0.mk ((grown_of hb).but (some b)); have HM1 := Aside0.mk (cmap_kept HM0.out (grown_of hb) (by simp)); clear hb hbox hg))
 go_loopg [7, 12] l.length (fun gg s7 s12 wr => ∃ (kk : Nat) (last : Int), s7 = .int .i64 last ∧ s12 = .int .i64 kk ∧ Aside0 (kk ≤ l.length ∧ l.length - kk ≤ gg) ∧ Aside0 (snd32 nodes data (-1) l = snd32 nodes data last (l.drop kk)) ∧ Aside0 (CMap wr b (ss ++ (l.take kk).map (fun x => x.f0.f0))) ∧ Aside0 (w.grownBy wr (some b)) ∧ Aside0 (wr.heap[g4]? = some (.cells #[.int .i64 nodes, .int .i64 data] 28 (0, 0))))
 case atStart => exact ⟨0, -1, rfl, rfl, ⟨Nat.zero_le _, Nat.le_refl _⟩, ⟨by rw [List.drop_zero]⟩, ⟨by simpa using HM1.out⟩, HG1, X1⟩
 case round =>
  obtain ⟨kk, last, rfl, rfl, HK, HSP, HM, HG, X4⟩ := hrel
  by_cases hlt : kk < l.length
  ·have hltz : (kk : Int) < (l.length : Int) := by omega
   have hd := decide_eq_true hltz
   obtain ⟨ad, hA, h0, h1, h2, h3⟩ := at_T32 HR.out (kk : Int) (by omega) hltz
   subst hA
   replace h0 := cell_grown HM0.out HG.out h0
   replace h1 := cell_grown HM0.out HG.out h1
   replace h2 := cell_grown HM0.out HG.out h2
   replace h3 := cell_grown HM0.out HG.out h3
   simp only [Int.toNat_natCast] at h0 h1 h2 h3
   have HY : Aside0 (l.take (kk + 1) = l.take kk ++ [rd_T32 l kk]) := ⟨by rw [List.take_succ_eq_append_getElem hlt]; unfold rd_T32; rw [Int.toNat_natCast, List.getD_eq_getElem?_getD, List.getElem?_eq_getElem hlt]; rfl⟩
   have HS : Aside0 (snd32 nodes data last (l.drop kk) = (v32 nodes data (rd_T32 l kk) && decide (last < (rd_T32 l kk).f0.f0) && snd32 nodes data (rd_T32 l kk).f0.f0 (l.drop (kk + 1)))) := ⟨by rw [List.drop_eq_getElem_cons hlt]; unfold rd_T32; rw [Int.toNat_natCast, List.getD_eq_getElem?_getD, List.getElem?_eq_getElem hlt]; rfl⟩
   generalize rd_T32 l kk = y at h0 h1 h2 h3 HY HS
   have hfd : ∀ w : World, (Instr.field 30 (.agg #[.int .i64 y.f0.f0, .int .i64 y.f0.f1]) 0).run Try.prog w = .ok (.int .i64 y.f0.f0) w := fun _ => by kernel_rfl
   have hk0 : (0 : Int) ≤ (kk : Int) := by omega
   have HV0 := Aside0.mk (v32_eq nodes data y)
   cases hv : v32 nodes data y
   ·have HV := Aside0.mk (HV0.out.trans (congrArg some hv))
    have HF : Aside0 (snd32 nodes data (-1) l = false) := ⟨by rw [HSP.out, HS.out, hv]; rfl⟩
    clear hv HV0
    go_wp2_with (first
     | ((with_reducible refine gate_dst (N := 9) rfl ?_); refine bE (N := 9) (cs := #[.int .i64 0, .int .i64 0, .int .i64 0, .int .i64 0]) (t := 66) ?_; intro gx hg w3 hbox hb; have s0 := blk_cell' hbox 0 _ rfl; have f0 := blk_frozen hbox 0; have s1 := blk_cell' hbox 1 _ rfl; have f1 := blk_frozen hbox 1; have s2 := blk_cell' hbox 2 _ rfl; have f2 := blk_frozen hbox 2; have s3 := blk_cell' hbox 3 _ rfl; have f3 := blk_frozen hbox 3; have BX := Aside0.mk hbox; have HB3 := Aside0.mk hb; have GX := Aside0.mk (Nat.le_of_eq hg.symm); have hne : g4 ≠ gx := Nat.ne_of_lt (by rw [hg]; exact blk_lt X4.out); have hne2 : gx ≠ g4 := hne.symm; have l0 := blk_cell' (blk_below X4.out hb) 0 _ rfl; have l1 := blk_cell' (blk_below X4.out hb) 1 _ rfl; clear hb hbox hg)
     | (go_at_call 94; obtain ⟨HX4, HB4⟩ := put32 y HB3.out GX.out BX.out; refine (cells_use_valid.calls y.f0.f0 y.f0.f1 y.f1 y.f2 nodes data false _ HV.out).mono ?_; rintro e w5 ⟨rfl, hb5⟩; have HB5 := Aside0.mk (below_step HB4 hb5); have HX5 := Aside0.mk (blk_below HX4 hb5); have t0 := blk_cell' (blk_below HX4 hb5) 0 _ rfl; have t1 := blk_cell' (blk_below HX4 hb5) 1 _ rfl; have t2 := blk_cell' (blk_below HX4 hb5) 2 _ rfl; have t3 := blk_cell' (blk_below HX4 hb5) 3 _ rfl; clear hb5 HX4 HB4))
    go_ret
    exact ⟨by rw [HF.out]; rfl, fun h => absurd (HF.out.symm.trans h) (by decide), grown_below HG.out HB5.out⟩
   have HV := Aside0.mk (HV0.out.trans (congrArg some hv))
   have HVV := Aside0.mk hv
   clear hv HV0
   by_cases hle : y.f0.f0 ≤ last
   ·have hd2 := decide_eq_true hle
    have HF : Aside0 (snd32 nodes data (-1) l = false) := ⟨by rw [HSP.out, HS.out, HVV.out, decide_eq_false (Int.not_lt.2 hle)]; rfl⟩
    clear hle
    go_wp2_with (first
     | ((with_reducible refine gate_dst (N := 9) rfl ?_); refine bE (N := 9) (cs := #[.int .i64 0, .int .i64 0, .int .i64 0, .int .i64 0]) (t := 66) ?_; intro gx hg w3 hbox hb; have s0 := blk_cell' hbox 0 _ rfl; have f0 := blk_frozen hbox 0; have s1 := blk_cell' hbox 1 _ rfl; have f1 := blk_frozen hbox 1; have s2 := blk_cell' hbox 2 _ rfl; have f2 := blk_frozen hbox 2; have s3 := blk_cell' hbox 3 _ rfl; have f3 := blk_frozen hbox 3; have BX := Aside0.mk hbox; have HB3 := Aside0.mk hb; have GX := Aside0.mk (Nat.le_of_eq hg.symm); have hne : g4 ≠ gx := Nat.ne_of_lt (by rw [hg]; exact blk_lt X4.out); have hne2 : gx ≠ g4 := hne.symm; have l0 := blk_cell' (blk_below X4.out hb) 0 _ rfl; have l1 := blk_cell' (blk_below X4.out hb) 1 _ rfl; clear hb hbox hg)
     | (go_at_call 94; obtain ⟨HX4, HB4⟩ := put32 y HB3.out GX.out BX.out; refine (cells_use_valid.calls y.f0.f0 y.f0.f1 y.f1 y.f2 nodes data true _ HV.out).mono ?_; rintro e w5 ⟨rfl, hb5⟩; have HB5 := Aside0.mk (below_step HB4 hb5); have HX5 := Aside0.mk (blk_below HX4 hb5); have t0 := blk_cell' (blk_below HX4 hb5) 0 _ rfl; have t1 := blk_cell' (blk_below HX4 hb5) 1 _ rfl; have t2 := blk_cell' (blk_below HX4 hb5) 2 _ rfl; have t3 := blk_cell' (blk_below HX4 hb5) 3 _ rfl; clear hb5 HX4 HB4)
     | (go_at_call 93; refine (cells_use_cell.calls y.f0.f0 y.f0.f1 y.f1 y.f2 y.f0.f0 y.f0.f1 _ rfl).mono ?_; rintro e w6 ⟨rfl, hb6⟩; have HB6 := Aside0.mk (below_step HB5.out hb6); have q0 := blk_cell' (blk_below HX5.out hb6) 0 _ rfl; have q1 := blk_cell' (blk_below HX5.out hb6) 1 _ rfl; have q2 := blk_cell' (blk_below HX5.out hb6) 2 _ rfl; have q3 := blk_cell' (blk_below HX5.out hb6) 3 _ rfl; clear hb6))
    go_ret
    exact ⟨by rw [HF.out]; rfl, fun h => absurd (HF.out.symm.trans h) (by decide), grown_below HG.out HB6.out⟩
   have hd2 := decide_eq_false hle
   have HSP2 : Aside0 (snd32 nodes data (-1) l = snd32 nodes data y.f0.f0 (l.drop (kk + 1))) := ⟨by rw [HSP.out, HS.out, HVV.out, decide_eq_true (Int.not_le.1 hle)]; rfl⟩
   have hsl := v32_slot HVV.out
   have WFK : Aside0 ((Lit.int .i64 y.f0.f0).wf = true) := ⟨WalkArith.wf_i64 (by have := HD.out; omega)⟩
   obtain ⟨D, how, hcn⟩ := HM.out
   have HOW := Aside0.mk how
   have HCN := Aside0.mk hcn
   have LN : Aside0 ((ss ++ (l.take kk).map (fun x => x.f0.f0)).length < 1000000) := ⟨by have := HN.out; have := HK.out; simp only [List.length_append, List.length_map, List.length_take]; omega⟩
   have LNM : Aside0 ((ss ++ (l.take kk).map (fun x => x.f0.f0)).length < maxLen) := ⟨by have := LN.out; unfold maxLen; omega⟩
   clear hle hsl how hcn
   go_wp2_with (first
    | ((with_reducible refine gate_dst (N := 9) rfl ?_); refine bE (N := 9) (cs := #[.int .i64 0, .int .i64 0, .int .i64 0, .int .i64 0]) (t := 66) ?_; intro gx hg w3 hbox hb; have s0 := blk_cell' hbox 0 _ rfl; have f0 := blk_frozen hbox 0; have s1 := blk_cell' hbox 1 _ rfl; have f1 := blk_frozen hbox 1; have s2 := blk_cell' hbox 2 _ rfl; have f2 := blk_frozen hbox 2; have s3 := blk_cell' hbox 3 _ rfl; have f3 := blk_frozen hbox 3; have BX := Aside0.mk hbox; have HB3 := Aside0.mk hb; have GX := Aside0.mk (Nat.le_of_eq hg.symm); have hne : g4 ≠ gx := Nat.ne_of_lt (by rw [hg]; exact blk_lt X4.out); have hne2 : gx ≠ g4 := hne.symm; have l0 := blk_cell' (blk_below X4.out hb) 0 _ rfl; have l1 := blk_cell' (blk_below X4.out hb) 1 _ rfl; clear hb hbox hg)
    | (go_at_call 94; obtain ⟨HX4, HB4⟩ := put32 y HB3.out GX.out BX.out; refine (cells_use_valid.calls y.f0.f0 y.f0.f1 y.f1 y.f2 nodes data true _ HV.out).mono ?_; rintro e w5 ⟨rfl, hb5⟩; have HB5 := Aside0.mk (below_step HB4 hb5); have HX5 := Aside0.mk (blk_below HX4 hb5); have t0 := blk_cell' (blk_below HX4 hb5) 0 _ rfl; have t1 := blk_cell' (blk_below HX4 hb5) 1 _ rfl; have t2 := blk_cell' (blk_below HX4 hb5) 2 _ rfl; have t3 := blk_cell' (blk_below HX4 hb5) 3 _ rfl; clear hb5 HX4 HB4)
    | (go_at_call 93; refine (cells_use_cell.calls y.f0.f0 y.f0.f1 y.f1 y.f2 y.f0.f0 y.f0.f1 _ rfl).mono ?_; rintro e w7 ⟨rfl, hb7⟩; have HB7 := Aside0.mk (below_step HB6.out hb7); have HOW7 := Aside0.mk (HOW.out.kept (grown_of HB7.out) (by simp)); clear hb7)
    | (go_at_call 93; refine (cells_use_cell.calls y.f0.f0 y.f0.f1 y.f1 y.f2 y.f0.f0 y.f0.f1 _ rfl).mono ?_; rintro e w6 ⟨rfl, hb6⟩; have HB6 := Aside0.mk (below_step HB5.out hb6); have q0 := blk_cell' (blk_below HX5.out hb6) 0 _ rfl; have q1 := blk_cell' (blk_below HX5.out hb6) 1 _ rfl; have q2 := blk_cell' (blk_below HX5.out hb6) 2 _ rfl; have q3 := blk_cell' (blk_below HX5.out hb6) 3 _ rfl; clear hb6)
    | (at_lookup; refine wpList_lookup_own_int _ rfl _ _ 78 rfl 3 3 .i64 law3 Try.underlying78 Try.underlying3 (zero3 _) b _ D rfl HOW7.out _ _ rfl (Maps.keyOf_int_mk Try.underlying3 WFK.out) ?_; intro cv hat hwc; have HAT := Aside0.mk hat; clear hat hwc)
    | (at_mapUpdate; refine wpList_mapUpdate_own _ rfl _ _ _ 78 rfl 3 3 law3 Try.underlying78 _ b _ D rfl HOW7.out LNM.out _ _ _ rfl rfl (Maps.keyOf_int_mk Try.underlying3 WFK.out) _ [] (plainElem_int Try.underlying3 (wrap64_wf _)) ?_; intro w8 hown8 hgrow8; have HOW8 := Aside0.mk hown8; have HG8 := Aside0.mk (World.grownBy.trans (grown_below HG.out HB7.out) hgrow8); have HM7 := Aside0.mk (cmap_kept HM.out (grown_of HB7.out) (by simp)); have X8 := Aside0.mk (blk_grown' (blk_below X4.out HB7.out) hgrow8 (cmap_ne HM7.out (blk_below X4.out HB7.out))); clear hown8 hgrow8))
   go_roundg (l.length - (kk + 1))
   case measure => have := HK.out; omega
   case rel => exact ⟨kk + 1, y.f0.f0, rfl, by go_num, ⟨by have := HK.out; omega, by omega⟩, HSP2, ⟨by
    have h1 := cnt_step HCN.out y.f0.f0 cv LN.out HAT.out
    have e1 : ss ++ (l.take (kk + 1)).map (fun x => x.f0.f0) = ss ++ (l.take kk).map (fun x => x.f0.f0) ++ [y.f0.f0] := by rw [HY.out, List.map_append, List.append_assoc]; rfl
    rw [e1]
    refine ⟨_, ?_, h1⟩
    have h2 := HOW8.out
    rwa [show (ss ++ (l.take kk).map (fun x => x.f0.f0) ++ [y.f0.f0]).length = (ss ++ (l.take kk).map (fun x => x.f0.f0)).length + 1 by rw [List.length_append]; rfl]⟩, HG8, X8⟩
  have hd : decide ((kk : Int) < (l.length : Int)) = false := decide_eq_false (by omega)
  have HT : Aside0 (snd32 nodes data (-1) l = true) := ⟨by rw [HSP.out, List.drop_of_length_le (by omega)]; rfl⟩
  have HT2 : Aside0 (l.take kk = l) := ⟨by rw [List.take_of_length_le (by omega)]⟩
  go_wp2
  go_ret
  exact ⟨by rw [HT.out]; rfl, fun _ => by have h1 := HM.out; rwa [HT2.out] at h1, HG.out⟩
-- NOT PRINTED: function 41 (cells_use_41)

end Go.Proofs.Ytbpfbdljcdcgnaa.Px
