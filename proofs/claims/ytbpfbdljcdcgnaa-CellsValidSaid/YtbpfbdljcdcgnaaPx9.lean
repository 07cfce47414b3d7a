/- Walks of functions of this seat, written by a program of this workplace out of the translation. -/
import Derived.Test.YtbpfbdljcdcgnaaPx0
import Derived.Test.YtbpfbdljcdcgnaaPx6
import Derived.Test.YtbpfbdljcdcgnaaPx7
import Derived.Test.YtbpfbdljcdcgnaaPx8
namespace Go.Proofs.Ytbpfbdljcdcgnaa.Px
open Go.RowKit Go.Proofs.YtbpfbdljcdcgnaaW.PrintWords Go.Proofs.YtbpfbdljcdcgnaaW.PrintLast Go.Proofs.YtbpfbdljcdcgnaaW.PrintMore
attribute [local go_sem] max2_int min2_int max_two min_two max_three min_three max_four min_four   -- for this text's walks alone
set_option linter.unusedVariables false
set_option linter.unusedSimpArgs false

/-! ### cells_grant_42: function 42 -/
def snd34 (nodes data : Int) : Int → List S34 → Bool
 | _, [] => true
 | last, x :: t => v34 nodes data x && decide (last < x.f0.f0) && snd34 nodes data x.f0.f0 t
set_option maxHeartbeats 8000000 in
set_option maxRecDepth 100000 in
theorem snd34.calls (A : Option Addr) (c : Nat) (l : List S34) (nodes data : Int) (b : Nat) (ss : List Int) (w : World) (hr : Kd.C k34 w A l.length l) (hdata : data ≤ 60) (hm : CMap w b ss) (hn : ss.length + l.length < 1000000) :
  Calls Try.prog 42 #[.slice A l.length c, .agg #[.int .i64 nodes, .int .i64 data], .map (some b)] w fun e w' => e = .returned (.bool (snd34 nodes data (-1) l)) ∧ (snd34 nodes data (-1) l = true → CMap w' b (ss ++ l.map (fun x => x.f0.f0))) ∧ w.grownBy w' (some b) := by
 have hu1 := Try.underlying73
 have hu2 := Try.underlying30
 have hu3 := Try.underlying28
 have hiv := mthv73
 have hic := mthc73
 have HR := Aside0.mk hr
 have HM0 := Aside0.mk hm
 have HD := Aside0.mk hdata
 have HN := Aside0.mk hn
 have HB := Aside0.mk (Below.refl w.heap.size w)
 have hbig : (l.length : Int) ≤ 9223372036854775807 := by omega
 clear hr hm hdata hn
 go_enter Try.func42, Try.ntmps42
 go_wp2_with (first | ((with_reducible refine gate_dst (N := 4) rfl ?_); refine bE (N := 4) (cs := #[.int .i64 nodes, .int .i64 data]) (t := 28) ?_; intro g4 hg w1 hbox hb; have X1 := Aside0.mk hbox; have HG1 := Aside0.mk ((grown_of hb).but (some b)); have HM1 := Aside0.mk (cmap_kept HM0.out (grown_of hb) (by simp)); clear hb hbox hg))
 go_loopg [7, 12] l.length (fun gg s7 s12 wr => ∃ (kk : Nat) (last : Int), s7 = .int .i64 last ∧ s12 = .int .i64 kk ∧ Aside0 (kk ≤ l.length ∧ l.length - kk ≤ gg) ∧ Aside0 (snd34 nodes data (-1) l = snd34 nodes data last (l.drop kk)) ∧ Aside0 (CMap wr b (ss ++ (l.take kk).map (fun x => x.f0.f0))) ∧ Aside0 (w.grownBy wr (some b)) ∧ Aside0 (wr.heap[g4]? = some (.cells #[.int .i64 nodes, .int .i64 data] 28 (0, 0))))
 case atStart => exact ⟨0, -1, rfl, rfl, ⟨Nat.zero_le _, Nat.le_refl _⟩, ⟨by rw [List.drop_zero]⟩, ⟨by simpa using HM1.out⟩, HG1, X1⟩
 case round =>
  obtain ⟨kk, last, rfl, rfl, HK, HSP, HM, HG, X4⟩ := hrel
  by_cases hlt : kk < l.length
  ·have hltz : (kk : Int) < (l.length : Int) := by omega
   have hd := decide_eq_true hltz
   obtain ⟨ad, hA, h0, h1, h2, h3, h4⟩ := at_T34 HR.out (kk : Int) (by omega) hltz
   subst hA
   replace h0 := cell_grown HM0.out HG.out h0
   replace h1 := cell_grown HM0.out HG.out h1
   replace h2 := cell_grown HM0.out HG.out h2
   replace h3 := cell_grown HM0.out HG.out h3
   replace h4 := cell_grown HM0.out HG.out h4
   simp only [Int.toNat_natCast] at h0 h1 h2 h3 h4
   have HY : Aside0 (l.take (kk + 1) = l.take kk ++ [rd_T34 l kk]) := ⟨by rw [List.take_succ_eq_append_getElem hlt]; unfold rd_T34; rw [Int.toNat_natCast, List.getD_eq_getElem?_getD, List.getElem?_eq_getElem hlt]; rfl⟩
   have HS : Aside0 (snd34 nodes data last (l.drop kk) = (v34 nodes data (rd_T34 l kk) && decide (last < (rd_T34 l kk).f0.f0) && snd34 nodes data (rd_T34 l kk).f0.f0 (l.drop (kk + 1)))) := ⟨by rw [List.drop_eq_getElem_cons hlt]; unfold rd_T34; rw [Int.toNat_natCast, List.getD_eq_getElem?_getD, List.getElem?_eq_getElem hlt]; rfl⟩
   generalize rd_T34 l kk = y at h0 h1 h2 h3 h4 HY HS
   have hfd : ∀ w : World, (Instr.field 30 (.agg #[.int .i64 y.f0.f0, .int .i64 y.f0.f1]) 0).run Try.prog w = .ok (.int .i64 y.f0.f0) w := fun _ => by kernel_rfl
   have hk0 : (0 : Int) ≤ (kk : Int) := by omega
   have HV0 := Aside0.mk (v34_eq nodes data y)
   cases hv : v34 nodes data y
   ·have HV := Aside0.mk (HV0.out.trans (congrArg some hv))
    have HF : Aside0 (snd34 nodes data (-1) l = false) := ⟨by rw [HSP.out, HS.out, hv]; rfl⟩
    clear hv HV0
    go_wp2_with (first
     | ((with_reducible refine gate_dst (N := 9) rfl ?_); refine bE (N := 9) (cs := #[.int .i64 0, .int .i64 0, .int .i64 0, .int .i64 0, .int .i64 0]) (t := 73) ?_; intro gx hg w3 hbox hb; have s0 := blk_cell' hbox 0 _ rfl; have f0 := blk_frozen hbox 0; have s1 := blk_cell' hbox 1 _ rfl; have f1 := blk_frozen hbox 1; have s2 := blk_cell' hbox 2 _ rfl; have f2 := blk_frozen hbox 2; have s3 := blk_cell' hbox 3 _ rfl; have f3 := blk_frozen hbox 3; have s4 := blk_cell' hbox 4 _ rfl; have f4 := blk_frozen hbox 4; have BX := Aside0.mk hbox; have HB3 := Aside0.mk hb; have GX := Aside0.mk (Nat.le_of_eq hg.symm); have hne : g4 ≠ gx := Nat.ne_of_lt (by rw [hg]; exact blk_lt X4.out); have hne2 : gx ≠ g4 := hne.symm; have l0 := blk_cell' (blk_below X4.out hb) 0 _ rfl; have l1 := blk_cell' (blk_below X4.out hb) 1 _ rfl; clear hb hbox hg)
     | (go_at_call 97; obtain ⟨HX4, HB4⟩ := put34 y HB3.out GX.out BX.out; refine (cells_grant_valid.calls y.f0.f0 y.f0.f1 y.f1 y.f2 y.f3 nodes data false _ HV.out).mono ?_; rintro e w5 ⟨rfl, hb5⟩; have HB5 := Aside0.mk (below_step HB4 hb5); have HX5 := Aside0.mk (blk_below HX4 hb5); have t0 := blk_cell' (blk_below HX4 hb5) 0 _ rfl; have t1 := blk_cell' (blk_below HX4 hb5) 1 _ rfl; have t2 := blk_cell' (blk_below HX4 hb5) 2 _ rfl; have t3 := blk_cell' (blk_below HX4 hb5) 3 _ rfl; have t4 := blk_cell' (blk_below HX4 hb5) 4 _ rfl; clear hb5 HX4 HB4))
    go_ret
    exact ⟨by rw [HF.out]; rfl, fun h => absurd (HF.out.symm.trans h) (by decide), grown_below HG.out HB5.out⟩
   have HV := Aside0.mk (HV0.out.trans (congrArg some hv))
   have HVV := Aside0.mk hv
   clear hv HV0
   by_cases hle : y.f0.f0 ≤ last
   ·have hd2 := decide_eq_true hle
    have HF : Aside0 (snd34 nodes data (-1) l = false) := ⟨by rw [HSP.out, HS.out, HVV.out, decide_eq_false (Int.not_lt.2 hle)]; rfl⟩
    clear hle
    go_wp2_with (first
     | ((with_reducible refine gate_dst (N := 9) rfl ?_); refine bE (N := 9) (cs := #[.int .i64 0, .int .i64 0, .int .i64 0, .int .i64 0, .int .i64 0]) (t := 73) ?_; intro gx hg w3 hbox hb; have s0 := blk_cell' hbox 0 _ rfl; have f0 := blk_frozen hbox 0; have s1 := blk_cell' hbox 1 _ rfl; have f1 := blk_frozen hbox 1; have s2 := blk_cell' hbox 2 _ rfl; have f2 := blk_frozen hbox 2; have s3 := blk_cell' hbox 3 _ rfl; have f3 := blk_frozen hbox 3; have s4 := blk_cell' hbox 4 _ rfl; have f4 := blk_frozen hbox 4; have BX := Aside0.mk hbox; have HB3 := Aside0.mk hb; have GX := Aside0.mk (Nat.le_of_eq hg.symm); have hne : g4 ≠ gx := Nat.ne_of_lt (by rw [hg]; exact blk_lt X4.out); have hne2 : gx ≠ g4 := hne.symm; have l0 := blk_cell' (blk_below X4.out hb) 0 _ rfl; have l1 := blk_cell' (blk_below X4.out hb) 1 _ rfl; clear hb hbox hg)
     | (go_at_call 97; obtain ⟨HX4, HB4⟩ := put34 y HB3.out GX.out BX.out; refine (cells_grant_valid.calls y.f0.f0 y.f0.f1 y.f1 y.f2 y.f3 nodes data true _ HV.out).mono ?_; rintro e w5 ⟨rfl, hb5⟩; have HB5 := Aside0.mk (below_step HB4 hb5); have HX5 := Aside0.mk (blk_below HX4 hb5); have t0 := blk_cell' (blk_below HX4 hb5) 0 _ rfl; have t1 := blk_cell' (blk_below HX4 hb5) 1 _ rfl; have t2 := blk_cell' (blk_below HX4 hb5) 2 _ rfl; have t3 := blk_cell' (blk_below HX4 hb5) 3 _ rfl; have t4 := blk_cell' (blk_below HX4 hb5) 4 _ rfl; clear hb5 HX4 HB4)
     | (go_at_call 96; refine (cells_grant_cell.calls y.f0.f0 y.f0.f1 y.f1 y.f2 y.f3 y.f0.f0 y.f0.f1 _ rfl).mono ?_; rintro e w6 ⟨rfl, hb6⟩; have HB6 := Aside0.mk (below_step HB5.out hb6); have q0 := blk_cell' (blk_below HX5.out hb6) 0 _ rfl; have q1 := blk_cell' (blk_below HX5.out hb6) 1 _ rfl; have q2 := blk_cell' (blk_below HX5.out hb6) 2 _ rfl; have q3 := blk_cell' (blk_below HX5.out hb6) 3 _ rfl; have q4 := blk_cell' (blk_below HX5.out hb6) 4 _ rfl; clear hb6))
    go_ret
    exact ⟨by rw [HF.out]; rfl, fun h => absurd (HF.out.symm.trans h) (by decide), grown_below HG.out HB6.out⟩
   have hd2 := decide_eq_false hle
   have HSP2 : Aside0 (snd34 nodes data (-1) l = snd34 nodes data y.f0.f0 (l.drop (kk + 1))) := ⟨by rw [HSP.out, HS.out, HVV.out, decide_eq_true (Int.not_le.1 hle)]; rfl⟩
   have hsl := v34_slot HVV.out
   have WFK : Aside0 ((Lit.int .i64 y.f0.f0).wf = true) := ⟨WalkArith.wf_i64 (by have := HD.out; omega)⟩
   obtain ⟨D, how, hcn⟩ := HM.out
   have HOW := Aside0.mk how
   have HCN := Aside0.mk hcn
   have LN : Aside0 ((ss ++ (l.take kk).map (fun x => x.f0.f0)).length < 1000000) := ⟨by have := HN.out; have := HK.out; simp only [List.length_append, List.length_map, List.length_take]; omega⟩
   have LNM : Aside0 ((ss ++ (l.take kk).map (fun x => x.f0.f0)).length < maxLen) := ⟨by have := LN.out; unfold maxLen; omega⟩
   clear hle hsl how hcn
   go_wp2_with (first
    | ((with_reducible refine gate_dst (N := 9) rfl ?_); refine bE (N := 9) (cs := #[.int .i64 0, .int .i64 0, .int .i64 0, .int .i64 0, .int .i64 0]) (t := 73) ?_; intro gx hg w3 hbox hb; have s0 := blk_cell' hbox 0 _ rfl; have f0 := blk_frozen hbox 0; have s1 := blk_cell' hbox 1 _ rfl; have f1 := blk_frozen hbox 1; have s2 := blk_cell' hbox 2 _ rfl; have f2 := blk_frozen hbox 2; have s3 := blk_cell' hbox 3 _ rfl; have f3 := blk_frozen hbox 3; have s4 := blk_cell' hbox 4 _ rfl; have f4 := blk_frozen hbox 4; have BX := Aside0.mk hbox; have HB3 := Aside0.mk hb; have GX := Aside0.mk (Nat.le_of_eq hg.symm); have hne : g4 ≠ gx := Nat.ne_of_lt (by rw [hg]; exact blk_lt X4.out); have hne2 : gx ≠ g4 := hne.symm; have l0 := blk_cell' (blk_below X4.out hb) 0 _ rfl; have l1 := blk_cell' (blk_below X4.out hb) 1 _ rfl; clear hb hbox hg)
    | (go_at_call 97; obtain ⟨HX4, HB4⟩ := put34 y HB3.out GX.out BX.out; refine (cells_grant_valid.calls y.f0.f0 y.f0.f1 y.f1 y.f2 y.f3 nodes data true _ HV.out).mono ?_; rintro e w5 ⟨rfl, hb5⟩; have HB5 := Aside0.mk (below_step HB4 hb5); have HX5 := Aside0.mk (blk_below HX4 hb5); have t0 := blk_cell' (blk_below HX4 hb5) 0 _ rfl; have t1 := blk_cell' (blk_below HX4 hb5) 1 _ rfl; have t2 := blk_cell' (blk_below HX4 hb5) 2 _ rfl; have t3 := blk_cell' (blk_below HX4 hb5) 3 _ rfl; have t4 := blk_cell' (blk_below HX4 hb5) 4 _ rfl; clear hb5 HX4 HB4)
    | (go_at_call 96; refine (cells_grant_cell.calls y.f0.f0 y.f0.f1 y.f1 y.f2 y.f3 y.f0.f0 y.f0.f1 _ rfl).mono ?_; rintro e w7 ⟨rfl, hb7⟩; have HB7 := Aside0.mk (below_step HB6.out hb7); have HOW7 := Aside0.mk (HOW.out.kept (grown_of HB7.out) (by simp)); clear hb7)
    | (go_at_call 96; refine (cells_grant_cell.calls y.f0.f0 y.f0.f1 y.f1 y.f2 y.f3 y.f0.f0 y.f0.f1 _ rfl).mono ?_; rintro e w6 ⟨rfl, hb6⟩; have HB6 := Aside0.mk (below_step HB5.out hb6); have q0 := blk_cell' (blk_below HX5.out hb6) 0 _ rfl; have q1 := blk_cell' (blk_below HX5.out hb6) 1 _ rfl; have q2 := blk_cell' (blk_below HX5.out hb6) 2 _ rfl; have q3 := blk_cell' (blk_below HX5.out hb6) 3 _ rfl; have q4 := blk_cell' (blk_below HX5.out hb6) 4 _ rfl; clear hb6)
    | (at_lookup; refine wpList_lookup_own_int _ rfl _ _ 78 rfl 3 3 .i64 law3 Try.underlying78 Try.underlying3 (zero3 _) b _ D rfl HOW7.out _ _ rfl (Maps.keyOf_int_mk Try.underlying3 WFK.out) ?_; intro cv hat hwc; have HAT := Aside0.mk hat; clear hat hwc)
    | (at_mapUpdate; refine wpList_mapUpdate_own _ rfl _ _ _ 78 rfl 3 3 law3 Try.underlying78 _ b _ D rfl HOW7.out LNM.out _ _ _ rfl rfl (Maps.keyOf_int_mk Try.underlying3 WFK.out) _ [] (plainElem_int Try.underlying3 (wrap64_wf _)) ?_; intro w8 hown8 hgrow8; have HOW8 := Aside0.mk hown8; have HG8 := Aside0.mk (World.grownBy.trans (grown_below HG.out HB7.out) hgrow8); have HM7 := Aside0.mk (cmap_kept HM.out (grown_of HB7.out) (by simp)); have X8 := Aside0.mk (blk_grown' (blk_below X4.out HB7.out) hgrow8 (cmap_ne HM7.out (blk_below X4.out HB7.out))); clear hown8 hgrow8))
   go_roundg (l.length - (kk + 1))
   case measure => have := HK.out; omega
   case rel => exact ⟨kk + 1, y.f0.f0, rfl, by go_num, ⟨by have := HK.out; omega, by omega⟩, HSP2, ⟨by
    have h1 := cnt_step HCN.out y.f0.f0 cv LN.out HAT.out
    have e1 : ss ++ (l.take (kk + 1)).map (fun x => x.f0.f0) = ss ++ (l.take kk).map (fun x => x.f0.f0) ++ [y.f0.f0] := by rw [HY.out, List.map_append, List.append_assoc]; rfl
    rw [e1]
    refine ⟨_, ?_, h1⟩
    have h2 := HOW8.out
    rwa [show (ss ++ (l.take kk).map (fun x => x.f0.f0) ++ [y.f0.f0]).length = (ss ++ (l.take kk).map (fun x => x.f0.f0)).length + 1 by rw [List.length_append]; rfl]⟩, HG8, X8⟩
  have hd : decide ((kk : Int) < (l.length : Int)) = false := decide_eq_false (by omega)
  have HT : Aside0 (snd34 nodes data (-1) l = true) := ⟨by rw [HSP.out, List.drop_of_length_le (by omega)]; rfl⟩
  have HT2 : Aside0 (l.take kk = l) := ⟨by rw [List.take_of_length_le (by omega)]⟩
  go_wp2
  go_ret
  exact ⟨by rw [HT.out]; rfl, fun _ => by have h1 := HM.out; rwa [HT2.out] at h1, HG.out⟩

-- NOT PRINTED: function 43 (cells_grant_43)

/-! ### cells_ask_44: function 44 -/
def snd51 (nodes data : Int) : Int → List S51 → Bool
 | _, [] => true
 | last, x :: t => v51 nodes data x && decide (last < x.f0.f0) && snd51 nodes data x.f0.f0 t
set_option maxHeartbeats 8000000 in
set_option maxRecDepth 100000 in
theorem snd51.calls (A : Option Addr) (c : Nat) (l : List S51) (nodes data : Int) (b : Nat) (ss : List Int) (w : World) (hr : Kd.C k51 w A l.length l) (hdata : data ≤ 60) (hm : CMap w b ss) (hn : ss.length + l.length < 1000000) :
  Calls Try.prog 44 #[.slice A l.length c, .agg #[.int .i64 nodes, .int .i64 data], .map (some b)] w fun e w' => e = .returned (.bool (snd51 nodes data (-1) l)) ∧ (snd51 nodes data (-1) l = true → CMap w' b (ss ++ l.map (fun x => x.f0.f0))) ∧ w.grownBy w' (some b) := by
 have hu1 := Try.underlying86
 have hu2 := Try.underlying30
 have hu3 := Try.underlying28
 have hiv := mthv86
 have hic := mthc86
 have HR := Aside0.mk hr
 have HM0 := Aside0.mk hm
 have HD := Aside0.mk hdata
 have HN := Aside0.mk hn
 have HB := Aside0.mk (Below.refl w.heap.size w)
 have hbig : (l.length : Int) ≤ 9223372036854775807 := by omega
 clear hr hm hdata hn
 go_enter Try.func44, Try.ntmps44
 go_wp2_with (first | ((with_reducible refine gate_dst (N := 4) rfl ?_); refine bE (N := 4) (cs := #[.int .i64 nodes, .int .i64 data]) (t := 28) ?_; intro g4 hg w1 hbox hb; have X1 := Aside0.mk hbox; have HG1 := Aside0.mk ((grown_of hb).but (some b)); have HM1 := Aside0.mk (cmap_kept HM0.out (grown_of hb) (by simp)); clear hb hbox hg))
 go_loopg [7, 12] l.length (fun gg s7 s12 wr => ∃ (kk : Nat) (last : Int), s7 = .int .i64 last ∧ s12 = .int .i64 kk ∧ Aside0 (kk ≤ l.length ∧ l.length - kk ≤ gg) ∧ Aside0 (snd51 nodes data (-1) l = snd51 nodes data last (l.drop kk)) ∧ Aside0 (CMap wr b (ss ++ (l.take kk).map (fun x => x.f0.f0))) ∧ Aside0 (w.grownBy wr (some b)) ∧ Aside0 (wr.heap[g4]? = some (.cells #[.int .i64 nodes, .int .i64 data] 28 (0, 0))))
 case atStart => exact ⟨0, -1, rfl, rfl, ⟨Nat.zero_le _, Nat.le_refl _⟩, ⟨by rw [List.drop_zero]⟩, ⟨by simpa using HM1.out⟩, HG1, X1⟩
 case round =>
  obtain ⟨kk, last, rfl, rfl, HK, HSP, HM, HG, X4⟩ := hrel
  by_cases hlt : kk < l.length
  ·have hltz : (kk : Int) < (l.length : Int) := by omega
   have hd := decide_eq_true hltz
   obtain ⟨ad, hA, h0, h1, h2⟩ := at_T51 HR.out (kk : Int) (by omega) hltz
   subst hA
   replace h0 := cell_grown HM0.out HG.out h0
   replace h1 := cell_grown HM0.out HG.out h1
   replace h2 := cell_grown HM0.out HG.out h2
   simp only [Int.toNat_natCast] at h0 h1 h2
   have HY : Aside0 (l.take (kk + 1) = l.take kk ++ [rd_T51 l kk]) := ⟨by rw [List.take_succ_eq_append_getElem hlt]; unfold rd_T51; rw [Int.toNat_natCast, List.getD_eq_getElem?_getD, List.getElem?_eq_getElem hlt]; rfl⟩
   have HS : Aside0 (snd51 nodes data last (l.drop kk) = (v51 nodes data (rd_T51 l kk) && decide (last < (rd_T51 l kk).f0.f0) && snd51 nodes data (rd_T51 l kk).f0.f0 (l.drop (kk + 1)))) := ⟨by rw [List.drop_eq_getElem_cons hlt]; unfold rd_T51; rw [Int.toNat_natCast, List.getD_eq_getElem?_getD, List.getElem?_eq_getElem hlt]; rfl⟩
   generalize rd_T51 l kk = y at h0 h1 h2 HY HS
   have hfd : ∀ w : World, (Instr.field 30 (.agg #[.int .i64 y.f0.f0, .int .i64 y.f0.f1]) 0).run Try.prog w = .ok (.int .i64 y.f0.f0) w := fun _ => by kernel_rfl
   have hk0 : (0 : Int) ≤ (kk : Int) := by omega
   have HV0 := Aside0.mk (v51_eq nodes data y)
   cases hv : v51 nodes data y
   ·have HV := Aside0.mk (HV0.out.trans (congrArg some hv))
    have HF : Aside0 (snd51 nodes data (-1) l = false) := ⟨by rw [HSP.out, HS.out, hv]; rfl⟩
    clear hv HV0
    go_wp2_with (first
     | ((with_reducible refine gate_dst (N := 9) rfl ?_); refine bE (N := 9) (cs := #[.int .i64 0, .int .i64 0, .int .i64 0]) (t := 86) ?_; intro gx hg w3 hbox hb; have s0 := blk_cell' hbox 0 _ rfl; have f0 := blk_frozen hbox 0; have s1 := blk_cell' hbox 1 _ rfl; have f1 := blk_frozen hbox 1; have s2 := blk_cell' hbox 2 _ rfl; have f2 := blk_frozen hbox 2; have BX := Aside0.mk hbox; have HB3 := Aside0.mk hb; have GX := Aside0.mk (Nat.le_of_eq hg.symm); have hne : g4 ≠ gx := Nat.ne_of_lt (by rw [hg]; exact blk_lt X4.out); have hne2 : gx ≠ g4 := hne.symm; have l0 := blk_cell' (blk_below X4.out hb) 0 _ rfl; have l1 := blk_cell' (blk_below X4.out hb) 1 _ rfl; clear hb hbox hg)
     | (go_at_call 99; obtain ⟨HX4, HB4⟩ := put51 y HB3.out GX.out BX.out; refine (cells_ask_valid.calls y.f0.f0 y.f0.f1 y.f1 nodes data false _ HV.out).mono ?_; rintro e w5 ⟨rfl, hb5⟩; have HB5 := Aside0.mk (below_step HB4 hb5); have HX5 := Aside0.mk (blk_below HX4 hb5); have t0 := blk_cell' (blk_below HX4 hb5) 0 _ rfl; have t1 := blk_cell' (blk_below HX4 hb5) 1 _ rfl; have t2 := blk_cell' (blk_below HX4 hb5) 2 _ rfl; clear hb5 HX4 HB4))
    go_ret
    exact ⟨by rw [HF.out]; rfl, fun h => absurd (HF.out.symm.trans h) (by decide), grown_below HG.out HB5.out⟩
   have HV := Aside0.mk (HV0.out.trans (congrArg some hv))
   have HVV := Aside0.mk hv
   clear hv HV0
   by_cases hle : y.f0.f0 ≤ last
   ·have hd2 := decide_eq_true hle
    have HF : Aside0 (snd51 nodes data (-1) l = false) := ⟨by rw [HSP.out, HS.out, HVV.out, decide_eq_false (Int.not_lt.2 hle)]; rfl⟩
    clear hle
    go_wp2_with (first
     | ((with_reducible refine gate_dst (N := 9) rfl ?_); refine bE (N := 9) (cs := #[.int .i64 0, .int .i64 0, .int .i64 0]) (t := 86) ?_; intro gx hg w3 hbox hb; have s0 := blk_cell' hbox 0 _ rfl; have f0 := blk_frozen hbox 0; have s1 := blk_cell' hbox 1 _ rfl; have f1 := blk_frozen hbox 1; have s2 := blk_cell' hbox 2 _ rfl; have f2 := blk_frozen hbox 2; have BX := Aside0.mk hbox; have HB3 := Aside0.mk hb; have GX := Aside0.mk (Nat.le_of_eq hg.symm); have hne : g4 ≠ gx := Nat.ne_of_lt (by rw [hg]; exact blk_lt X4.out); have hne2 : gx ≠ g4 := hne.symm; have l0 := blk_cell' (blk_below X4.out hb) 0 _ rfl; have l1 := blk_cell' (blk_below X4.out hb) 1 _ rfl; clear hb hbox hg)
     | (go_at_call 99; obtain ⟨HX4, HB4⟩ := put51 y HB3.out GX.out BX.out; refine (cells_ask_valid.calls y.f0.f0 y.f0.f1 y.f1 nodes data true _ HV.out).mono ?_; rintro e w5 ⟨rfl, hb5⟩; have HB5 := Aside0.mk (below_step HB4 hb5); have HX5 := Aside0.mk (blk_below HX4 hb5); have t0 := blk_cell' (blk_below HX4 hb5) 0 _ rfl; have t1 := blk_cell' (blk_below HX4 hb5) 1 _ rfl; have t2 := blk_cell' (blk_below HX4 hb5) 2 _ rfl; clear hb5 HX4 HB4)
     | (go_at_call 98; refine (cells_ask_cell.calls y.f0.f0 y.f0.f1 y.f1 y.f0.f0 y.f0.f1 _ rfl).mono ?_; rintro e w6 ⟨rfl, hb6⟩; have HB6 := Aside0.mk (below_step HB5.out hb6); have q0 := blk_cell' (blk_below HX5.out hb6) 0 _ rfl; have q1 := blk_cell' (blk_below HX5.out hb6) 1 _ rfl; have q2 := blk_cell' (blk_below HX5.out hb6) 2 _ rfl; clear hb6))
    go_ret
    exact ⟨by rw [HF.out]; rfl, fun h => absurd (HF.out.symm.trans h) (by decide), grown_below HG.out HB6.out⟩
   have hd2 := decide_eq_false hle
   have HSP2 : Aside0 (snd51 nodes data (-1) l = snd51 nodes data y.f0.f0 (l.drop (kk + 1))) := ⟨by rw [HSP.out, HS.out, HVV.out, decide_eq_true (Int.not_le.1 hle)]; rfl⟩
   have hsl := v51_slot HVV.out
   have WFK : Aside0 ((Lit.int .i64 y.f0.f0).wf = true) := ⟨WalkArith.wf_i64 (by have := HD.out; omega)⟩
   obtain ⟨D, how, hcn⟩ := HM.out
   have HOW := Aside0.mk how
   have HCN := Aside0.mk hcn
   have LN : Aside0 ((ss ++ (l.take kk).map (fun x => x.f0.f0)).length < 1000000) := ⟨by have := HN.out; have := HK.out; simp only [List.length_append, List.length_map, List.length_take]; omega⟩
   have LNM : Aside0 ((ss ++ (l.take kk).map (fun x => x.f0.f0)).length < maxLen) := ⟨by have := LN.out; unfold maxLen; omega⟩
   clear hle hsl how hcn
   go_wp2_with (first
    | ((with_reducible refine gate_dst (N := 9) rfl ?_); refine bE (N := 9) (cs := #[.int .i64 0, .int .i64 0, .int .i64 0]) (t := 86) ?_; intro gx hg w3 hbox hb; have s0 := blk_cell' hbox 0 _ rfl; have f0 := blk_frozen hbox 0; have s1 := blk_cell' hbox 1 _ rfl; have f1 := blk_frozen hbox 1; have s2 := blk_cell' hbox 2 _ rfl; have f2 := blk_frozen hbox 2; have BX := Aside0.mk hbox; have HB3 := Aside0.mk hb; have GX := Aside0.mk (Nat.le_of_eq hg.symm); have hne : g4 ≠ gx := Nat.ne_of_lt (by rw [hg]; exact blk_lt X4.out); have hne2 : gx ≠ g4 := hne.symm; have l0 := blk_cell' (blk_below X4.out hb) 0 _ rfl; have l1 := blk_cell' (blk_below X4.out hb) 1 _ rfl; clear hb hbox hg)
    | (go_at_call 99; obtain ⟨HX4, HB4⟩ := put51 y HB3.out GX.out BX.out; refine (cells_ask_valid.calls y.f0.f0 y.f0.f1 y.f1 nodes data true _ HV.out).mono ?_; rintro e w5 ⟨rfl, hb5⟩; have HB5 := Aside0.mk (below_step HB4 hb5); have HX5 := Aside0.mk (blk_below HX4 hb5); have t0 := blk_cell' (blk_below HX4 hb5) 0 _ rfl; have t1 := blk_cell' (blk_below HX4 hb5) 1 _ rfl; have t2 := blk_cell' (blk_below HX4 hb5) 2 _ rfl; clear hb5 HX4 HB4)
    | (go_at_call 98; refine (cells_ask_cell.calls y.f0.f0 y.f0.f1 y.f1 y.f0.f0 y.f0.f1 _ rfl).mono ?_; rintro e w7 ⟨rfl, hb7⟩; have HB7 := Aside0.mk (below_step HB6.out hb7); have HOW7 := Aside0.mk (HOW.out.kept (grown_of HB7.out) (by simp)); clear hb7)
    | (go_at_call 98; refine (cells_ask_cell.calls y.f0.f0 y.f0.f1 y.f1 y.f0.f0 y.f0.f1 _ rfl).mono ?_; rintro e w6 ⟨rfl, hb6⟩; have HB6 := Aside0.mk (below_step HB5.out hb6); have q0 := blk_cell' (blk_below HX5.out hb6) 0 _ rfl; have q1 := blk_cell' (blk_below HX5.out hb6) 1 _ rfl; have q2 := blk_cell' (blk_below HX5.out hb6) 2 _ rfl; clear hb6)
    | (at_lookup; refine wpList_lookup_own_int _ rfl _ _ 78 rfl 3 3 .i64 law3 Try.underlying78 Try.underlying3 (zero3 _) b _ D rfl HOW7.out _ _ rfl (Maps.keyOf_int_mk Try.underlying3 WFK.out) ?_; intro cv hat hwc; have HAT := Aside0.mk hat; clear hat hwc)
    | (at_mapUpdate; refine wpList_mapUpdate_own _ rfl _ _ _ 78 rfl 3 3 law3 Try.underlying78 _ b _ D rfl HOW7.out LNM.out _ _ _ rfl rfl (Maps.keyOf_int_mk Try.underlying3 WFK.out) _ [] (plainElem_int Try.underlying3 (wrap64_wf _)) ?_; intro w8 hown8 hgrow8; have HOW8 := Aside0.mk hown8; have HG8 := Aside0.mk (World.grownBy.trans (grown_below HG.out HB7.out) hgrow8); have HM7 := Aside0.mk (cmap_kept HM.out (grown_of HB7.out) (by simp)); have X8 := Aside0.mk (blk_grown' (blk_below X4.out HB7.out) hgrow8 (cmap_ne HM7.out (blk_below X4.out HB7.out))); clear hown8 hgrow8))
   go_roundg (l.length - (kk + 1))
   case measure => have := HK.out; omega
   case rel => exact ⟨kk + 1, y.f0.f0, rfl, by go_num, ⟨by have := HK.out; omega, by omega⟩, HSP2, ⟨by
    have h1 := cnt_step HCN.out y.f0.f0 cv LN.out HAT.out
    have e1 : ss ++ (l.take (kk + 1)).map (fun x => x.f0.f0) = ss ++ (l.take kk).map (fun x => x.f0.f0) ++ [y.f0.f0] := by rw [HY.out, List.map_append, List.append_assoc]; rfl
    rw [e1]
    refine ⟨_, ?_, h1⟩
    have h2 := HOW8.out
    rwa [show (ss ++ (l.take kk).map (fun x => x.f0.f0) ++ [y.f0.f0]).length = (ss ++ (l.take kk).map (fun x => x.f0.f0)).length + 1 by rw [List.length_append]; rfl]⟩, HG8, X8⟩
  have hd : decide ((kk : Int) < (l.length : Int)) = false := decide_eq_false (by omega)
  have HT : Aside0 (snd51 nodes data (-1) l = true) := ⟨by rw [HSP.out, List.drop_of_length_le (by omega)]; rfl⟩
  have HT2 : Aside0 (l.take kk = l) := ⟨by rw [List.take_of_length_le (by omega)]⟩
  go_wp2
  go_ret
  exact ⟨by rw [HT.out]; rfl, fun _ => by have h1 := HM.out; rwa [HT2.out] at h1, HG.out⟩

-- NOT PRINTED: function 45 (cells_ask_45)

end Go.Proofs.Ytbpfbdljcdcgnaa.Px
