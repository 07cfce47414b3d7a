/- Walks of functions of this seat, written by a program of this workplace out of the translation. -/
import Derived.Test.YtbpfbdljcdcgnaaPx0
import Derived.Test.YtbpfbdljcdcgnaaPx19
import Derived.Test.YtbpfbdljcdcgnaaPx20
import Derived.Test.YtbpfbdljcdcgnaaPx21
import Derived.Test.YtbpfbdljcdcgnaaPx22
namespace Go.Proofs.Ytbpfbdljcdcgnaa.Px
open Go.RowKit Go.Proofs.YtbpfbdljcdcgnaaW.PrintWords Go.Proofs.YtbpfbdljcdcgnaaW.PrintLast Go.Proofs.YtbpfbdljcdcgnaaW.PrintMore
attribute [local go_sem] max2_int min2_int max_two min_two max_three min_three max_four min_four   -- for this text's walks alone
set_option linter.unusedVariables false
set_option linter.unusedSimpArgs false

/-! ### slotmeshlaw12_CellsTime: function 8 -/
def slotmeshlaw12_CellsTime.l0 : Nat → Int → Int → Bool → List (S34) → Int → Int → List (S32) → List (S34) → List (S51) → List (S32) → List (S34) → List (S51) → List (S32) → List (S34) → List (S51) → Option (Bool)
 | 0, _, _, _, _, _, _, _, _, _, _, _, _, _, _, _ => none
 | k + 1, x1, x2, x7, x28, x29, x30, x641000, x641001, x641002, x653000, x653001, x653002, x654000, x654001, x654002 => if x30 < x29 then (if 0 ≤ x30 then (if x30 < (x28.length : Int) then (if ((rd_T34 x28 x30).f3) ≥ x1 then (if ((rd_T34 x28 x30).f3) ≥ x2 then (if x654001.length < 3518437208883 then (slotmeshlaw12_CellsTime.l0 k x1 x2 x7 x28 x29 (wrap64 (x30 + 1)) x641000 x641001 x641002 x653000 x653001 x653002 x654000 (x654001 ++ [(⟨(⟨(rd_T34 x28 x30).f0.f0, (rd_T34 x28 x30).f0.f1⟩ : S30), (rd_T34 x28 x30).f1, (rd_T34 x28 x30).f2, (rd_T34 x28 x30).f3⟩ : S34)]) x654002) else (none)) else (slotmeshlaw12_CellsTime.l0 k x1 x2 x7 x28 x29 (wrap64 (x30 + 1)) x641000 x641001 x641002 x653000 x653001 x653002 x654000 x654001 x654002)) else (slotmeshlaw12_CellsTime.l0 k x1 x2 x7 x28 x29 (wrap64 (x30 + 1)) x641000 x641001 x641002 x653000 x653001 x653002 x654000 x654001 x654002)) else (none)) else (none)) else (if x7 = true then ((cells_Expire.f x641000 x641001 x641002 x1).bind fun bt659 => ((cells_Expire.f bt659.1 bt659.2.1 bt659.2.2 x2).bind fun bt668 => ((slotmeshref12_Same.f k bt668.1 bt668.2.1 bt668.2.2 x653000 x653001 x653002).bind fun t677 => (if t677 = true then ((slotmeshref12_Same.f k x653000 x653001 x653002 x654000 x654001 x654002).bind fun t678 => (some t678)) else (some false))))) else (some false))
def slotmeshlaw12_CellsTime.f (k : Nat) (l0_0 : List (S32)) (l0_1 : List (S34)) (l0_2 : List (S51)) (a1 : Int) (a2 : Int) : Option (Bool) := (slotmeshlaw12_head.f).bind fun t641 => ((slotmeshref12_Few.f l0_0 l0_1 l0_2).bind fun t642 => (if t642 = true then ((cells_Expire.f l0_0 l0_1 l0_2 (mx a1 a2)).bind fun bt643 => (slotmeshlaw12_CellsTime.l0 k a1 a2 t641 l0_1 (l0_1.length : Int) 0 l0_0 l0_1 l0_2 bt643.1 bt643.2.1 bt643.2.2 l0_0 ([] : List (S34)) l0_2)) else (some t641)))
def slotmeshlaw12_CellsTime.T12 : Bool × List (List Nat × List Nat) := (true, [([], []), ([0], [0]), ([1], [1]), ([1], [1]), ([2, 3, 1, 1], [1, 2, 3]), ([1], [1]), ([4, 5, 4, 1], [1, 4, 5]), ([1], [1]), ([6, 7, 6, 1], [1, 6, 7]), ([1, 8], [1, 8]), ([9, 8], [9]), ([10], [10]), ([10], [10]), ([11, 12, 10, 10], [10, 11, 12]), ([10, 13], [10, 13]), ([14, 13, 0, 1, 2, 3, 4, 5, 6, 7, 8, 9, 10, 11, 12, 13, 14], [14])])
def slotmeshlaw12_CellsTime.B12 : List Nat := [0, 1, 3, 3, 15, 3, 63, 3, 255, 511, 1023, 2047, 2047, 8191, 16383, 32767]
theorem slotmeshlaw12_CellsTime.tab12 : rtab .any (opsOf Try.f8 12) = slotmeshlaw12_CellsTime.T12 := by kernel_rfl
theorem slotmeshlaw12_CellsTime.bits12 : waitsOk slotmeshlaw12_CellsTime.T12.2 slotmeshlaw12_CellsTime.B12 = true := by kernel_rfl
set_option maxHeartbeats 8000000 in
set_option maxRecDepth 100000 in
theorem slotmeshlaw12_CellsTime.calls (k : Nat) (A0_0 : Option Addr) (c0_0 : Nat) (l0_0 : List (S32)) (A0_1 : Option Addr) (c0_1 : Nat) (l0_1 : List (S34)) (A0_2 : Option Addr) (c0_2 : Nat) (l0_2 : List (S51)) (a1 : Int) (a2 : Int) (r : Bool) (w : World) (hrt : r = true) (hr0_0 : Kd.C k32 w A0_0 l0_0.length l0_0) (hc0_0 : l0_0.length ≤ c0_0) (hr0_1 : Kd.C k34 w A0_1 l0_1.length l0_1) (hc0_1 : l0_1.length ≤ c0_1) (hr0_2 : Kd.C k51 w A0_2 l0_2.length l0_2) (hc0_2 : l0_2.length ≤ c0_2) (h : slotmeshlaw12_CellsTime.f k l0_0 l0_1 l0_2 a1 a2 = some r) :
  Calls Try.prog 8 #[.agg #[.slice A0_0 l0_0.length c0_0, .slice A0_1 l0_1.length c0_1, .slice A0_2 l0_2.length c0_2], .int .i64 a1, .int .i64 a2] w fun e w' => e = .returned (.bool r) ∧ Below w.heap.size w w' := by
 have hu26 := Try.underlying26
 have hu34 := Try.underlying34
 have HR0_0 := Aside0.mk hr0_0
 have HC0_0 := Aside0.mk hc0_0
 clear hr0_0 hc0_0
 have HR0_1 := Aside0.mk hr0_1
 have HC0_1 := Aside0.mk hc0_1
 clear hr0_1 hc0_1
 have HR0_2 := Aside0.mk hr0_2
 have HC0_2 := Aside0.mk hc0_2
 clear hr0_2 hc0_2
 have HB := Aside0.mk (Below.refl w.heap.size w)
 have HRT := Aside0.mk hrt
 clear hrt
 have H : ((slotmeshlaw12_head.f).bind fun t641 => ((slotmeshref12_Few.f l0_0 l0_1 l0_2).bind fun t642 => (if t642 = true then ((cells_Expire.f l0_0 l0_1 l0_2 (mx a1 a2)).bind fun bt643 => (slotmeshlaw12_CellsTime.l0 k a1 a2 t641 l0_1 (l0_1.length : Int) 0 l0_0 l0_1 l0_2 bt643.1 bt643.2.1 bt643.2.2 l0_0 ([] : List (S34)) l0_2)) else (some t641)))) = some r := h
 clear h
 replace H := Option.bind_eq_some_iff.mp H
 obtain ⟨t641, A40, H⟩ := H
 replace H : ((slotmeshref12_Few.f l0_0 l0_1 l0_2).bind fun t642 => (if t642 = true then ((cells_Expire.f l0_0 l0_1 l0_2 (mx a1 a2)).bind fun bt643 => (slotmeshlaw12_CellsTime.l0 k a1 a2 t641 l0_1 (l0_1.length : Int) 0 l0_0 l0_1 l0_2 bt643.1 bt643.2.1 bt643.2.2 l0_0 ([] : List (S34)) l0_2)) else (some t641))) = some r := H
 have A4 := Aside0.mk A40
 clear A40
 replace H := Option.bind_eq_some_iff.mp H
 obtain ⟨t642, A50, H⟩ := H
 replace H : (if t642 = true then ((cells_Expire.f l0_0 l0_1 l0_2 (mx a1 a2)).bind fun bt643 => (slotmeshlaw12_CellsTime.l0 k a1 a2 t641 l0_1 (l0_1.length : Int) 0 l0_0 l0_1 l0_2 bt643.1 bt643.2.1 bt643.2.2 l0_0 ([] : List (S34)) l0_2)) else (some t641)) = some r := H
 have A5 := Aside0.mk A50
 clear A50
 by_cases c6 : t642 = true
 ·subst c6
  have H1 : ((cells_Expire.f l0_0 l0_1 l0_2 (mx a1 a2)).bind fun bt643 => (slotmeshlaw12_CellsTime.l0 k a1 a2 t641 l0_1 (l0_1.length : Int) 0 l0_0 l0_1 l0_2 bt643.1 bt643.2.1 bt643.2.2 l0_0 ([] : List (S34)) l0_2)) = some r := by rw [if_pos rfl] at H; exact H
  clear H
  have H := H1
  clear H1
  obtain ⟨ji7, hji7⟩ : ∃ j_ : Int, (mx a1 a2) = j_ := ⟨_, rfl⟩
  replace H : ((cells_Expire.f l0_0 l0_1 l0_2 (ji7)).bind fun bt643 => (slotmeshlaw12_CellsTime.l0 k a1 a2 t641 l0_1 (l0_1.length : Int) 0 l0_0 l0_1 l0_2 bt643.1 bt643.2.1 bt643.2.2 l0_0 ([] : List (S34)) l0_2)) = some r := by first | (rw [hji7] at H; exact H) | (simp only [hji7] at H ⊢; exact H)
  (try rw [hji7] at A4)
  (try rw [hji7] at A5)
  have hji7_ : (if a1 < a2 then a2 else a1) = ji7 := hji7
  replace H := Option.bind_eq_some_iff.mp H
  obtain ⟨⟨t643, t646, t649⟩, A80, H⟩ := H
  replace H : (slotmeshlaw12_CellsTime.l0 k a1 a2 t641 l0_1 (l0_1.length : Int) 0 l0_0 l0_1 l0_2 t643 t646 t649 l0_0 ([] : List (S34)) l0_2) = some r := H
  have A8 := Aside0.mk A80
  clear A80
  have H' := Aside0.mk H
  clear H
  go_enter Try.func8, Try.ntmps8
  go_wp2_with (first | ((with_reducible refine gate_dst (N := 3) rfl ?_); refine bE (N := 3) (cs := #[.slice A0_0 l0_0.length c0_0, .slice A0_1 l0_1.length c0_1, .slice A0_2 l0_2.length c0_2]) (t := 26) ?_; intro gb640 hg w9 hbox hb; have BK640 := Aside0.mk (hbox); have GW640 := gW hg HB; have GE640 := GW640; replace HB := tW HB hb; clear hb hbox hg) | ((with_reducible refine gate_callee (f := 10) rfl ?_); refine gC (some 12) Try.func10 #[] ?_; (with_reducible refine (slotmeshlaw12_head.calls  t641 _ A4.out).mono ?_); rintro e w10 ⟨rfl, hb⟩; refine ⟨_, rfl, ?_⟩; replace BK640 := tB BK640 hb; replace HB := tW HB hb; (try clear hb); (try clear hb2); (try clear hk); (try clear hi); have hcz11_0 : w10.cell? ⟨gb640, 0, none⟩ = some (.slice A0_0 l0_0.length c0_0) := bt BK640 0; have hcz11_1 : w10.cell? ⟨gb640, 1, none⟩ = some (.slice A0_1 l0_1.length c0_1) := bt BK640 1; have hcz11_2 : w10.cell? ⟨gb640, 2, none⟩ = some (.slice A0_2 l0_2.length c0_2) := bt BK640 2; have hfz11_0 := blk_frozen BK640.out 0; have hfz11_1 := blk_frozen BK640.out 1; have hfz11_2 := blk_frozen BK640.out 2) | ((with_reducible refine gate_callee (f := 11) rfl ?_); refine gC (some 14) Try.func11 #[.agg #[.slice A0_0 l0_0.length c0_0, .slice A0_1 l0_1.length c0_1, .slice A0_2 l0_2.length c0_2]] ?_; (with_reducible refine (slotmeshref12_Few.calls _ _ l0_0 _ _ l0_1 _ _ l0_2 true _ ?side1 ?side2 ?side3 ?side4 ?side5 ?side6 A5.out).mono ?_); (case side1 => exact sC (Kd.C_below HR0_0.out HB.out)); (case side2 => exact HC0_0.out); (case side3 => exact sC (Kd.C_below HR0_1.out HB.out)); (case side4 => exact HC0_1.out); (case side5 => exact sC (Kd.C_below HR0_2.out HB.out)); (case side6 => exact HC0_2.out); rintro e w12 ⟨rfl, hb⟩; refine ⟨_, rfl, ?_⟩; replace BK640 := tB BK640 hb; replace HB := tW HB hb; (try clear hb); (try clear hb2); (try clear hk); (try clear hi); have hcz13_0 : w12.cell? ⟨gb640, 0, none⟩ = some (.slice A0_0 l0_0.length c0_0) := bt BK640 0; have hcz13_1 : w12.cell? ⟨gb640, 1, none⟩ = some (.slice A0_1 l0_1.length c0_1) := bt BK640 1; have hcz13_2 : w12.cell? ⟨gb640, 2, none⟩ = some (.slice A0_2 l0_2.length c0_2) := bt BK640 2; have hfz13_0 := blk_frozen BK640.out 0; have hfz13_1 := blk_frozen BK640.out 1; have hfz13_2 := blk_frozen BK640.out 2) | ((with_reducible refine gate_callee (f := 23) rfl ?_); refine goesL_ (some 21) rfl rfl Try.func23 (by kernel_rfl) rfl #[.agg #[.slice A0_0 l0_0.length c0_0, .slice A0_1 l0_1.length c0_1, .slice A0_2 l0_2.length c0_2], .int .i64 ji7] rfl (by (try simp only [List.map_toArray, List.map_cons, List.map_nil]); first | done | (simp only [hji7]; rfl) | rfl | (simp only [List.length_drop, List.length_take]; rfl)) ?_; (with_reducible refine (cells_Expire.calls _ _ l0_0 _ _ l0_1 _ _ l0_2 ji7 t643 t646 t649 _ ?side1 ?side2 ?side3 ?side4 ?side5 ?side6 A8.out).mono ?_); (case side1 => exact sC (Kd.C_below HR0_0.out HB.out)); (case side2 => exact HC0_0.out); (case side3 => exact sC (Kd.C_below HR0_1.out HB.out)); (case side4 => exact HC0_1.out); (case side5 => exact sC (Kd.C_below HR0_2.out HB.out)); (case side6 => exact HC0_2.out); rintro e w14 ⟨v644, v647, v650, rfl, ho0, ho1, ho2, hb⟩; refine ⟨_, rfl, ?_⟩; have HO645 := Aside0.mk (Kd.R_lower ho0 (below_size (sW HB))); have HO648 := Aside0.mk (Kd.R_lower ho1 (below_size (sW HB))); have HO651 := Aside0.mk (Kd.R_lower ho2 (below_size (sW HB))); replace BK640 := tB BK640 hb; replace HB := tW HB hb; (try clear hb); (try clear hb2); (try clear hk); (try clear hi); (try clear ho0); (try clear ho1); (try clear ho2)) | ((with_reducible refine gate_dst (N := 8) rfl ?_); refine bE (N := 8) (cs := #[.slice none 0 0, .slice none 0 0, .slice none 0 0]) (t := 26) ?_; intro gb652 hg w15 hbox hb; replace HO645 := tR HO645 hb; replace HO648 := tR HO648 hb; replace HO651 := tR HO651 hb; have BK652 := Aside0.mk (hbox); have GW652 := gW hg HB; have GE652 := GW652; replace HB := tW HB hb; have NB640_652 := gL hg BK640; have NB652_640 := gG hg BK640; replace BK640 := tB BK640 hb; clear hb hbox hg; obtain ⟨Ao16, co16, eo16⟩ := Kd.R_slice HO645.out; subst eo16; have hnb17 := NB652_640.out; have hnc17 := NB640_652.out; have hcz18_0 : w15.cell? ⟨gb652, 0, none⟩ = some (.slice none 0 0) := bt BK652 0; have hcz18_1 : w15.cell? ⟨gb652, 1, none⟩ = some (.slice none 0 0) := bt BK652 1; have hcz18_2 : w15.cell? ⟨gb652, 2, none⟩ = some (.slice none 0 0) := bt BK652 2; have hfz18_0 := blk_frozen BK652.out 0; have hfz18_1 := blk_frozen BK652.out 1; have hfz18_2 := blk_frozen BK652.out 2; obtain ⟨Ao19, co19, eo19⟩ := Kd.R_slice HO648.out; subst eo19; obtain ⟨Ao20, co20, eo20⟩ := Kd.R_slice HO651.out; subst eo20; have hcz21_0 : w15.cell? ⟨gb640, 0, none⟩ = some (.slice A0_0 l0_0.length c0_0) := bt BK640 0; have hcz21_1 : w15.cell? ⟨gb640, 1, none⟩ = some (.slice A0_1 l0_1.length c0_1) := bt BK640 1; have hcz21_2 : w15.cell? ⟨gb640, 2, none⟩ = some (.slice A0_2 l0_2.length c0_2) := bt BK640 2; have hfz21_0 := blk_frozen BK640.out 0; have hfz21_1 := blk_frozen BK640.out 1; have hfz21_2 := blk_frozen BK640.out 2) | ((with_reducible refine gate_dst (N := 9) rfl ?_); refine bE (N := 9) (cs := #[.slice none 0 0, .slice none 0 0, .slice none 0 0]) (t := 26) ?_; intro gb653 hg w22 hbox hb; replace HO645 := Aside0.mk (Kd.R_below (mR (by exact (Kd.R_mono (Kd.R_far (p := ⟨gb652, 2, none⟩) (Kd.R_far (p := ⟨gb652, 1, none⟩) (Kd.R_far (p := ⟨gb652, 0, none⟩) (Kd.R_types HO645.out BK652.out (by decide)) (fun _ hk => hk.2) (.slice Ao16 t643.length co16)) (fun _ hk => hk.2) (.slice Ao19 t646.length co19)) (fun _ hk => hk.2) (.slice Ao20 t649.length co20)) (fun _ h_ => h_.1)))) hb); replace HO648 := Aside0.mk (Kd.R_below (mR (by exact (Kd.R_mono (Kd.R_far (p := ⟨gb652, 2, none⟩) (Kd.R_far (p := ⟨gb652, 1, none⟩) (Kd.R_far (p := ⟨gb652, 0, none⟩) (Kd.R_types HO648.out BK652.out (by decide)) (fun _ hk => hk.2) (.slice Ao16 t643.length co16)) (fun _ hk => hk.2) (.slice Ao19 t646.length co19)) (fun _ hk => hk.2) (.slice Ao20 t649.length co20)) (fun _ h_ => h_.1)))) hb); replace HO651 := Aside0.mk (Kd.R_below (mR (by exact (Kd.R_mono (Kd.R_far (p := ⟨gb652, 2, none⟩) (Kd.R_far (p := ⟨gb652, 1, none⟩) (Kd.R_far (p := ⟨gb652, 0, none⟩) (Kd.R_types HO651.out BK652.out (by decide)) (fun _ hk => hk.2) (.slice Ao16 t643.length co16)) (fun _ hk => hk.2) (.slice Ao19 t646.length co19)) (fun _ hk => hk.2) (.slice Ao20 t649.length co20)) (fun _ h_ => h_.1)))) hb); have BK653 := Aside0.mk (hbox); have GW653 := gW hg HB; have GE653 := GW653; replace HB := tW HB hb; have NB640_653 := gL hg BK640; have NB653_640 := gG hg BK640; replace BK640 := tB BK640 hb; have NB652_653 := Aside0.mk ((by rw [hg]; exact Nat.ne_of_lt (blk_lt (g := gb652) (o := .cells #[.slice Ao16 t643.length co16, .slice Ao19 t646.length co19, .slice Ao20 t649.length co20] 26 (0, 0)) (by (with_reducible repeat (first | refine blk_drewN ?_ _ | refine blk_drew ?_ | refine blk_alloc ?_ _)); refine blk_put (cs := #[.slice Ao16 t643.length co16, .slice Ao19 t646.length co19, .slice none 0 0]) ?_ 2 _ rfl; (with_reducible repeat (first | refine blk_drewN ?_ _ | refine blk_drew ?_ | refine blk_alloc ?_ _)); refine blk_put (cs := #[.slice Ao16 t643.length co16, .slice none 0 0, .slice none 0 0]) ?_ 1 _ rfl; (with_reducible repeat (first | refine blk_drewN ?_ _ | refine blk_drew ?_ | refine blk_alloc ?_ _)); refine blk_put (cs := #[.slice none 0 0, .slice none 0 0, .slice none 0 0]) ?_ 0 _ rfl; (with_reducible repeat (first | refine blk_drewN ?_ _ | refine blk_drew ?_ | refine blk_alloc ?_ _)); exact BK652.out)) : gb652 ≠ gb653)); have NB653_652 := Aside0.mk ((by rw [hg]; exact Nat.ne_of_gt (blk_lt (g := gb652) (o := .cells #[.slice Ao16 t643.length co16, .slice Ao19 t646.length co19, .slice Ao20 t649.length co20] 26 (0, 0)) (by (with_reducible repeat (first | refine blk_drewN ?_ _ | refine blk_drew ?_ | refine blk_alloc ?_ _)); refine blk_put (cs := #[.slice Ao16 t643.length co16, .slice Ao19 t646.length co19, .slice none 0 0]) ?_ 2 _ rfl; (with_reducible repeat (first | refine blk_drewN ?_ _ | refine blk_drew ?_ | refine blk_alloc ?_ _)); refine blk_put (cs := #[.slice Ao16 t643.length co16, .slice none 0 0, .slice none 0 0]) ?_ 1 _ rfl; (with_reducible repeat (first | refine blk_drewN ?_ _ | refine blk_drew ?_ | refine blk_alloc ?_ _)); refine blk_put (cs := #[.slice none 0 0, .slice none 0 0, .slice none 0 0]) ?_ 0 _ rfl; (with_reducible repeat (first | refine blk_drewN ?_ _ | refine blk_drew ?_ | refine blk_alloc ?_ _)); exact BK652.out)) : gb653 ≠ gb652)); replace BK652 := Aside0.mk (blk_below (g := gb652) (o := .cells #[.slice Ao16 t643.length co16, .slice Ao19 t646.length co19, .slice Ao20 t649.length co20] 26 (0, 0)) (by (with_reducible repeat (first | refine blk_drewN ?_ _ | refine blk_drew ?_ | refine blk_alloc ?_ _)); refine blk_put (cs := #[.slice Ao16 t643.length co16, .slice Ao19 t646.length co19, .slice none 0 0]) ?_ 2 _ rfl; (with_reducible repeat (first | refine blk_drewN ?_ _ | refine blk_drew ?_ | refine blk_alloc ?_ _)); refine blk_put (cs := #[.slice Ao16 t643.length co16, .slice none 0 0, .slice none 0 0]) ?_ 1 _ rfl; (with_reducible repeat (first | refine blk_drewN ?_ _ | refine blk_drew ?_ | refine blk_alloc ?_ _)); refine blk_put (cs := #[.slice none 0 0, .slice none 0 0, .slice none 0 0]) ?_ 0 _ rfl; (with_reducible repeat (first | refine blk_drewN ?_ _ | refine blk_drew ?_ | refine blk_alloc ?_ _)); exact BK652.out) hb); clear hb hbox hg; have hnb23 := NB653_640.out; have hnc23 := NB640_653.out; have hnb24 := NB653_652.out; have hnc24 := NB652_653.out; have hcz25_0 : w22.cell? ⟨gb653, 0, none⟩ = some (.slice none 0 0) := bt BK653 0; have hcz25_1 : w22.cell? ⟨gb653, 1, none⟩ = some (.slice none 0 0) := bt BK653 1; have hcz25_2 : w22.cell? ⟨gb653, 2, none⟩ = some (.slice none 0 0) := bt BK653 2; have hfz25_0 := blk_frozen BK653.out 0; have hfz25_1 := blk_frozen BK653.out 1; have hfz25_2 := blk_frozen BK653.out 2; have hcz26_0 : w22.cell? ⟨gb640, 0, none⟩ = some (.slice A0_0 l0_0.length c0_0) := bt BK640 0; have hcz26_1 : w22.cell? ⟨gb640, 1, none⟩ = some (.slice A0_1 l0_1.length c0_1) := bt BK640 1; have hcz26_2 : w22.cell? ⟨gb640, 2, none⟩ = some (.slice A0_2 l0_2.length c0_2) := bt BK640 2; have hfz26_0 := blk_frozen BK640.out 0; have hfz26_1 := blk_frozen BK640.out 1; have hfz26_2 := blk_frozen BK640.out 2))
  go_loopg [30] k (fun kq v30 w' => ∃ (x30_1 : Int) (x654001_1 : List (S34)) (u654001 : Value), v30 = .int .i64 x30_1 ∧ Aside0 (slotmeshlaw12_CellsTime.l0 kq a1 a2 t641 l0_1 (l0_1.length : Int) x30_1 l0_0 l0_1 l0_2 t643 t646 t649 l0_0 x654001_1 l0_2 = some r) ∧ Aside0 (kq ≤ k) ∧ Aside0 (Kd.R k32 32 w' w.heap.size (fun _ => True) (.slice Ao16 t643.length co16) t643) ∧ Aside0 (Kd.R k34 34 w' w.heap.size (fun k_ => some k_ ≠ (u654001 : Value).ownBlock) (.slice Ao19 t646.length co19) t646) ∧ Aside0 (Kd.R k51 51 w' w.heap.size (fun _ => True) (.slice Ao20 t649.length co20) t649) ∧ Aside0 (Kd.R k34 34 w' w.heap.size (fun k_ => some k_ ≠ ((.slice Ao19 t646.length co19) : Value).ownBlock) u654001 x654001_1) ∧ Aside0 (w'.heap[gb640]? = some (.cells #[(.slice A0_0 l0_0.length c0_0), (.slice A0_1 l0_1.length c0_1), (.slice A0_2 l0_2.length c0_2)] 26 (0, 0))) ∧ Aside0 (w'.heap[gb652]? = some (.cells #[(.slice Ao16 t643.length co16), (.slice Ao19 t646.length co19), (.slice Ao20 t649.length co20)] 26 (0, 0))) ∧ Aside0 (w'.heap[gb653]? = some (.cells #[(.slice A0_0 l0_0.length c0_0), u654001, (.slice A0_2 l0_2.length c0_2)] 26 (0, 0))) ∧ Aside0 (Below w.heap.size w w'))
  case atStart => exact ⟨(0), (([] : List (S34))), (.slice none 0 0), aR, H', ⟨Nat.le_refl _⟩, ⟨mR (by exact Kd.R_mono (Kd.R_far (p := ⟨gb653, 2, none⟩) (Kd.R_far (p := ⟨gb653, 1, none⟩) (Kd.R_far (p := ⟨gb653, 0, none⟩) (Kd.R_types HO645.out BK653.out (by decide)) (fun _ hk => hk.2) (.slice A0_0 l0_0.length c0_0)) (fun _ hk => hk.2) (.slice none 0 0)) (fun _ hk => hk.2) (.slice A0_2 l0_2.length c0_2)) (fun _ hk => trivial))⟩, ⟨mR (by exact Kd.R_mono (Kd.R_far (p := ⟨gb653, 2, none⟩) (Kd.R_far (p := ⟨gb653, 1, none⟩) (Kd.R_far (p := ⟨gb653, 0, none⟩) (Kd.R_types HO648.out BK653.out (by decide)) (fun _ hk => hk.2) (.slice A0_0 l0_0.length c0_0)) (fun _ hk => hk.2) (.slice none 0 0)) (fun _ hk => hk.2) (.slice A0_2 l0_2.length c0_2)) (fun _ hk => (by simp [Value.ownBlock])))⟩, ⟨mR (by exact Kd.R_mono (Kd.R_far (p := ⟨gb653, 2, none⟩) (Kd.R_far (p := ⟨gb653, 1, none⟩) (Kd.R_far (p := ⟨gb653, 0, none⟩) (Kd.R_types HO651.out BK653.out (by decide)) (fun _ hk => hk.2) (.slice A0_0 l0_0.length c0_0)) (fun _ hk => hk.2) (.slice none 0 0)) (fun _ hk => hk.2) (.slice A0_2 l0_2.length c0_2)) (fun _ hk => trivial))⟩, ⟨by first | exact Kd.R_nil _ _ _ _ _ | exact Kd.N_nil _ _ _ _ _ | exact Kd.V_nil _ _ _ _ _ | exact Kd.Q_nil _ _ _ _ _ | exact Kd.S_nil _ _ _ _ _⟩, ⟨sB BK640⟩, ⟨sB BK652⟩, ⟨by (with_reducible repeat (first | refine blk_drewN ?_ _ | refine blk_drew ?_ | refine blk_alloc ?_ _)); refine blk_put (cs := #[.slice A0_0 l0_0.length c0_0, .slice none 0 0, .slice none 0 0]) ?_ 2 _ rfl; (with_reducible repeat (first | refine blk_drewN ?_ _ | refine blk_drew ?_ | refine blk_alloc ?_ _)); refine blk_put (cs := #[.slice A0_0 l0_0.length c0_0, .slice none 0 0, .slice none 0 0]) ?_ 1 _ rfl; (with_reducible repeat (first | refine blk_drewN ?_ _ | refine blk_drew ?_ | refine blk_alloc ?_ _)); refine blk_put (cs := #[.slice none 0 0, .slice none 0 0, .slice none 0 0]) ?_ 0 _ rfl; (with_reducible repeat (first | refine blk_drewN ?_ _ | refine blk_drew ?_ | refine blk_alloc ?_ _)); exact BK653.out⟩, ⟨sW HB⟩⟩
  case round =>
   clear H'
   try clear c1
   try clear c2
   try clear p2
   try clear c6
   try clear c8
   try clear c10
   try clear c11
   try clear c17
   try clear c23
   try clear c24
   try clear hcz11_0 hcz11_1 hcz11_2 hfz11_0 hfz11_1 hfz11_2
   try clear hcz13_0 hcz13_1 hcz13_2 hfz13_0 hfz13_1 hfz13_2
   try clear hcz18_0 hcz18_1 hcz18_2 hfz18_0 hfz18_1 hfz18_2
   try clear hcz21_0 hcz21_1 hcz21_2 hfz21_0 hfz21_1 hfz21_2
   try clear hcz25_0 hcz25_1 hcz25_2 hfz25_0 hfz25_1 hfz25_2
   try clear hcz26_0 hcz26_1 hcz26_2 hfz26_0 hfz26_1 hfz26_2
   obtain ⟨x30_1, x654001_1, u654001, rfl, HA, HK1, HO_653000, HO_653001, HO_653002, HO_654001, BK640, BK652, BK653, HB⟩ := hrel
   cases gk with
   | zero => exact absurd HA.out (by simp [slotmeshlaw12_CellsTime.l0])
   | succ k1 =>
    have H := HA.out
    clear HA
    simp only [slotmeshlaw12_CellsTime.l0] at H
    by_cases c27 : x30_1 < (l0_1.length : Int)
    ·rw [if_pos c27] at H
     have c27b0 : decide (x30_1 < (l0_1.length : Int)) = true := decide_eq_true c27
     clear c27
     by_cases c28 : 0 ≤ x30_1
     ·rw [if_pos c28] at H
      have c28b0 : decide (0 ≤ x30_1) = true := decide_eq_true c28
      clear c28
      by_cases c29 : x30_1 < (l0_1.length : Int)
      ·rw [if_pos c29] at H
       have c29b0 : decide (x30_1 < (l0_1.length : Int)) = true := decide_eq_true c29
       clear c29
       by_cases c30 : ((rd_T34 l0_1 x30_1).f3) ≥ a1
       ·rw [if_pos c30] at H
        have c30b0 : decide (a1 ≤ ((rd_T34 l0_1 x30_1).f3)) = true := decide_eq_true c30
        clear c30
        by_cases c31 : ((rd_T34 l0_1 x30_1).f3) ≥ a2
        ·rw [if_pos c31] at H
         have c31b0 : decide (a2 ≤ ((rd_T34 l0_1 x30_1).f3)) = true := decide_eq_true c31
         clear c31
         by_cases c32 : x654001_1.length < 3518437208883
         ·rw [if_pos c32] at H
          have LMc32 := Aside0.mk c32
          clear c32
          obtain ⟨y656, hy656⟩ : ∃ y_ : List (S34), y_ = (x654001_1 ++ [(⟨(⟨(rd_T34 l0_1 x30_1).f0.f0, (rd_T34 l0_1 x30_1).f0.f1⟩ : S30), (rd_T34 l0_1 x30_1).f1, (rd_T34 l0_1 x30_1).f2, (rd_T34 l0_1 x30_1).f3⟩ : S34)]) := ⟨_, rfl⟩
          replace H : (slotmeshlaw12_CellsTime.l0 k1 a1 a2 t641 l0_1 (l0_1.length : Int) (wrap64 (x30_1 + 1)) l0_0 l0_1 l0_2 t643 t646 t649 l0_0 y656 l0_2) = some r := by first | (rw [hy656]; with_reducible exact H) | (have H2_ := (Option.bind_some _ _).symm.trans H; rw [hy656]; with_reducible exact H2_) | (have H2_ := (Option.bind_some _ _).symm.trans H; with_reducible exact H2_) | with_reducible exact H | (rw [hy656]; exact H) | exact H
          have Ny656 := Aside0.mk hy656
          clear hy656
          have H' := Aside0.mk H
          clear H
          have p654 : 0 ≤ (x30_1 : Int) := dA
          have q654 : x30_1 < (l0_1.length : Int) := dA
          obtain ⟨ad654, e654, hx654_0, hx654_1, hx654_2, hx654_3, hx654_4⟩ := at_T34 HR0_1.out x30_1 p654 q654
          cases e654
          replace hx654_0 := (HB.out.cell (World.block_lt_of_cell? w _ hx654_0)).trans hx654_0
          replace hx654_1 := (HB.out.cell (World.block_lt_of_cell? w _ hx654_1)).trans hx654_1
          replace hx654_2 := (HB.out.cell (World.block_lt_of_cell? w _ hx654_2)).trans hx654_2
          replace hx654_3 := (HB.out.cell (World.block_lt_of_cell? w _ hx654_3)).trans hx654_3
          replace hx654_4 := (HB.out.cell (World.block_lt_of_cell? w _ hx654_4)).trans hx654_4
          replace p654 := eq_true p654
          replace q654 := eq_true q654
          go_wp2_with (first | ((with_reducible refine gate_dst (N := 11) rfl ?_); refine bE (N := 11) (cs := #[.int .i64 0, .int .i64 0, .int .i64 0, .int .i64 0, .int .i64 0]) (t := 34) ?_; intro gb655 hg w33 hbox hb; replace HO_653000 := tR HO_653000 hb; replace HO_653001 := Aside0.mk (Kd.R_below (Kd.R_elderB (sR HO_653001) gb655 (Nat.le_of_eq hg.symm)) hb); replace HO_653002 := tR HO_653002 hb; replace HO_654001 := Aside0.mk (Kd.R_below (Kd.R_elderB (sR HO_654001) gb655 (Nat.le_of_eq hg.symm)) hb); have BK655 := Aside0.mk (hbox); have GW655 := gW hg HB; have GE655 := GW655; replace HB := tW HB hb; have NB640_655 := gL hg BK640; have NB655_640 := gG hg BK640; replace BK640 := tB BK640 hb; have NB652_655 := gL hg BK652; have NB655_652 := gG hg BK652; replace BK652 := tB BK652 hb; have NB653_655 := gL hg BK653; have NB655_653 := gG hg BK653; replace BK653 := tB BK653 hb; clear hb hbox hg; have hnb34 := NB655_640.out; have hnc34 := NB640_655.out; have hnb35 := NB655_652.out; have hnc35 := NB652_655.out; have hnb36 := NB655_653.out; have hnc36 := NB653_655.out; have hcz37_0 : w33.cell? ⟨gb655, 0, none⟩ = some (.int .i64 0) := bt BK655 0; have hcz37_1 : w33.cell? ⟨gb655, 1, none⟩ = some (.int .i64 0) := bt BK655 1; have hcz37_2 : w33.cell? ⟨gb655, 2, none⟩ = some (.int .i64 0) := bt BK655 2; have hcz37_3 : w33.cell? ⟨gb655, 3, none⟩ = some (.int .i64 0) := bt BK655 3; have hcz37_4 : w33.cell? ⟨gb655, 4, none⟩ = some (.int .i64 0) := bt BK655 4; have hfz37_0 := blk_frozen BK655.out 0; have hfz37_1 := blk_frozen BK655.out 1; have hfz37_2 := blk_frozen BK655.out 2; have hfz37_3 := blk_frozen BK655.out 3; have hfz37_4 := blk_frozen BK655.out 4; have hnb38 := NB653_640.out; have hnc38 := NB640_653.out; have hnb39 := NB653_652.out; have hnc39 := NB652_653.out; have hcz40_0 : w33.cell? ⟨gb653, 0, none⟩ = some (.slice A0_0 l0_0.length c0_0) := bt BK653 0; have hcz40_1 : w33.cell? ⟨gb653, 1, none⟩ = some (u654001) := bt BK653 1; have hcz40_2 : w33.cell? ⟨gb653, 2, none⟩ = some (.slice A0_2 l0_2.length c0_2) := bt BK653 2; have hfz40_0 := blk_frozen BK653.out 0; have hfz40_1 := blk_frozen BK653.out 1; have hfz40_2 := blk_frozen BK653.out 2) | ((with_reducible refine gate_builtin (b := .append) (xs := #[.tmp 45, .tmp 47]) rfl ?_); at_builtin; refine Kd.R_append k34 (w0 := w) w.heap.size rfl (.tmp 45) (.tmp 47) 23 34 (.agg #[(.int .i64 0), (.int .i64 0), (.int .i64 0), (.int .i64 0), (.int .i64 0)]) 40 rfl Try.underlying23 info34 rfl (by decide) (by omega) u654001 x654001_1 (⟨(⟨(rd_T34 l0_1 x30_1).f0.f0, (rd_T34 l0_1 x30_1).f0.f1⟩ : S30), (rd_T34 l0_1 x30_1).f1, (rd_T34 l0_1 x30_1).f2, (rd_T34 l0_1 x30_1).f3⟩ : S34) [.int .i64 ((rd_T34 l0_1 x30_1).f0.f0), .int .i64 ((rd_T34 l0_1 x30_1).f0.f1), .int .i64 ((rd_T34 l0_1 x30_1).f1), .int .i64 ((rd_T34 l0_1 x30_1).f2), .int .i64 ((rd_T34 l0_1 x30_1).f3)] (fun k_ => some k_ ≠ (.slice Ao19 t646.length co19 : Value).ownBlock ∧ k_ ≠ gb655) (fun _ => False) rfl (by first | (go_simp; done) | (go_simp; rfl)) ?aP (fun _ hk => hk.elim) ?aF ?aO ?aB ?aS ?aL ?_; (case aP => exact k34_mkM _ _ _ (⟨(⟨(rd_T34 l0_1 x30_1).f0.f0, (rd_T34 l0_1 x30_1).f0.f1⟩ : S30), (rd_T34 l0_1 x30_1).f1, (rd_T34 l0_1 x30_1).f2, (rd_T34 l0_1 x30_1).f3⟩ : S34)); (case aB => exact (sW HB)); (case aF => exact (fun k_ hk => ⟨Kd.fresh' (Kd.R_lt (mR (by exact (Kd.R_mono (Kd.R_far (p := ⟨gb655, 4, none⟩) (Kd.R_far (p := ⟨gb655, 3, none⟩) (Kd.R_far (p := ⟨gb655, 2, none⟩) (Kd.R_far (p := ⟨gb655, 1, none⟩) (Kd.R_far (p := ⟨gb655, 0, none⟩) (Kd.R_mono HO_653001.out (fun k_ hk => (⟨hk, hk.2⟩ : _ ∧ k_ ≠ gb655))) (fun _ hk => hk.2) (.int .i64 ((rd_T34 l0_1 x30_1).f0.f0))) (fun _ hk => hk.2) (.int .i64 ((rd_T34 l0_1 x30_1).f0.f1))) (fun _ hk => hk.2) (.int .i64 ((rd_T34 l0_1 x30_1).f1))) (fun _ hk => hk.2) (.int .i64 ((rd_T34 l0_1 x30_1).f2))) (fun _ hk => hk.2) (.int .i64 ((rd_T34 l0_1 x30_1).f3))) (fun _ h_ => h_.1))))) k_ hk, Kd.freshB (g := gb655) (o := .cells #[.int .i64 ((rd_T34 l0_1 x30_1).f0.f0), .int .i64 ((rd_T34 l0_1 x30_1).f0.f1), .int .i64 ((rd_T34 l0_1 x30_1).f1), .int .i64 ((rd_T34 l0_1 x30_1).f2), .int .i64 ((rd_T34 l0_1 x30_1).f3)] 34 (0, 0)) (by (with_reducible repeat (first | refine blk_drewN ?_ _ | refine blk_drew ?_ | refine blk_alloc ?_ _)); refine blk_put (cs := #[.int .i64 ((rd_T34 l0_1 x30_1).f0.f0), .int .i64 ((rd_T34 l0_1 x30_1).f0.f1), .int .i64 ((rd_T34 l0_1 x30_1).f1), .int .i64 ((rd_T34 l0_1 x30_1).f2), .int .i64 0]) ?_ 4 _ rfl; (with_reducible repeat (first | refine blk_drewN ?_ _ | refine blk_drew ?_ | refine blk_alloc ?_ _)); refine blk_put (cs := #[.int .i64 ((rd_T34 l0_1 x30_1).f0.f0), .int .i64 ((rd_T34 l0_1 x30_1).f0.f1), .int .i64 ((rd_T34 l0_1 x30_1).f1), .int .i64 0, .int .i64 0]) ?_ 3 _ rfl; (with_reducible repeat (first | refine blk_drewN ?_ _ | refine blk_drew ?_ | refine blk_alloc ?_ _)); refine blk_put (cs := #[.int .i64 ((rd_T34 l0_1 x30_1).f0.f0), .int .i64 ((rd_T34 l0_1 x30_1).f0.f1), .int .i64 0, .int .i64 0, .int .i64 0]) ?_ 2 _ rfl; (with_reducible repeat (first | refine blk_drewN ?_ _ | refine blk_drew ?_ | refine blk_alloc ?_ _)); refine blk_put (cs := #[.int .i64 ((rd_T34 l0_1 x30_1).f0.f0), .int .i64 0, .int .i64 0, .int .i64 0, .int .i64 0]) ?_ 1 _ rfl; (with_reducible repeat (first | refine blk_drewN ?_ _ | refine blk_drew ?_ | refine blk_alloc ?_ _)); refine blk_put (cs := #[.int .i64 0, .int .i64 0, .int .i64 0, .int .i64 0, .int .i64 0]) ?_ 0 _ rfl; (with_reducible repeat (first | refine blk_drewN ?_ _ | refine blk_drew ?_ | refine blk_alloc ?_ _)); exact BK655.out) k_ hk⟩)); (case aO => exact (mR (by exact Kd.R_mono (Kd.R_far (p := ⟨gb655, 4, none⟩) (Kd.R_far (p := ⟨gb655, 3, none⟩) (Kd.R_far (p := ⟨gb655, 2, none⟩) (Kd.R_far (p := ⟨gb655, 1, none⟩) (Kd.R_far (p := ⟨gb655, 0, none⟩) (Kd.R_mono HO_654001.out (fun k_ hk => (⟨hk, hk.2⟩ : _ ∧ k_ ≠ gb655))) (fun _ hk => hk.2) (.int .i64 ((rd_T34 l0_1 x30_1).f0.f0))) (fun _ hk => hk.2) (.int .i64 ((rd_T34 l0_1 x30_1).f0.f1))) (fun _ hk => hk.2) (.int .i64 ((rd_T34 l0_1 x30_1).f1))) (fun _ hk => hk.2) (.int .i64 ((rd_T34 l0_1 x30_1).f2))) (fun _ hk => hk.2) (.int .i64 ((rd_T34 l0_1 x30_1).f3))) (fun _ hk => ⟨hk.1.1, hk.1.2⟩)))); (case aS => exact (below_size (sW HB))); (case aL => have := LMc32.out; omega); intro v657 w41 ho hb hg hat; rw [← Ny656.out] at ho; replace HO_653000 := Aside0.mk (Kd.R_over' (mR (by exact (Kd.R_mono (Kd.R_far (p := ⟨gb655, 4, none⟩) (Kd.R_far (p := ⟨gb655, 3, none⟩) (Kd.R_far (p := ⟨gb655, 2, none⟩) (Kd.R_far (p := ⟨gb655, 1, none⟩) (Kd.R_far (p := ⟨gb655, 0, none⟩) (Kd.R_types HO_653000.out BK655.out (by decide)) (fun _ hk => hk.2) (.int .i64 ((rd_T34 l0_1 x30_1).f0.f0))) (fun _ hk => hk.2) (.int .i64 ((rd_T34 l0_1 x30_1).f0.f1))) (fun _ hk => hk.2) (.int .i64 ((rd_T34 l0_1 x30_1).f1))) (fun _ hk => hk.2) (.int .i64 ((rd_T34 l0_1 x30_1).f2))) (fun _ hk => hk.2) (.int .i64 ((rd_T34 l0_1 x30_1).f3))) (fun _ h_ => h_.1)))) (Kd.R_typed (mR (by exact (Kd.R_mono (Kd.R_far (p := ⟨gb655, 4, none⟩) (Kd.R_far (p := ⟨gb655, 3, none⟩) (Kd.R_far (p := ⟨gb655, 2, none⟩) (Kd.R_far (p := ⟨gb655, 1, none⟩) (Kd.R_far (p := ⟨gb655, 0, none⟩) (Kd.R_mono HO_654001.out (fun k_ hk => (⟨hk, hk.2⟩ : _ ∧ k_ ≠ gb655))) (fun _ hk => hk.2) (.int .i64 ((rd_T34 l0_1 x30_1).f0.f0))) (fun _ hk => hk.2) (.int .i64 ((rd_T34 l0_1 x30_1).f0.f1))) (fun _ hk => hk.2) (.int .i64 ((rd_T34 l0_1 x30_1).f1))) (fun _ hk => hk.2) (.int .i64 ((rd_T34 l0_1 x30_1).f2))) (fun _ hk => hk.2) (.int .i64 ((rd_T34 l0_1 x30_1).f3))) (fun _ h_ => h_.1))))) (by decide) hg); replace HO_653001 := Aside0.mk (Kd.R_after (ok := (fun k_ => k_ ≠ gb655)) (mR (by exact Kd.R_mono (Kd.R_far (p := ⟨gb655, 4, none⟩) (Kd.R_far (p := ⟨gb655, 3, none⟩) (Kd.R_far (p := ⟨gb655, 2, none⟩) (Kd.R_far (p := ⟨gb655, 1, none⟩) (Kd.R_far (p := ⟨gb655, 0, none⟩) (Kd.R_mono HO_653001.out (fun k_ hk => (⟨hk, hk.2⟩ : _ ∧ k_ ≠ gb655))) (fun _ hk => hk.2) (.int .i64 ((rd_T34 l0_1 x30_1).f0.f0))) (fun _ hk => hk.2) (.int .i64 ((rd_T34 l0_1 x30_1).f0.f1))) (fun _ hk => hk.2) (.int .i64 ((rd_T34 l0_1 x30_1).f1))) (fun _ hk => hk.2) (.int .i64 ((rd_T34 l0_1 x30_1).f2))) (fun _ hk => hk.2) (.int .i64 ((rd_T34 l0_1 x30_1).f3))) (fun _ hk => ⟨hk.1.2, hk.1.1⟩))) hg hat); replace HO_653002 := Aside0.mk (Kd.R_over' (mR (by exact (Kd.R_mono (Kd.R_far (p := ⟨gb655, 4, none⟩) (Kd.R_far (p := ⟨gb655, 3, none⟩) (Kd.R_far (p := ⟨gb655, 2, none⟩) (Kd.R_far (p := ⟨gb655, 1, none⟩) (Kd.R_far (p := ⟨gb655, 0, none⟩) (Kd.R_types HO_653002.out BK655.out (by decide)) (fun _ hk => hk.2) (.int .i64 ((rd_T34 l0_1 x30_1).f0.f0))) (fun _ hk => hk.2) (.int .i64 ((rd_T34 l0_1 x30_1).f0.f1))) (fun _ hk => hk.2) (.int .i64 ((rd_T34 l0_1 x30_1).f1))) (fun _ hk => hk.2) (.int .i64 ((rd_T34 l0_1 x30_1).f2))) (fun _ hk => hk.2) (.int .i64 ((rd_T34 l0_1 x30_1).f3))) (fun _ h_ => h_.1)))) (Kd.R_typed (mR (by exact (Kd.R_mono (Kd.R_far (p := ⟨gb655, 4, none⟩) (Kd.R_far (p := ⟨gb655, 3, none⟩) (Kd.R_far (p := ⟨gb655, 2, none⟩) (Kd.R_far (p := ⟨gb655, 1, none⟩) (Kd.R_far (p := ⟨gb655, 0, none⟩) (Kd.R_mono HO_654001.out (fun k_ hk => (⟨hk, hk.2⟩ : _ ∧ k_ ≠ gb655))) (fun _ hk => hk.2) (.int .i64 ((rd_T34 l0_1 x30_1).f0.f0))) (fun _ hk => hk.2) (.int .i64 ((rd_T34 l0_1 x30_1).f0.f1))) (fun _ hk => hk.2) (.int .i64 ((rd_T34 l0_1 x30_1).f1))) (fun _ hk => hk.2) (.int .i64 ((rd_T34 l0_1 x30_1).f2))) (fun _ hk => hk.2) (.int .i64 ((rd_T34 l0_1 x30_1).f3))) (fun _ h_ => h_.1))))) (by decide) hg); replace BK640 := Aside0.mk (blk_grown (g := gb640) (o := .cells #[.slice A0_0 l0_0.length c0_0, .slice (some ad654) l0_1.length c0_1, .slice A0_2 l0_2.length c0_2] 26 (0, 0)) (sB BK640) hg (Kd.R_ne HO_654001.out BK640.out (by decide))); replace BK652 := Aside0.mk (blk_grown (g := gb652) (o := .cells #[.slice Ao16 t643.length co16, .slice Ao19 t646.length co19, .slice Ao20 t649.length co20] 26 (0, 0)) (sB BK652) hg (Kd.R_ne HO_654001.out BK652.out (by decide))); replace BK653 := Aside0.mk (blk_grown (g := gb653) (o := .cells #[.slice A0_0 l0_0.length c0_0, u654001, .slice A0_2 l0_2.length c0_2] 26 (0, 0)) (sB BK653) hg (Kd.R_ne HO_654001.out BK653.out (by decide))); replace BK655 := Aside0.mk (blk_grown (g := gb655) (o := .cells #[.int .i64 ((rd_T34 l0_1 x30_1).f0.f0), .int .i64 ((rd_T34 l0_1 x30_1).f0.f1), .int .i64 ((rd_T34 l0_1 x30_1).f1), .int .i64 ((rd_T34 l0_1 x30_1).f2), .int .i64 ((rd_T34 l0_1 x30_1).f3)] 34 (0, 0)) (by (with_reducible repeat (first | refine blk_drewN ?_ _ | refine blk_drew ?_ | refine blk_alloc ?_ _)); refine blk_put (cs := #[.int .i64 ((rd_T34 l0_1 x30_1).f0.f0), .int .i64 ((rd_T34 l0_1 x30_1).f0.f1), .int .i64 ((rd_T34 l0_1 x30_1).f1), .int .i64 ((rd_T34 l0_1 x30_1).f2), .int .i64 0]) ?_ 4 _ rfl; (with_reducible repeat (first | refine blk_drewN ?_ _ | refine blk_drew ?_ | refine blk_alloc ?_ _)); refine blk_put (cs := #[.int .i64 ((rd_T34 l0_1 x30_1).f0.f0), .int .i64 ((rd_T34 l0_1 x30_1).f0.f1), .int .i64 ((rd_T34 l0_1 x30_1).f1), .int .i64 0, .int .i64 0]) ?_ 3 _ rfl; (with_reducible repeat (first | refine blk_drewN ?_ _ | refine blk_drew ?_ | refine blk_alloc ?_ _)); refine blk_put (cs := #[.int .i64 ((rd_T34 l0_1 x30_1).f0.f0), .int .i64 ((rd_T34 l0_1 x30_1).f0.f1), .int .i64 0, .int .i64 0, .int .i64 0]) ?_ 2 _ rfl; (with_reducible repeat (first | refine blk_drewN ?_ _ | refine blk_drew ?_ | refine blk_alloc ?_ _)); refine blk_put (cs := #[.int .i64 ((rd_T34 l0_1 x30_1).f0.f0), .int .i64 0, .int .i64 0, .int .i64 0, .int .i64 0]) ?_ 1 _ rfl; (with_reducible repeat (first | refine blk_drewN ?_ _ | refine blk_drew ?_ | refine blk_alloc ?_ _)); refine blk_put (cs := #[.int .i64 0, .int .i64 0, .int .i64 0, .int .i64 0, .int .i64 0]) ?_ 0 _ rfl; (with_reducible repeat (first | refine blk_drewN ?_ _ | refine blk_drew ?_ | refine blk_alloc ?_ _)); exact BK655.out) hg (Kd.R_away HO_654001.out (fun _ hk => hk.2))); replace HB := Aside0.mk (hb); have HO658 := Aside0.mk (ho); clear HO_654001; clear ho hb hg hat; obtain ⟨Ao42, co42, eo42⟩ := Kd.R_slice HO658.out; subst eo42; have hcz43_0 : w41.cell? ⟨gb653, 0, none⟩ = some (.slice A0_0 l0_0.length c0_0) := bt BK653 0; have hcz43_1 : w41.cell? ⟨gb653, 1, none⟩ = some (u654001) := bt BK653 1; have hcz43_2 : w41.cell? ⟨gb653, 2, none⟩ = some (.slice A0_2 l0_2.length c0_2) := bt BK653 2; have hfz43_0 := blk_frozen BK653.out 0; have hfz43_1 := blk_frozen BK653.out 1; have hfz43_2 := blk_frozen BK653.out 2))
          go_roundg k1
          case measure => have := HK1.out; omega
          case rel => exact ⟨(wrap64 (x30_1 + 1)), (y656), (.slice Ao42 y656.length co42), aR, H', ⟨by have := HK1.out; omega⟩, ⟨mR (by exact Kd.R_mono (Kd.R_far (p := ⟨gb653, 1, none⟩) (Kd.R_types HO_653000.out BK653.out (by decide)) (fun _ hk => hk.2) (.slice Ao42 y656.length co42)) (fun _ hk => trivial))⟩, ⟨mR (by exact Kd.R_mono (Kd.R_far (p := ⟨gb653, 1, none⟩) (Kd.R_types HO_653001.out BK653.out (by decide)) (fun _ hk => hk.2) (.slice Ao42 y656.length co42)) (fun _ hk => hk.1.2))⟩, ⟨mR (by exact Kd.R_mono (Kd.R_far (p := ⟨gb653, 1, none⟩) (Kd.R_types HO_653002.out BK653.out (by decide)) (fun _ hk => hk.2) (.slice Ao42 y656.length co42)) (fun _ hk => trivial))⟩, ⟨mR (by exact Kd.R_mono (Kd.R_far (p := ⟨gb653, 1, none⟩) (Kd.R_types HO658.out BK653.out (by decide)) (fun _ hk => hk.2) (.slice Ao42 y656.length co42)) (fun _ hk => hk.1.1))⟩, ⟨sB BK640⟩, ⟨sB BK652⟩, ⟨by (with_reducible repeat (first | refine blk_drewN ?_ _ | refine blk_drew ?_ | refine blk_alloc ?_ _)); refine blk_put (cs := #[.slice A0_0 l0_0.length c0_0, u654001, .slice A0_2 l0_2.length c0_2]) ?_ 1 _ rfl; (with_reducible repeat (first | refine blk_drewN ?_ _ | refine blk_drew ?_ | refine blk_alloc ?_ _)); exact BK653.out⟩, ⟨sW HB⟩⟩
         rw [if_neg c32] at H
         exact absurd H (by simp)
        rw [if_neg c31] at H
        have c31b0 : decide (a2 ≤ ((rd_T34 l0_1 x30_1).f3)) = false := decide_eq_false c31
        clear c31
        have H' := Aside0.mk H
        clear H
        have p654 : 0 ≤ (x30_1 : Int) := dA
        have q654 : x30_1 < (l0_1.length : Int) := dA
        obtain ⟨ad654, e654, hx654_0, hx654_1, hx654_2, hx654_3, hx654_4⟩ := at_T34 HR0_1.out x30_1 p654 q654
        cases e654
        replace hx654_0 := (HB.out.cell (World.block_lt_of_cell? w _ hx654_0)).trans hx654_0
        replace hx654_1 := (HB.out.cell (World.block_lt_of_cell? w _ hx654_1)).trans hx654_1
        replace hx654_2 := (HB.out.cell (World.block_lt_of_cell? w _ hx654_2)).trans hx654_2
        replace hx654_3 := (HB.out.cell (World.block_lt_of_cell? w _ hx654_3)).trans hx654_3
        replace hx654_4 := (HB.out.cell (World.block_lt_of_cell? w _ hx654_4)).trans hx654_4
        replace p654 := eq_true p654
        replace q654 := eq_true q654
        go_wp2_with (first | ((with_reducible refine gate_dst (N := 11) rfl ?_); refine bE (N := 11) (cs := #[.int .i64 0, .int .i64 0, .int .i64 0, .int .i64 0, .int .i64 0]) (t := 34) ?_; intro gb655 hg w44 hbox hb; replace HO_653000 := tR HO_653000 hb; replace HO_653001 := Aside0.mk (Kd.R_below (Kd.R_elderB (sR HO_653001) gb655 (Nat.le_of_eq hg.symm)) hb); replace HO_653002 := tR HO_653002 hb; replace HO_654001 := Aside0.mk (Kd.R_below (Kd.R_elderB (sR HO_654001) gb655 (Nat.le_of_eq hg.symm)) hb); have BK655 := Aside0.mk (hbox); have GW655 := gW hg HB; have GE655 := GW655; replace HB := tW HB hb; have NB640_655 := gL hg BK640; have NB655_640 := gG hg BK640; replace BK640 := tB BK640 hb; have NB652_655 := gL hg BK652; have NB655_652 := gG hg BK652; replace BK652 := tB BK652 hb; have NB653_655 := gL hg BK653; have NB655_653 := gG hg BK653; replace BK653 := tB BK653 hb; clear hb hbox hg; have hnb45 := NB655_640.out; have hnc45 := NB640_655.out; have hnb46 := NB655_652.out; have hnc46 := NB652_655.out; have hnb47 := NB655_653.out; have hnc47 := NB653_655.out; have hcz48_0 : w44.cell? ⟨gb655, 0, none⟩ = some (.int .i64 0) := bt BK655 0; have hcz48_1 : w44.cell? ⟨gb655, 1, none⟩ = some (.int .i64 0) := bt BK655 1; have hcz48_2 : w44.cell? ⟨gb655, 2, none⟩ = some (.int .i64 0) := bt BK655 2; have hcz48_3 : w44.cell? ⟨gb655, 3, none⟩ = some (.int .i64 0) := bt BK655 3; have hcz48_4 : w44.cell? ⟨gb655, 4, none⟩ = some (.int .i64 0) := bt BK655 4; have hfz48_0 := blk_frozen BK655.out 0; have hfz48_1 := blk_frozen BK655.out 1; have hfz48_2 := blk_frozen BK655.out 2; have hfz48_3 := blk_frozen BK655.out 3; have hfz48_4 := blk_frozen BK655.out 4))
        go_roundg k1
        case measure => have := HK1.out; omega
        case rel => exact ⟨(wrap64 (x30_1 + 1)), (x654001_1), (u654001), aR, H', ⟨by have := HK1.out; omega⟩, ⟨mR (by exact Kd.R_mono (Kd.R_far (p := ⟨gb655, 4, none⟩) (Kd.R_far (p := ⟨gb655, 3, none⟩) (Kd.R_far (p := ⟨gb655, 2, none⟩) (Kd.R_far (p := ⟨gb655, 1, none⟩) (Kd.R_far (p := ⟨gb655, 0, none⟩) (Kd.R_types HO_653000.out BK655.out (by decide)) (fun _ hk => hk.2) (.int .i64 ((rd_T34 l0_1 x30_1).f0.f0))) (fun _ hk => hk.2) (.int .i64 ((rd_T34 l0_1 x30_1).f0.f1))) (fun _ hk => hk.2) (.int .i64 ((rd_T34 l0_1 x30_1).f1))) (fun _ hk => hk.2) (.int .i64 ((rd_T34 l0_1 x30_1).f2))) (fun _ hk => hk.2) (.int .i64 ((rd_T34 l0_1 x30_1).f3))) (fun _ hk => trivial))⟩, ⟨mR (by exact Kd.R_mono (Kd.R_far (p := ⟨gb655, 4, none⟩) (Kd.R_far (p := ⟨gb655, 3, none⟩) (Kd.R_far (p := ⟨gb655, 2, none⟩) (Kd.R_far (p := ⟨gb655, 1, none⟩) (Kd.R_far (p := ⟨gb655, 0, none⟩) (Kd.R_mono HO_653001.out (fun k_ hk => (⟨hk, hk.2⟩ : _ ∧ k_ ≠ gb655))) (fun _ hk => hk.2) (.int .i64 ((rd_T34 l0_1 x30_1).f0.f0))) (fun _ hk => hk.2) (.int .i64 ((rd_T34 l0_1 x30_1).f0.f1))) (fun _ hk => hk.2) (.int .i64 ((rd_T34 l0_1 x30_1).f1))) (fun _ hk => hk.2) (.int .i64 ((rd_T34 l0_1 x30_1).f2))) (fun _ hk => hk.2) (.int .i64 ((rd_T34 l0_1 x30_1).f3))) (fun _ hk => hk.1.1))⟩, ⟨mR (by exact Kd.R_mono (Kd.R_far (p := ⟨gb655, 4, none⟩) (Kd.R_far (p := ⟨gb655, 3, none⟩) (Kd.R_far (p := ⟨gb655, 2, none⟩) (Kd.R_far (p := ⟨gb655, 1, none⟩) (Kd.R_far (p := ⟨gb655, 0, none⟩) (Kd.R_types HO_653002.out BK655.out (by decide)) (fun _ hk => hk.2) (.int .i64 ((rd_T34 l0_1 x30_1).f0.f0))) (fun _ hk => hk.2) (.int .i64 ((rd_T34 l0_1 x30_1).f0.f1))) (fun _ hk => hk.2) (.int .i64 ((rd_T34 l0_1 x30_1).f1))) (fun _ hk => hk.2) (.int .i64 ((rd_T34 l0_1 x30_1).f2))) (fun _ hk => hk.2) (.int .i64 ((rd_T34 l0_1 x30_1).f3))) (fun _ hk => trivial))⟩, ⟨mR (by exact Kd.R_mono (Kd.R_far (p := ⟨gb655, 4, none⟩) (Kd.R_far (p := ⟨gb655, 3, none⟩) (Kd.R_far (p := ⟨gb655, 2, none⟩) (Kd.R_far (p := ⟨gb655, 1, none⟩) (Kd.R_far (p := ⟨gb655, 0, none⟩) (Kd.R_mono HO_654001.out (fun k_ hk => (⟨hk, hk.2⟩ : _ ∧ k_ ≠ gb655))) (fun _ hk => hk.2) (.int .i64 ((rd_T34 l0_1 x30_1).f0.f0))) (fun _ hk => hk.2) (.int .i64 ((rd_T34 l0_1 x30_1).f0.f1))) (fun _ hk => hk.2) (.int .i64 ((rd_T34 l0_1 x30_1).f1))) (fun _ hk => hk.2) (.int .i64 ((rd_T34 l0_1 x30_1).f2))) (fun _ hk => hk.2) (.int .i64 ((rd_T34 l0_1 x30_1).f3))) (fun _ hk => hk.1.1))⟩, ⟨sB BK640⟩, ⟨sB BK652⟩, ⟨sB BK653⟩, ⟨sW HB⟩⟩
       rw [if_neg c30] at H
       have c30b0 : decide (a1 ≤ ((rd_T34 l0_1 x30_1).f3)) = false := decide_eq_false c30
       clear c30
       have H' := Aside0.mk H
       clear H
       have p654 : 0 ≤ (x30_1 : Int) := dA
       have q654 : x30_1 < (l0_1.length : Int) := dA
       obtain ⟨ad654, e654, hx654_0, hx654_1, hx654_2, hx654_3, hx654_4⟩ := at_T34 HR0_1.out x30_1 p654 q654
       cases e654
       replace hx654_0 := (HB.out.cell (World.block_lt_of_cell? w _ hx654_0)).trans hx654_0
       replace hx654_1 := (HB.out.cell (World.block_lt_of_cell? w _ hx654_1)).trans hx654_1
       replace hx654_2 := (HB.out.cell (World.block_lt_of_cell? w _ hx654_2)).trans hx654_2
       replace hx654_3 := (HB.out.cell (World.block_lt_of_cell? w _ hx654_3)).trans hx654_3
       replace hx654_4 := (HB.out.cell (World.block_lt_of_cell? w _ hx654_4)).trans hx654_4
       replace p654 := eq_true p654
       replace q654 := eq_true q654
       go_wp2_with (first | ((with_reducible refine gate_dst (N := 11) rfl ?_); refine bE (N := 11) (cs := #[.int .i64 0, .int .i64 0, .int .i64 0, .int .i64 0, .int .i64 0]) (t := 34) ?_; intro gb655 hg w49 hbox hb; replace HO_653000 := tR HO_653000 hb; replace HO_653001 := Aside0.mk (Kd.R_below (Kd.R_elderB (sR HO_653001) gb655 (Nat.le_of_eq hg.symm)) hb); replace HO_653002 := tR HO_653002 hb; replace HO_654001 := Aside0.mk (Kd.R_below (Kd.R_elderB (sR HO_654001) gb655 (Nat.le_of_eq hg.symm)) hb); have BK655 := Aside0.mk (hbox); have GW655 := gW hg HB; have GE655 := GW655; replace HB := tW HB hb; have NB640_655 := gL hg BK640; have NB655_640 := gG hg BK640; replace BK640 := tB BK640 hb; have NB652_655 := gL hg BK652; have NB655_652 := gG hg BK652; replace BK652 := tB BK652 hb; have NB653_655 := gL hg BK653; have NB655_653 := gG hg BK653; replace BK653 := tB BK653 hb; clear hb hbox hg; have hnb50 := NB655_640.out; have hnc50 := NB640_655.out; have hnb51 := NB655_652.out; have hnc51 := NB652_655.out; have hnb52 := NB655_653.out; have hnc52 := NB653_655.out; have hcz53_0 : w49.cell? ⟨gb655, 0, none⟩ = some (.int .i64 0) := bt BK655 0; have hcz53_1 : w49.cell? ⟨gb655, 1, none⟩ = some (.int .i64 0) := bt BK655 1; have hcz53_2 : w49.cell? ⟨gb655, 2, none⟩ = some (.int .i64 0) := bt BK655 2; have hcz53_3 : w49.cell? ⟨gb655, 3, none⟩ = some (.int .i64 0) := bt BK655 3; have hcz53_4 : w49.cell? ⟨gb655, 4, none⟩ = some (.int .i64 0) := bt BK655 4; have hfz53_0 := blk_frozen BK655.out 0; have hfz53_1 := blk_frozen BK655.out 1; have hfz53_2 := blk_frozen BK655.out 2; have hfz53_3 := blk_frozen BK655.out 3; have hfz53_4 := blk_frozen BK655.out 4))
       go_roundg k1
       case measure => have := HK1.out; omega
       case rel => exact ⟨(wrap64 (x30_1 + 1)), (x654001_1), (u654001), aR, H', ⟨by have := HK1.out; omega⟩, ⟨mR (by exact Kd.R_mono (Kd.R_far (p := ⟨gb655, 4, none⟩) (Kd.R_far (p := ⟨gb655, 3, none⟩) (Kd.R_far (p := ⟨gb655, 2, none⟩) (Kd.R_far (p := ⟨gb655, 1, none⟩) (Kd.R_far (p := ⟨gb655, 0, none⟩) (Kd.R_types HO_653000.out BK655.out (by decide)) (fun _ hk => hk.2) (.int .i64 ((rd_T34 l0_1 x30_1).f0.f0))) (fun _ hk => hk.2) (.int .i64 ((rd_T34 l0_1 x30_1).f0.f1))) (fun _ hk => hk.2) (.int .i64 ((rd_T34 l0_1 x30_1).f1))) (fun _ hk => hk.2) (.int .i64 ((rd_T34 l0_1 x30_1).f2))) (fun _ hk => hk.2) (.int .i64 ((rd_T34 l0_1 x30_1).f3))) (fun _ hk => trivial))⟩, ⟨mR (by exact Kd.R_mono (Kd.R_far (p := ⟨gb655, 4, none⟩) (Kd.R_far (p := ⟨gb655, 3, none⟩) (Kd.R_far (p := ⟨gb655, 2, none⟩) (Kd.R_far (p := ⟨gb655, 1, none⟩) (Kd.R_far (p := ⟨gb655, 0, none⟩) (Kd.R_mono HO_653001.out (fun k_ hk => (⟨hk, hk.2⟩ : _ ∧ k_ ≠ gb655))) (fun _ hk => hk.2) (.int .i64 ((rd_T34 l0_1 x30_1).f0.f0))) (fun _ hk => hk.2) (.int .i64 ((rd_T34 l0_1 x30_1).f0.f1))) (fun _ hk => hk.2) (.int .i64 ((rd_T34 l0_1 x30_1).f1))) (fun _ hk => hk.2) (.int .i64 ((rd_T34 l0_1 x30_1).f2))) (fun _ hk => hk.2) (.int .i64 ((rd_T34 l0_1 x30_1).f3))) (fun _ hk => hk.1.1))⟩, ⟨mR (by exact Kd.R_mono (Kd.R_far (p := ⟨gb655, 4, none⟩) (Kd.R_far (p := ⟨gb655, 3, none⟩) (Kd.R_far (p := ⟨gb655, 2, none⟩) (Kd.R_far (p := ⟨gb655, 1, none⟩) (Kd.R_far (p := ⟨gb655, 0, none⟩) (Kd.R_types HO_653002.out BK655.out (by decide)) (fun _ hk => hk.2) (.int .i64 ((rd_T34 l0_1 x30_1).f0.f0))) (fun _ hk => hk.2) (.int .i64 ((rd_T34 l0_1 x30_1).f0.f1))) (fun _ hk => hk.2) (.int .i64 ((rd_T34 l0_1 x30_1).f1))) (fun _ hk => hk.2) (.int .i64 ((rd_T34 l0_1 x30_1).f2))) (fun _ hk => hk.2) (.int .i64 ((rd_T34 l0_1 x30_1).f3))) (fun _ hk => trivial))⟩, ⟨mR (by exact Kd.R_mono (Kd.R_far (p := ⟨gb655, 4, none⟩) (Kd.R_far (p := ⟨gb655, 3, none⟩) (Kd.R_far (p := ⟨gb655, 2, none⟩) (Kd.R_far (p := ⟨gb655, 1, none⟩) (Kd.R_far (p := ⟨gb655, 0, none⟩) (Kd.R_mono HO_654001.out (fun k_ hk => (⟨hk, hk.2⟩ : _ ∧ k_ ≠ gb655))) (fun _ hk => hk.2) (.int .i64 ((rd_T34 l0_1 x30_1).f0.f0))) (fun _ hk => hk.2) (.int .i64 ((rd_T34 l0_1 x30_1).f0.f1))) (fun _ hk => hk.2) (.int .i64 ((rd_T34 l0_1 x30_1).f1))) (fun _ hk => hk.2) (.int .i64 ((rd_T34 l0_1 x30_1).f2))) (fun _ hk => hk.2) (.int .i64 ((rd_T34 l0_1 x30_1).f3))) (fun _ hk => hk.1.1))⟩, ⟨sB BK640⟩, ⟨sB BK652⟩, ⟨sB BK653⟩, ⟨sW HB⟩⟩
      rw [if_neg c29] at H
      exact absurd H (by simp)
     rw [if_neg c28] at H
     exact absurd H (by simp)
    rw [if_neg c27] at H
    have c27b0 : decide (x30_1 < (l0_1.length : Int)) = false := decide_eq_false c27
    clear c27
    by_cases c54 : t641 = true
    ·subst c54
     have H1 : ((cells_Expire.f l0_0 l0_1 l0_2 a1).bind fun bt659 => ((cells_Expire.f bt659.1 bt659.2.1 bt659.2.2 a2).bind fun bt668 => ((slotmeshref12_Same.f k1 bt668.1 bt668.2.1 bt668.2.2 t643 t646 t649).bind fun t677 => (if t677 = true then ((slotmeshref12_Same.f k1 t643 t646 t649 l0_0 x654001_1 l0_2).bind fun t678 => (some t678)) else (some false))))) = some r := by rw [if_pos rfl] at H; exact H
     clear H
     have H := H1
     clear H1
     replace H := Option.bind_eq_some_iff.mp H
     obtain ⟨⟨t659, t662, t665⟩, A550, H⟩ := H
     replace H : ((cells_Expire.f t659 t662 t665 a2).bind fun bt668 => ((slotmeshref12_Same.f k1 bt668.1 bt668.2.1 bt668.2.2 t643 t646 t649).bind fun t677 => (if t677 = true then ((slotmeshref12_Same.f k1 t643 t646 t649 l0_0 x654001_1 l0_2).bind fun t678 => (some t678)) else (some false)))) = some r := H
     have A55 := Aside0.mk A550
     clear A550
     replace H := Option.bind_eq_some_iff.mp H
     obtain ⟨⟨t668, t671, t674⟩, A560, H⟩ := H
     replace H : ((slotmeshref12_Same.f k1 t668 t671 t674 t643 t646 t649).bind fun t677 => (if t677 = true then ((slotmeshref12_Same.f k1 t643 t646 t649 l0_0 x654001_1 l0_2).bind fun t678 => (some t678)) else (some false))) = some r := H
     have A56 := Aside0.mk A560
     clear A560
     replace H := Option.bind_eq_some_iff.mp H
     obtain ⟨t677, A570, H⟩ := H
     replace H : (if t677 = true then ((slotmeshref12_Same.f k1 t643 t646 t649 l0_0 x654001_1 l0_2).bind fun t678 => (some t678)) else (some false)) = some r := H
     have A57 := Aside0.mk A570
     clear A570
     by_cases c58 : t677 = true
     ·subst c58
      have H1 : ((slotmeshref12_Same.f k1 t643 t646 t649 l0_0 x654001_1 l0_2).bind fun t678 => (some t678)) = some r := by rw [if_pos rfl] at H; exact H
      clear H
      have H := H1
      clear H1
      replace H := Option.bind_eq_some_iff.mp H
      obtain ⟨t678, A590, H⟩ := H
      replace H : (some t678) = some r := H
      have A59 := Aside0.mk A590
      clear A590
      obtain rfl := Option.some.inj H
      try go_wp2
      replace HO_653000 := Aside0.mk (Kd.R_drew HO_653000.out)
      replace HO_653001 := Aside0.mk (Kd.R_drew HO_653001.out)
      replace HO_653002 := Aside0.mk (Kd.R_drew HO_653002.out)
      replace HO_654001 := Aside0.mk (Kd.R_drew HO_654001.out)
      replace BK640 := Aside0.mk (blk_drew BK640.out)
      replace BK652 := Aside0.mk (blk_drew BK652.out)
      replace BK653 := Aside0.mk (blk_drew BK653.out)
      replace HB := Aside0.mk (below_drew1 HB.out)
      refine start_ (n := 16) (S := fun w' => w'.cell? ⟨gb640, 0, none⟩ = some (.slice A0_0 l0_0.length c0_0) ∧ w'.cell? ⟨gb640, 1, none⟩ = some (.slice A0_1 l0_1.length c0_1) ∧ w'.cell? ⟨gb640, 2, none⟩ = some (.slice A0_2 l0_2.length c0_2) ∧ w'.cell? ⟨gb652, 0, none⟩ = some (.slice Ao16 t643.length co16) ∧ w'.cell? ⟨gb652, 1, none⟩ = some (.slice Ao19 t646.length co19) ∧ w'.cell? ⟨gb652, 2, none⟩ = some (.slice Ao20 t649.length co20) ∧ w'.cell? ⟨gb653, 0, none⟩ = some (.slice A0_0 l0_0.length c0_0) ∧ w'.cell? ⟨gb653, 1, none⟩ = some (u654001) ∧ w'.cell? ⟨gb653, 2, none⟩ = some (.slice A0_2 l0_2.length c0_2)) (ds := []) #[false, false, false, false, false, false, false, false, false, false, false, false, false, false, false, false] (by kernel_rfl) rfl rfl ⟨bt BK640 0, bt BK640 1, bt BK640 2, bt BK652 0, bt BK652 1, bt BK652 2, bt BK653 0, bt BK653 1, bt BK653 2⟩ (fun hHeld => ?_); refine with_tabW slotmeshlaw12_CellsTime.tab12 slotmeshlaw12_CellsTime.bits12 (fun HT_ HW_ => ?_)
      generalize wr.drew = w60 at HO_653000 HO_653001 HO_653002 HO_654001 BK640 BK652 BK653 HB hHeld ⊢
      refine run_ [(0, some 51), (1, some 52), (3, some 54), (5, some 56), (2, some 53), (7, some 58)] ?_
      iterate 4 (refine runP (v := ?_) (a' := ?_) rfl rfl (any_of HT_.out (by kernel_rfl)) (fun _ _ _ h => h) (Or.inl ⟨by rfl, ?_⟩) ?_ ?_; rotate_left; (· intro w'; go_simp; with_reducible rfl); rotate_left; (· simp only [Act.put, List.setIfInBounds_toArray, List.set_cons_zero, List.set_cons_succ, i64_w, i32_w]; rfl))
      iterate 2 (refine runT (v := ?_) (a' := ?_) rfl rfl (take_ofW HT_.out HW_.out (by kernel_rfl)) (fun _ _ _ h => h) (Or.inl ⟨by rfl, ?_⟩) hHeld ?_ ?_; rotate_left; (· rintro w' ⟨s0, s1, s2, s3, s4, s5, s6, s7, s8⟩; go_simp; with_reducible rfl); rotate_left; (· simp only [Act.put, List.setIfInBounds_toArray, List.set_cons_zero, List.set_cons_succ, i64_w, i32_w]; rfl))
      refine runE ?_
      refine one_ (i := 4) (N := some 55) #[true, true, true, true, true, true, false, true, false, false, false, false, false, false, false, false] rfl rfl (one_of HT_.out (by kernel_rfl)) (by decide) (fun K hK => ?_)
      refine gO Try.func23 #[.agg #[.slice A0_0 l0_0.length c0_0, .slice A0_1 l0_1.length c0_1, .slice A0_2 l0_2.length c0_2], .int .i64 a1] ?_
      with_reducible refine (cells_Expire.calls _ _ l0_0 _ _ l0_1 _ _ l0_2 a1 t659 t662 t665 _ ?side1 ?side2 ?side3 ?side4 ?side5 ?side6 A55.out).mono ?_
      (case side1 => exact sC (Kd.C_below HR0_0.out HB.out))
      (case side2 => exact HC0_0.out)
      (case side3 => exact sC (Kd.C_below HR0_1.out HB.out))
      (case side4 => exact HC0_1.out)
      (case side5 => exact sC (Kd.C_below HR0_2.out HB.out))
      (case side6 => exact HC0_2.out)
      rintro e w61 ⟨v660, v663, v666, rfl, ho0, ho1, ho2, hb⟩
      refine ⟨_, rfl, ?_⟩
      have HO661 := nR ho0 HO_653000 HB
      replace HO_653000 := eR HO_653000 ho0 hb
      have HO664 := Aside0.mk (Kd.R_lower (Kd.R_new' (Kd.R_new' ho1 (Kd.R_lt (sR HO_653001))) (Kd.R_lt (sR HO_654001))) (below_size (sW HB)))
      replace HO_653001 := eR HO_653001 ho1 hb
      replace HO_654001 := eR HO_654001 ho1 hb
      have HO667 := nR ho2 HO_653002 HB
      replace HO_653002 := eR HO_653002 ho2 hb
      replace BK640 := tB BK640 hb
      replace BK652 := tB BK652 hb
      replace BK653 := tB BK653 hb
      replace HB := tW HB hb
      (try clear hb)
      (try clear hb2)
      (try clear hk)
      (try clear hi)
      (try clear ho0)
      (try clear ho1)
      (try clear ho2)
      obtain ⟨Ao62, co62, eo62⟩ := Kd.R_slice HO661.out
      (first | subst eo62 | (injection eo62 with f1_ f2_ f3_; have f4_ := f1_.symm; have f5_ := f3_.symm; clear f1_ f2_ f3_; subst f4_; subst f5_))
      obtain ⟨Ao63, co63, eo63⟩ := Kd.R_slice HO664.out
      (first | subst eo63 | (injection eo63 with f1_ f2_ f3_; have f4_ := f1_.symm; have f5_ := f3_.symm; clear f1_ f2_ f3_; subst f4_; subst f5_))
      obtain ⟨Ao64, co64, eo64⟩ := Kd.R_slice HO667.out
      (first | subst eo64 | (injection eo64 with f1_ f2_ f3_; have f4_ := f1_.symm; have f5_ := f3_.symm; clear f1_ f2_ f3_; subst f4_; subst f5_))
      refine hK.out _ _ ⟨bt BK640 0, bt BK640 1, bt BK640 2, bt BK652 0, bt BK652 1, bt BK652 2, bt BK653 0, bt BK653 1, bt BK653 2⟩ (fun hHeld => ?_)
      clear hK K
      refine norm_ (a' := ?_) ?_ ?_
      rotate_left
      ·show Act.put _ (some 55) _ = _
       simp only [Act.put, List.setIfInBounds_toArray, List.set_cons_zero, List.set_cons_succ, i64_w, i32_w]
       rfl
      refine one_ (i := 6) (N := some 57) #[true, true, true, true, true, true, true, true, false, false, false, false, false, false, false, false] rfl rfl (one_of HT_.out (by kernel_rfl)) (by decide) (fun K hK => ?_)
      refine gO Try.func23 #[.agg #[.slice Ao62 t659.length co62, .slice Ao63 t662.length co63, .slice Ao64 t665.length co64], .int .i64 a2] ?_
      with_reducible refine (cells_Expire.calls _ _ t659 _ _ t662 _ _ t665 a2 t668 t671 t674 _ ?side1 ?side2 ?side3 ?side4 ?side5 ?side6 A56.out).mono ?_
      (case side1 => exact sC (Kd.R_reads' HO661.out).2.2)
      (case side2 => exact (Kd.R_reads' HO661.out).2.1)
      (case side3 => exact sC (Kd.R_reads' HO664.out).2.2)
      (case side4 => exact (Kd.R_reads' HO664.out).2.1)
      (case side5 => exact sC (Kd.R_reads' HO667.out).2.2)
      (case side6 => exact (Kd.R_reads' HO667.out).2.1)
      rintro e w65 ⟨v669, v672, v675, rfl, ho0, ho1, ho2, hb⟩
      refine ⟨_, rfl, ?_⟩
      have HO670 := Aside0.mk (Kd.R_lower (Kd.R_new' (Kd.R_new' ho0 (Kd.R_lt (sR HO_653000))) (Kd.R_lt (sR HO661))) (below_size (sW HB)))
      replace HO_653000 := eR HO_653000 ho0 hb
      replace HO661 := eR HO661 ho0 hb
      have HO673 := Aside0.mk (Kd.R_lower (Kd.R_new' (Kd.R_new' (Kd.R_new' ho1 (Kd.R_lt (sR HO_653001))) (Kd.R_lt (sR HO_654001))) (Kd.R_lt (sR HO664))) (below_size (sW HB)))
      replace HO_653001 := eR HO_653001 ho1 hb
      replace HO_654001 := eR HO_654001 ho1 hb
      replace HO664 := eR HO664 ho1 hb
      have HO676 := Aside0.mk (Kd.R_lower (Kd.R_new' (Kd.R_new' ho2 (Kd.R_lt (sR HO_653002))) (Kd.R_lt (sR HO667))) (below_size (sW HB)))
      replace HO_653002 := eR HO_653002 ho2 hb
      replace HO667 := eR HO667 ho2 hb
      replace BK640 := tB BK640 hb
      replace BK652 := tB BK652 hb
      replace BK653 := tB BK653 hb
      replace HB := tW HB hb
      (try clear hb)
      (try clear hb2)
      (try clear hk)
      (try clear hi)
      (try clear ho0)
      (try clear ho1)
      (try clear ho2)
      obtain ⟨Ao66, co66, eo66⟩ := Kd.R_slice HO670.out
      (first | subst eo66 | (injection eo66 with f1_ f2_ f3_; have f4_ := f1_.symm; have f5_ := f3_.symm; clear f1_ f2_ f3_; subst f4_; subst f5_))
      obtain ⟨Ao67, co67, eo67⟩ := Kd.R_slice HO673.out
      (first | subst eo67 | (injection eo67 with f1_ f2_ f3_; have f4_ := f1_.symm; have f5_ := f3_.symm; clear f1_ f2_ f3_; subst f4_; subst f5_))
      obtain ⟨Ao68, co68, eo68⟩ := Kd.R_slice HO676.out
      (first | subst eo68 | (injection eo68 with f1_ f2_ f3_; have f4_ := f1_.symm; have f5_ := f3_.symm; clear f1_ f2_ f3_; subst f4_; subst f5_))
      refine hK.out _ _ ⟨bt BK640 0, bt BK640 1, bt BK640 2, bt BK652 0, bt BK652 1, bt BK652 2, bt BK653 0, bt BK653 1, bt BK653 2⟩ (fun hHeld => ?_)
      clear hK K
      refine norm_ (a' := ?_) ?_ ?_
      rotate_left
      ·show Act.put _ (some 57) _ = _
       simp only [Act.put, List.setIfInBounds_toArray, List.set_cons_zero, List.set_cons_succ, i64_w, i32_w]
       rfl
      refine one_ (i := 8) (N := some 59) #[true, true, true, true, true, true, true, true, true, false, false, false, false, false, false, false] rfl rfl (one_of HT_.out (by kernel_rfl)) (by decide) (fun K hK => ?_)
      refine gO Try.func16 #[.agg #[.slice Ao66 t668.length co66, .slice Ao67 t671.length co67, .slice Ao68 t674.length co68], .agg #[.slice Ao16 t643.length co16, .slice Ao19 t646.length co19, .slice Ao20 t649.length co20]] ?_
      with_reducible refine (slotmeshref12_Same.calls k1 _ _ t668 _ _ t671 _ _ t674 _ _ t643 _ _ t646 _ _ t649 true _ ?side1 ?side2 ?side3 ?side4 ?side5 ?side6 ?side7 ?side8 ?side9 ?side10 ?side11 ?side12 A57.out).mono ?_
      (case side1 => exact sC (Kd.R_reads' HO670.out).2.2)
      (case side2 => exact (Kd.R_reads' HO670.out).2.1)
      (case side3 => exact sC (Kd.R_reads' HO673.out).2.2)
      (case side4 => exact (Kd.R_reads' HO673.out).2.1)
      (case side5 => exact sC (Kd.R_reads' HO676.out).2.2)
      (case side6 => exact (Kd.R_reads' HO676.out).2.1)
      (case side7 => exact sC (Kd.R_reads' HO_653000.out).2.2)
      (case side8 => exact (Kd.R_reads' HO_653000.out).2.1)
      (case side9 => exact sC (Kd.R_reads' HO_653001.out).2.2)
      (case side10 => exact (Kd.R_reads' HO_653001.out).2.1)
      (case side11 => exact sC (Kd.R_reads' HO_653002.out).2.2)
      (case side12 => exact (Kd.R_reads' HO_653002.out).2.1)
      rintro e w69 ⟨rfl, hb⟩
      refine ⟨_, rfl, ?_⟩
      replace HO_653000 := tR HO_653000 hb
      replace HO_653001 := tR HO_653001 hb
      replace HO_653002 := tR HO_653002 hb
      replace HO_654001 := tR HO_654001 hb
      replace HO661 := tR HO661 hb
      replace HO664 := tR HO664 hb
      replace HO667 := tR HO667 hb
      replace HO670 := tR HO670 hb
      replace HO673 := tR HO673 hb
      replace HO676 := tR HO676 hb
      replace BK640 := tB BK640 hb
      replace BK652 := tB BK652 hb
      replace BK653 := tB BK653 hb
      replace HB := tW HB hb
      (try clear hb)
      (try clear hb2)
      (try clear hk)
      (try clear hi)
      obtain ⟨Ao70, co70, eo70⟩ := Kd.R_slice HO_654001.out
      (first | subst eo70 | (injection eo70 with f1_ f2_ f3_; have f4_ := f1_.symm; have f5_ := f3_.symm; clear f1_ f2_ f3_; subst f4_; subst f5_))
      refine hK.out _ _ ⟨bt BK640 0, bt BK640 1, bt BK640 2, bt BK652 0, bt BK652 1, bt BK652 2, bt BK653 0, bt BK653 1, bt BK653 2⟩ (fun hHeld => ?_)
      clear hK K
      refine norm_ (a' := ?_) ?_ ?_
      rotate_left
      ·show Act.put _ (some 59) _ = _
       simp only [Act.put, List.setIfInBounds_toArray, List.set_cons_zero, List.set_cons_succ, i64_w, i32_w]
       rfl
      refine run_ [(9, some 60), (10, some 61), (11, some 62), (12, some 63)] ?_
      iterate 2 (refine runP (v := ?_) (a' := ?_) rfl rfl (any_of HT_.out (by kernel_rfl)) (fun _ _ _ h => h) (Or.inl ⟨by rfl, ?_⟩) ?_ ?_; rotate_left; (· intro w'; go_simp; with_reducible rfl); rotate_left; (· simp only [Act.put, List.setIfInBounds_toArray, List.set_cons_zero, List.set_cons_succ, i64_w, i32_w]; rfl))
      iterate 2 (refine runT (v := ?_) (a' := ?_) rfl rfl (take_ofW HT_.out HW_.out (by kernel_rfl)) (fun _ _ _ h => h) (Or.inl ⟨by rfl, ?_⟩) hHeld ?_ ?_; rotate_left; (· rintro w' ⟨s0, s1, s2, s3, s4, s5, s6, s7, s8⟩; go_simp; with_reducible rfl); rotate_left; (· simp only [Act.put, List.setIfInBounds_toArray, List.set_cons_zero, List.set_cons_succ, i64_w, i32_w]; rfl))
      refine runE ?_
      refine one_ (i := 13) (N := some 64) #[true, true, true, true, true, true, true, true, true, true, true, true, true, true, false, false] rfl rfl (one_of HT_.out (by kernel_rfl)) (by decide) (fun K hK => ?_)
      refine gO Try.func16 #[.agg #[.slice Ao16 t643.length co16, .slice Ao19 t646.length co19, .slice Ao20 t649.length co20], .agg #[.slice A0_0 l0_0.length c0_0, .slice Ao70 x654001_1.length co70, .slice A0_2 l0_2.length c0_2]] ?_
      with_reducible refine (slotmeshref12_Same.calls k1 _ _ t643 _ _ t646 _ _ t649 _ _ l0_0 _ _ x654001_1 _ _ l0_2 t678 _ ?side1 ?side2 ?side3 ?side4 ?side5 ?side6 ?side7 ?side8 ?side9 ?side10 ?side11 ?side12 A59.out).mono ?_
      (case side1 => exact sC (Kd.R_reads' HO_653000.out).2.2)
      (case side2 => exact (Kd.R_reads' HO_653000.out).2.1)
      (case side3 => exact sC (Kd.R_reads' HO_653001.out).2.2)
      (case side4 => exact (Kd.R_reads' HO_653001.out).2.1)
      (case side5 => exact sC (Kd.R_reads' HO_653002.out).2.2)
      (case side6 => exact (Kd.R_reads' HO_653002.out).2.1)
      (case side7 => exact sC (Kd.C_below HR0_0.out HB.out))
      (case side8 => exact HC0_0.out)
      (case side9 => exact sC (Kd.R_reads' HO_654001.out).2.2)
      (case side10 => exact (Kd.R_reads' HO_654001.out).2.1)
      (case side11 => exact sC (Kd.C_below HR0_2.out HB.out))
      (case side12 => exact HC0_2.out)
      rintro e w71 ⟨rfl, hb⟩
      refine ⟨_, rfl, ?_⟩
      replace HO_653000 := tR HO_653000 hb
      replace HO_653001 := tR HO_653001 hb
      replace HO_653002 := tR HO_653002 hb
      replace HO_654001 := tR HO_654001 hb
      replace HO661 := tR HO661 hb
      replace HO664 := tR HO664 hb
      replace HO667 := tR HO667 hb
      replace HO670 := tR HO670 hb
      replace HO673 := tR HO673 hb
      replace HO676 := tR HO676 hb
      replace BK640 := tB BK640 hb
      replace BK652 := tB BK652 hb
      replace BK653 := tB BK653 hb
      replace HB := tW HB hb
      (try clear hb)
      (try clear hb2)
      (try clear hk)
      (try clear hi)
      refine hK.out _ _ ⟨bt BK640 0, bt BK640 1, bt BK640 2, bt BK652 0, bt BK652 1, bt BK652 2, bt BK653 0, bt BK653 1, bt BK653 2⟩ (fun hHeld => ?_)
      clear hK K
      refine norm_ (a' := ?_) ?_ ?_
      rotate_left
      ·show Act.put _ (some 64) _ = _
       simp only [Act.put, List.setIfInBounds_toArray, List.set_cons_zero, List.set_cons_succ, i64_w, i32_w]
       rfl
      refine run_ [(14, some 65), (15, some 6)] ?_
      iterate 2 (refine runP (v := ?_) (a' := ?_) rfl rfl (any_of HT_.out (by kernel_rfl)) (fun _ _ _ h => h) (Or.inl ⟨by rfl, ?_⟩) ?_ ?_; rotate_left; (· intro w'; go_simp; with_reducible rfl); rotate_left; (· simp only [Act.put, List.setIfInBounds_toArray, List.set_cons_zero, List.set_cons_succ, i64_w, i32_w]; rfl))
      refine runE ?_
      refine done_ (done_of HT_.out (by kernel_rfl)) ?_
      try go_wp2
      go_ret
      exact ⟨by first | rfl | (simp [errW_none, errW_some] <;> rfl) | (simp only [← hji7]; first | rfl | (simp [errW_none, errW_some] <;> rfl)) | (simp [*, errW_none, errW_some] <;> rfl), sW HB⟩
     replace c58 := Bool.eq_false_iff.mpr c58
     subst c58
     have H1 : (some false) = some r := by rw [if_neg (show ¬ (false = true) by decide)] at H; exact H
     clear H
     have H := H1
     clear H1
     exact absurd (Option.some.inj H) (by rw [HRT.out]; decide)
    replace c54 := Bool.eq_false_iff.mpr c54
    subst c54
    have H1 : (some false) = some r := by rw [if_neg (show ¬ (false = true) by decide)] at H; exact H
    clear H
    have H := H1
    clear H1
    exact absurd (Option.some.inj H) (by rw [HRT.out]; decide)
 replace c6 := Bool.eq_false_iff.mpr c6
 subst c6
 have H1 : (some t641) = some r := by rw [if_neg (show ¬ (false = true) by decide)] at H; exact H
 clear H
 have H := H1
 clear H1
 obtain rfl := Option.some.inj H
 go_enter Try.func8, Try.ntmps8
 go_wp2_with (first | ((with_reducible refine gate_dst (N := 3) rfl ?_); refine bE (N := 3) (cs := #[.slice A0_0 l0_0.length c0_0, .slice A0_1 l0_1.length c0_1, .slice A0_2 l0_2.length c0_2]) (t := 26) ?_; intro gb640 hg w72 hbox hb; have BK640 := Aside0.mk (hbox); have GW640 := gW hg HB; have GE640 := GW640; replace HB := tW HB hb; clear hb hbox hg) | ((with_reducible refine gate_callee (f := 10) rfl ?_); refine gC (some 12) Try.func10 #[] ?_; (with_reducible refine (slotmeshlaw12_head.calls  t641 _ A4.out).mono ?_); rintro e w73 ⟨rfl, hb⟩; refine ⟨_, rfl, ?_⟩; replace BK640 := tB BK640 hb; replace HB := tW HB hb; (try clear hb); (try clear hb2); (try clear hk); (try clear hi); have hcz74_0 : w73.cell? ⟨gb640, 0, none⟩ = some (.slice A0_0 l0_0.length c0_0) := bt BK640 0; have hcz74_1 : w73.cell? ⟨gb640, 1, none⟩ = some (.slice A0_1 l0_1.length c0_1) := bt BK640 1; have hcz74_2 : w73.cell? ⟨gb640, 2, none⟩ = some (.slice A0_2 l0_2.length c0_2) := bt BK640 2; have hfz74_0 := blk_frozen BK640.out 0; have hfz74_1 := blk_frozen BK640.out 1; have hfz74_2 := blk_frozen BK640.out 2) | ((with_reducible refine gate_callee (f := 11) rfl ?_); refine gC (some 14) Try.func11 #[.agg #[.slice A0_0 l0_0.length c0_0, .slice A0_1 l0_1.length c0_1, .slice A0_2 l0_2.length c0_2]] ?_; (with_reducible refine (slotmeshref12_Few.calls _ _ l0_0 _ _ l0_1 _ _ l0_2 false _ ?side1 ?side2 ?side3 ?side4 ?side5 ?side6 A5.out).mono ?_); (case side1 => exact sC (Kd.C_below HR0_0.out HB.out)); (case side2 => exact HC0_0.out); (case side3 => exact sC (Kd.C_below HR0_1.out HB.out)); (case side4 => exact HC0_1.out); (case side5 => exact sC (Kd.C_below HR0_2.out HB.out)); (case side6 => exact HC0_2.out); rintro e w75 ⟨rfl, hb⟩; refine ⟨_, rfl, ?_⟩; replace BK640 := tB BK640 hb; replace HB := tW HB hb; (try clear hb); (try clear hb2); (try clear hk); (try clear hi)))
 go_ret
 exact ⟨aE, sW HB⟩
end Go.Proofs.Ytbpfbdljcdcgnaa.Px
