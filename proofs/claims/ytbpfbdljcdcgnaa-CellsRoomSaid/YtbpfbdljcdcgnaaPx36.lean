/- Walks of functions of this seat, written by a program of this workplace out of the translation. -/
import Derived.Test.YtbpfbdljcdcgnaaPx0
import Derived.Test.YtbpfbdljcdcgnaaPx16
import Derived.Test.YtbpfbdljcdcgnaaPx20
import Derived.Test.YtbpfbdljcdcgnaaPx21
import Derived.Test.YtbpfbdljcdcgnaaPx22
import Derived.Test.YtbpfbdljcdcgnaaPx23
namespace Go.Proofs.Ytbpfbdljcdcgnaa.Px
open Go.RowKit Go.Proofs.YtbpfbdljcdcgnaaW.PrintWords Go.Proofs.YtbpfbdljcdcgnaaW.PrintLast Go.Proofs.YtbpfbdljcdcgnaaW.PrintMore
attribute [local go_sem] max2_int min2_int max_two min_two max_three min_three max_four min_four   -- for this text's walks alone
set_option linter.unusedVariables false
set_option linter.unusedSimpArgs false

/-! ### slotmeshlaw12_CellsRoom: function 9 -/
mutual
def slotmeshlaw12_CellsRoom.j0 : Nat → Int → Bool → Bool → List (S32) → List (S34) → List (S51) → Int → Int → Int → Int → Int → Int → Option (Bool)
 | 0, _, _, _, _, _, _, _, _, _, _, _, _ => none
 | k + 1, x3, x9, x42, x680000, x680001, x680002, x681000, x681001, x682000, x682001, x682002, x682003 => if x42 = true then (some x9) else ((cells_AddUse.f x680000 x680001 x680002 x681000 x681001 x682000 x682001 x682002 x682003).bind fun bt687 => (if (wrap64 ((x680000.length : Int) + (x680001.length : Int))) < 24 then (if x9 = true then (some (bt687.2.2.2 == 0)) else (some false)) else (slotmeshlaw12_CellsRoom.l0 k x3 x9 bt687.2.2.2 ([] : List (S30)) x680000 (x680000.length : Int) 0 x680000 x680001 x680002 x681000 x681001 x682000 x682001 x682002 x682003)))
def slotmeshlaw12_CellsRoom.l0 : Nat → Int → Bool → Int → List (S30) → List (S32) → Int → Int → List (S32) → List (S34) → List (S51) → Int → Int → Int → Int → Int → Int → Option (Bool)
 | 0, _, _, _, _, _, _, _, _, _, _, _, _, _, _, _, _ => none
 | k + 1, x3, x9, x12, x13, x66, x67, x68, x680000, x680001, x680002, x681000, x681001, x682000, x682001, x682002, x682003 => if x68 < x67 then (if 0 ≤ x68 then (if x68 < (x66.length : Int) then (if x13.length < 8796093022208 then (slotmeshlaw12_CellsRoom.l0 k x3 x9 x12 (x13 ++ [(⟨(rd_T32 x66 x68).f0.f0, (rd_T32 x66 x68).f0.f1⟩ : S30)]) x66 x67 (wrap64 (x68 + 1)) x680000 x680001 x680002 x681000 x681001 x682000 x682001 x682002 x682003) else (none)) else (none)) else (none)) else (slotmeshlaw12_CellsRoom.l1 k x3 x9 x12 x13 x680001 (x680001.length : Int) 0 x680000 x680001 x680002 x681000 x681001 x682000 x682001 x682002 x682003)
def slotmeshlaw12_CellsRoom.l1 : Nat → Int → Bool → Int → List (S30) → List (S34) → Int → Int → List (S32) → List (S34) → List (S51) → Int → Int → Int → Int → Int → Int → Option (Bool)
 | 0, _, _, _, _, _, _, _, _, _, _, _, _, _, _, _, _ => none
 | k + 1, x3, x9, x12, x13, x79, x80, x81, x680000, x680001, x680002, x681000, x681001, x682000, x682001, x682002, x682003 => if x81 < x80 then (if 0 ≤ x81 then (if x81 < (x79.length : Int) then (if x13.length < 8796093022208 then (slotmeshlaw12_CellsRoom.l1 k x3 x9 x12 (x13 ++ [(⟨(rd_T34 x79 x81).f0.f0, (rd_T34 x79 x81).f0.f1⟩ : S30)]) x79 x80 (wrap64 (x81 + 1)) x680000 x680001 x680002 x681000 x681001 x682000 x682001 x682002 x682003) else (none)) else (none)) else (none)) else (if (x13.length : Int) = 0 then (none) else (if 0 ≤ (Int.tmod (wrap64 (x3)) (x13.length : Int)) then (if (Int.tmod (wrap64 (x3)) (x13.length : Int)) < (x13.length : Int) then ((cells_Drop.f x680000 x680001 x680002 ((rd_T30 x13 (Int.tmod (wrap64 (x3)) (x13.length : Int))).f0) ((rd_T30 x13 (Int.tmod (wrap64 (x3)) (x13.length : Int))).f1)).bind fun bt709 => ((cells_AddUse.f bt709.1 bt709.2.1 bt709.2.2 x681000 x681001 x682000 x682001 x682002 x682003).bind fun bt718 => (if x9 = true then (if x12 = 10 then (some (bt718.2.2.2 == 0)) else (some false)) else (some false)))) else (none)) else (none)))
end
def slotmeshlaw12_CellsRoom.f (k : Nat) (l0_0 : List (S32)) (l0_1 : List (S34)) (l0_2 : List (S51)) (a1_0 : Int) (a1_1 : Int) (a2_0 : Int) (a2_1 : Int) (a2_2 : Int) (a2_3 : Int) (a3 : Int) : Option (Bool) := (slotmeshlaw12_head.f).bind fun t682 => ((slotmeshref12_Few.f l0_0 l0_1 l0_2).bind fun t683 => (if t683 = true then ((slotmeshref12_Valid.f l0_0 l0_1 l0_2 a1_0 a1_1).bind fun t684 => (if t684 = true then ((slotmeshref12_Use.f a2_0 a2_1 a2_2 a2_3 a1_0 a1_1).bind fun t685 => (if t685 = true then ((slotmeshref12_Busy.f k l0_0 l0_1 l0_2 a2_0).bind fun t686 => (slotmeshlaw12_CellsRoom.j0 k a3 t682 t686 l0_0 l0_1 l0_2 a1_0 a1_1 a2_0 a2_1 a2_2 a2_3)) else (slotmeshlaw12_CellsRoom.j0 k a3 t682 true l0_0 l0_1 l0_2 a1_0 a1_1 a2_0 a2_1 a2_2 a2_3))) else (slotmeshlaw12_CellsRoom.j0 k a3 t682 true l0_0 l0_1 l0_2 a1_0 a1_1 a2_0 a2_1 a2_2 a2_3))) else (slotmeshlaw12_CellsRoom.j0 k a3 t682 true l0_0 l0_1 l0_2 a1_0 a1_1 a2_0 a2_1 a2_2 a2_3)))
def slotmeshlaw12_CellsRoom.T19 : Bool × List (List Nat × List Nat) := (true, [([], []), ([], []), ([], []), ([2], [2]), ([], []), ([4], [4]), ([3, 5], [3, 5]), ([1, 6], [1, 6]), ([7], [7]), ([0, 8], [0, 8]), ([], []), ([], []), ([9, 10, 11, 9], [9, 10, 11]), ([12], [12]), ([13], [13]), ([13], [13]), ([], []), ([16, 14, 12, 0, 1, 2, 3, 4, 5, 6, 7, 8, 9, 10, 11, 12, 13, 14, 16], [14, 16]), ([15, 17, 0, 1, 2, 3, 4, 5, 6, 7, 8, 9, 10, 11, 12, 13, 14, 15, 16, 17], [15])])
def slotmeshlaw12_CellsRoom.B19 : List Nat := [0, 0, 0, 4, 0, 16, 60, 126, 254, 511, 0, 0, 4095, 8191, 16383, 16383, 0, 98303, 262143]
theorem slotmeshlaw12_CellsRoom.tab19 : rtab .any (opsOf Try.f9 19) = slotmeshlaw12_CellsRoom.T19 := by kernel_rfl
theorem slotmeshlaw12_CellsRoom.bits19 : waitsOk slotmeshlaw12_CellsRoom.T19.2 slotmeshlaw12_CellsRoom.B19 = true := by kernel_rfl
set_option maxHeartbeats 8000000 in
set_option maxRecDepth 100000 in
theorem slotmeshlaw12_CellsRoom.calls (k : Nat) (A0_0 : Option Addr) (c0_0 : Nat) (l0_0 : List (S32)) (A0_1 : Option Addr) (c0_1 : Nat) (l0_1 : List (S34)) (A0_2 : Option Addr) (c0_2 : Nat) (l0_2 : List (S51)) (a1_0 : Int) (a1_1 : Int) (a2_0 : Int) (a2_1 : Int) (a2_2 : Int) (a2_3 : Int) (a3 : Int) (r : Bool) (w : World) (hrt : r = true) (hr0_0 : Kd.C k32 w A0_0 l0_0.length l0_0) (hc0_0 : l0_0.length ≤ c0_0) (hr0_1 : Kd.C k34 w A0_1 l0_1.length l0_1) (hc0_1 : l0_1.length ≤ c0_1) (hr0_2 : Kd.C k51 w A0_2 l0_2.length l0_2) (hc0_2 : l0_2.length ≤ c0_2) (h : slotmeshlaw12_CellsRoom.f k l0_0 l0_1 l0_2 a1_0 a1_1 a2_0 a2_1 a2_2 a2_3 a3 = some r) :
  Calls Try.prog 9 #[.agg #[.slice A0_0 l0_0.length c0_0, .slice A0_1 l0_1.length c0_1, .slice A0_2 l0_2.length c0_2], .agg #[.int .i64 a1_0, .int .i64 a1_1], .agg #[.int .i64 a2_0, .int .i64 a2_1, .int .i64 a2_2, .int .i64 a2_3], .int .u8 a3] w fun e w' => e = .returned (.bool r) ∧ Below w.heap.size w w' := by
 have hu26 := Try.underlying26
 have hu28 := Try.underlying28
 have hu32 := Try.underlying32
 have hu30 := Try.underlying30
 have hu34 := Try.underlying34
 have HR0_0 := Aside0.mk hr0_0
 have HC0_0 := Aside0.mk hc0_0
 clear hr0_0 hc0_0
 have HR0_1 := Aside0.mk hr0_1
 have HC0_1 := Aside0.mk hc0_1
 clear hr0_1 hc0_1
 have HR0_2 := Aside0.mk hr0_2
 have HC0_2 := Aside0.mk hc0_2
 clear hr0_2 hc0_2
 have HB := Aside0.mk (Below.refl w.heap.size w)
 have HRT := Aside0.mk hrt
 clear hrt
 have H : ((slotmeshlaw12_head.f).bind fun t682 => ((slotmeshref12_Few.f l0_0 l0_1 l0_2).bind fun t683 => (if t683 = true then ((slotmeshref12_Valid.f l0_0 l0_1 l0_2 a1_0 a1_1).bind fun t684 => (if t684 = true then ((slotmeshref12_Use.f a2_0 a2_1 a2_2 a2_3 a1_0 a1_1).bind fun t685 => (if t685 = true then ((slotmeshref12_Busy.f k l0_0 l0_1 l0_2 a2_0).bind fun t686 => (slotmeshlaw12_CellsRoom.j0 k a3 t682 t686 l0_0 l0_1 l0_2 a1_0 a1_1 a2_0 a2_1 a2_2 a2_3)) else (slotmeshlaw12_CellsRoom.j0 k a3 t682 true l0_0 l0_1 l0_2 a1_0 a1_1 a2_0 a2_1 a2_2 a2_3))) else (slotmeshlaw12_CellsRoom.j0 k a3 t682 true l0_0 l0_1 l0_2 a1_0 a1_1 a2_0 a2_1 a2_2 a2_3))) else (slotmeshlaw12_CellsRoom.j0 k a3 t682 true l0_0 l0_1 l0_2 a1_0 a1_1 a2_0 a2_1 a2_2 a2_3)))) = some r := h
 clear h
 replace H := Option.bind_eq_some_iff.mp H
 obtain ⟨t682, A50, H⟩ := H
 replace H : ((slotmeshref12_Few.f l0_0 l0_1 l0_2).bind fun t683 => (if t683 = true then ((slotmeshref12_Valid.f l0_0 l0_1 l0_2 a1_0 a1_1).bind fun t684 => (if t684 = true then ((slotmeshref12_Use.f a2_0 a2_1 a2_2 a2_3 a1_0 a1_1).bind fun t685 => (if t685 = true then ((slotmeshref12_Busy.f k l0_0 l0_1 l0_2 a2_0).bind fun t686 => (slotmeshlaw12_CellsRoom.j0 k a3 t682 t686 l0_0 l0_1 l0_2 a1_0 a1_1 a2_0 a2_1 a2_2 a2_3)) else (slotmeshlaw12_CellsRoom.j0 k a3 t682 true l0_0 l0_1 l0_2 a1_0 a1_1 a2_0 a2_1 a2_2 a2_3))) else (slotmeshlaw12_CellsRoom.j0 k a3 t682 true l0_0 l0_1 l0_2 a1_0 a1_1 a2_0 a2_1 a2_2 a2_3))) else (slotmeshlaw12_CellsRoom.j0 k a3 t682 true l0_0 l0_1 l0_2 a1_0 a1_1 a2_0 a2_1 a2_2 a2_3))) = some r := H
 have A5 := Aside0.mk A50
 clear A50
 have HC6 := Aside0.mk H
 clear H
 go_enter Try.func9, Try.ntmps9
 go_upto_region 2 with (first | ((with_reducible refine gate_dst (N := 4) rfl ?_); refine bE (N := 4) (cs := #[.slice A0_0 l0_0.length c0_0, .slice A0_1 l0_1.length c0_1, .slice A0_2 l0_2.length c0_2]) (t := 26) ?_; intro gb679 hg w7 hbox hb; have BK679 := Aside0.mk (hbox); have GW679 := gW hg HB; have GE679 := GW679; replace HB := tW HB hb; clear hb hbox hg) | ((with_reducible refine gate_dst (N := 5) rfl ?_); refine bE (N := 5) (cs := #[.int .i64 a1_0, .int .i64 a1_1]) (t := 28) ?_; intro gb680 hg w8 hbox hb; have BK680 := Aside0.mk (hbox); have GW680 := gW hg HB; have GE680 := GW680; replace HB := tW HB hb; have NB679_680 := gL hg BK679; have NB680_679 := gG hg BK679; replace BK679 := tB BK679 hb; clear hb hbox hg) | ((with_reducible refine gate_dst (N := 6) rfl ?_); refine bE (N := 6) (cs := #[.int .i64 a2_0, .int .i64 a2_1, .int .i64 a2_2, .int .i64 a2_3]) (t := 32) ?_; intro gb681 hg w9 hbox hb; have BK681 := Aside0.mk (hbox); have GW681 := gW hg HB; have GE681 := GW681; replace HB := tW HB hb; have NB679_681 := gL hg BK679; have NB681_679 := gG hg BK679; replace BK679 := tB BK679 hb; have NB680_681 := gL hg BK680; have NB681_680 := gG hg BK680; replace BK680 := tB BK680 hb; clear hb hbox hg) | ((with_reducible refine gate_callee (f := 10) rfl ?_); refine gC (some 20) Try.func10 #[] ?_; (with_reducible refine (slotmeshlaw12_head.calls  t682 _ A5.out).mono ?_); rintro e w10 ⟨rfl, hb⟩; refine ⟨_, rfl, ?_⟩; replace BK679 := tB BK679 hb; replace BK680 := tB BK680 hb; replace BK681 := tB BK681 hb; replace HB := tW HB hb; (try clear hb); (try clear hb2); (try clear hk); (try clear hi)))
 (try simp only [Act.put, List.setIfInBounds_toArray, List.set_cons_zero, List.set_cons_succ])
 go_cut [42] (fun v42 wc => ∃ (kq : Nat) (x42_5 : Bool), v42 = .bool x42_5 ∧ Aside0 (slotmeshlaw12_CellsRoom.j0 kq a3 t682 x42_5 l0_0 l0_1 l0_2 a1_0 a1_1 a2_0 a2_1 a2_2 a2_3 = some r) ∧ Aside0 (kq ≤ k) ∧ Aside0 (wc.heap[gb679]? = some (.cells #[(.slice A0_0 l0_0.length c0_0), (.slice A0_1 l0_1.length c0_1), (.slice A0_2 l0_2.length c0_2)] 26 (0, 0))) ∧ Aside0 (wc.heap[gb680]? = some (.cells #[.int .i64 a1_0, .int .i64 a1_1] 28 (0, 0))) ∧ Aside0 (wc.heap[gb681]? = some (.cells #[.int .i64 a2_0, .int .i64 a2_1, .int .i64 a2_2, .int .i64 a2_3] 32 (0, 0))) ∧ Aside0 (Below w.heap.size w wc))
 case first =>
  have H := HC6.out
  clear HC6
  replace H := Option.bind_eq_some_iff.mp H
  obtain ⟨t683, A110, H⟩ := H
  replace H : (if t683 = true then ((slotmeshref12_Valid.f l0_0 l0_1 l0_2 a1_0 a1_1).bind fun t684 => (if t684 = true then ((slotmeshref12_Use.f a2_0 a2_1 a2_2 a2_3 a1_0 a1_1).bind fun t685 => (if t685 = true then ((slotmeshref12_Busy.f k l0_0 l0_1 l0_2 a2_0).bind fun t686 => (slotmeshlaw12_CellsRoom.j0 k a3 t682 t686 l0_0 l0_1 l0_2 a1_0 a1_1 a2_0 a2_1 a2_2 a2_3)) else (slotmeshlaw12_CellsRoom.j0 k a3 t682 true l0_0 l0_1 l0_2 a1_0 a1_1 a2_0 a2_1 a2_2 a2_3))) else (slotmeshlaw12_CellsRoom.j0 k a3 t682 true l0_0 l0_1 l0_2 a1_0 a1_1 a2_0 a2_1 a2_2 a2_3))) else (slotmeshlaw12_CellsRoom.j0 k a3 t682 true l0_0 l0_1 l0_2 a1_0 a1_1 a2_0 a2_1 a2_2 a2_3)) = some r := H
  have A11 := Aside0.mk A110
  clear A110
  by_cases c12 : t683 = true
  ·subst c12
   have H1 : ((slotmeshref12_Valid.f l0_0 l0_1 l0_2 a1_0 a1_1).bind fun t684 => (if t684 = true then ((slotmeshref12_Use.f a2_0 a2_1 a2_2 a2_3 a1_0 a1_1).bind fun t685 => (if t685 = true then ((slotmeshref12_Busy.f k l0_0 l0_1 l0_2 a2_0).bind fun t686 => (slotmeshlaw12_CellsRoom.j0 k a3 t682 t686 l0_0 l0_1 l0_2 a1_0 a1_1 a2_0 a2_1 a2_2 a2_3)) else (slotmeshlaw12_CellsRoom.j0 k a3 t682 true l0_0 l0_1 l0_2 a1_0 a1_1 a2_0 a2_1 a2_2 a2_3))) else (slotmeshlaw12_CellsRoom.j0 k a3 t682 true l0_0 l0_1 l0_2 a1_0 a1_1 a2_0 a2_1 a2_2 a2_3))) = some r := by rw [if_pos rfl] at H; exact H
   clear H
   have H := H1
   clear H1
   replace H := Option.bind_eq_some_iff.mp H
   obtain ⟨t684, A130, H⟩ := H
   replace H : (if t684 = true then ((slotmeshref12_Use.f a2_0 a2_1 a2_2 a2_3 a1_0 a1_1).bind fun t685 => (if t685 = true then ((slotmeshref12_Busy.f k l0_0 l0_1 l0_2 a2_0).bind fun t686 => (slotmeshlaw12_CellsRoom.j0 k a3 t682 t686 l0_0 l0_1 l0_2 a1_0 a1_1 a2_0 a2_1 a2_2 a2_3)) else (slotmeshlaw12_CellsRoom.j0 k a3 t682 true l0_0 l0_1 l0_2 a1_0 a1_1 a2_0 a2_1 a2_2 a2_3))) else (slotmeshlaw12_CellsRoom.j0 k a3 t682 true l0_0 l0_1 l0_2 a1_0 a1_1 a2_0 a2_1 a2_2 a2_3)) = some r := H
   have A13 := Aside0.mk A130
   clear A130
   by_cases c14 : t684 = true
   ·subst c14
    have H1 : ((slotmeshref12_Use.f a2_0 a2_1 a2_2 a2_3 a1_0 a1_1).bind fun t685 => (if t685 = true then ((slotmeshref12_Busy.f k l0_0 l0_1 l0_2 a2_0).bind fun t686 => (slotmeshlaw12_CellsRoom.j0 k a3 t682 t686 l0_0 l0_1 l0_2 a1_0 a1_1 a2_0 a2_1 a2_2 a2_3)) else (slotmeshlaw12_CellsRoom.j0 k a3 t682 true l0_0 l0_1 l0_2 a1_0 a1_1 a2_0 a2_1 a2_2 a2_3))) = some r := by rw [if_pos rfl] at H; exact H
    clear H
    have H := H1
    clear H1
    replace H := Option.bind_eq_some_iff.mp H
    obtain ⟨t685, A150, H⟩ := H
    replace H : (if t685 = true then ((slotmeshref12_Busy.f k l0_0 l0_1 l0_2 a2_0).bind fun t686 => (slotmeshlaw12_CellsRoom.j0 k a3 t682 t686 l0_0 l0_1 l0_2 a1_0 a1_1 a2_0 a2_1 a2_2 a2_3)) else (slotmeshlaw12_CellsRoom.j0 k a3 t682 true l0_0 l0_1 l0_2 a1_0 a1_1 a2_0 a2_1 a2_2 a2_3)) = some r := H
    have A15 := Aside0.mk A150
    clear A150
    by_cases c16 : t685 = true
    ·subst c16
     have H1 : ((slotmeshref12_Busy.f k l0_0 l0_1 l0_2 a2_0).bind fun t686 => (slotmeshlaw12_CellsRoom.j0 k a3 t682 t686 l0_0 l0_1 l0_2 a1_0 a1_1 a2_0 a2_1 a2_2 a2_3)) = some r := by rw [if_pos rfl] at H; exact H
     clear H
     have H := H1
     clear H1
     replace H := Option.bind_eq_some_iff.mp H
     obtain ⟨t686, A170, H⟩ := H
     replace H : (slotmeshlaw12_CellsRoom.j0 k a3 t682 t686 l0_0 l0_1 l0_2 a1_0 a1_1 a2_0 a2_1 a2_2 a2_3) = some r := H
     have A17 := Aside0.mk A170
     clear A170
     have H' := Aside0.mk H
     clear H
     have hnb18 := NB679_680.out
     have hnc18 := NB680_679.out
     have hnb19 := NB679_681.out
     have hnc19 := NB681_679.out
     have hcz20_0 : w10.cell? ⟨gb679, 0, none⟩ = some (.slice A0_0 l0_0.length c0_0) := bt BK679 0
     have hcz20_1 : w10.cell? ⟨gb679, 1, none⟩ = some (.slice A0_1 l0_1.length c0_1) := bt BK679 1
     have hcz20_2 : w10.cell? ⟨gb679, 2, none⟩ = some (.slice A0_2 l0_2.length c0_2) := bt BK679 2
     have hfz20_0 := blk_frozen BK679.out 0
     have hfz20_1 := blk_frozen BK679.out 1
     have hfz20_2 := blk_frozen BK679.out 2
     go_wp2_with (first | ((with_reducible refine gate_callee (f := 11) rfl ?_); refine gC (some 22) Try.func11 #[.agg #[.slice A0_0 l0_0.length c0_0, .slice A0_1 l0_1.length c0_1, .slice A0_2 l0_2.length c0_2]] ?_; (with_reducible refine (slotmeshref12_Few.calls _ _ l0_0 _ _ l0_1 _ _ l0_2 true _ ?side1 ?side2 ?side3 ?side4 ?side5 ?side6 A11.out).mono ?_); (case side1 => exact sC (Kd.C_below HR0_0.out HB.out)); (case side2 => exact HC0_0.out); (case side3 => exact sC (Kd.C_below HR0_1.out HB.out)); (case side4 => exact HC0_1.out); (case side5 => exact sC (Kd.C_below HR0_2.out HB.out)); (case side6 => exact HC0_2.out); rintro e w21 ⟨rfl, hb⟩; refine ⟨_, rfl, ?_⟩; replace BK679 := tB BK679 hb; replace BK680 := tB BK680 hb; replace BK681 := tB BK681 hb; replace HB := tW HB hb; (try clear hb); (try clear hb2); (try clear hk); (try clear hi); have hcz22_0 : w21.cell? ⟨gb679, 0, none⟩ = some (.slice A0_0 l0_0.length c0_0) := bt BK679 0; have hcz22_1 : w21.cell? ⟨gb679, 1, none⟩ = some (.slice A0_1 l0_1.length c0_1) := bt BK679 1; have hcz22_2 : w21.cell? ⟨gb679, 2, none⟩ = some (.slice A0_2 l0_2.length c0_2) := bt BK679 2; have hfz22_0 := blk_frozen BK679.out 0; have hfz22_1 := blk_frozen BK679.out 1; have hfz22_2 := blk_frozen BK679.out 2; have hnb23 := NB680_681.out; have hnc23 := NB681_680.out; have hcz24_0 : w21.cell? ⟨gb680, 0, none⟩ = some (.int .i64 a1_0) := bt BK680 0; have hcz24_1 : w21.cell? ⟨gb680, 1, none⟩ = some (.int .i64 a1_1) := bt BK680 1; have hfz24_0 := blk_frozen BK680.out 0; have hfz24_1 := blk_frozen BK680.out 1) | (go_at_call 18; (with_reducible refine (slotmeshref12_Valid.calls _ _ l0_0 _ _ l0_1 _ _ l0_2 a1_0 a1_1 true _ ?side1 ?side2 ?side3 ?side4 ?side5 ?side6 A13.out).mono ?_); (case side1 => exact sC (Kd.C_below HR0_0.out HB.out)); (case side2 => exact HC0_0.out); (case side3 => exact sC (Kd.C_below HR0_1.out HB.out)); (case side4 => exact HC0_1.out); (case side5 => exact sC (Kd.C_below HR0_2.out HB.out)); (case side6 => exact HC0_2.out); rintro e w25 ⟨rfl, hb⟩; replace BK679 := tB BK679 hb; replace BK680 := tB BK680 hb; replace BK681 := tB BK681 hb; replace HB := tW HB hb; (try clear hb); (try clear hb2); (try clear hk); (try clear hi); have hcz26_0 : w25.cell? ⟨gb681, 0, none⟩ = some (.int .i64 a2_0) := bt BK681 0; have hcz26_1 : w25.cell? ⟨gb681, 1, none⟩ = some (.int .i64 a2_1) := bt BK681 1; have hcz26_2 : w25.cell? ⟨gb681, 2, none⟩ = some (.int .i64 a2_2) := bt BK681 2; have hcz26_3 : w25.cell? ⟨gb681, 3, none⟩ = some (.int .i64 a2_3) := bt BK681 3; have hfz26_0 := blk_frozen BK681.out 0; have hfz26_1 := blk_frozen BK681.out 1; have hfz26_2 := blk_frozen BK681.out 2; have hfz26_3 := blk_frozen BK681.out 3; have hcz27_0 : w25.cell? ⟨gb680, 0, none⟩ = some (.int .i64 a1_0) := bt BK680 0; have hcz27_1 : w25.cell? ⟨gb680, 1, none⟩ = some (.int .i64 a1_1) := bt BK680 1; have hfz27_0 := blk_frozen BK680.out 0; have hfz27_1 := blk_frozen BK680.out 1) | (go_at_call 26; (with_reducible refine (slotmeshref12_Use.calls a2_0 a2_1 a2_2 a2_3 a1_0 a1_1 true _ A15.out).mono ?_); rintro e w28 ⟨rfl, hb⟩; replace BK679 := tB BK679 hb; replace BK680 := tB BK680 hb; replace BK681 := tB BK681 hb; replace HB := tW HB hb; (try clear hb); (try clear hb2); (try clear hk); (try clear hi); have hcz29_0 : w28.cell? ⟨gb679, 0, none⟩ = some (.slice A0_0 l0_0.length c0_0) := bt BK679 0; have hcz29_1 : w28.cell? ⟨gb679, 1, none⟩ = some (.slice A0_1 l0_1.length c0_1) := bt BK679 1; have hcz29_2 : w28.cell? ⟨gb679, 2, none⟩ = some (.slice A0_2 l0_2.length c0_2) := bt BK679 2; have hfz29_0 := blk_frozen BK679.out 0; have hfz29_1 := blk_frozen BK679.out 1; have hfz29_2 := blk_frozen BK679.out 2; have hcz30_0 : w28.cell? ⟨gb681, 0, none⟩ = some (.int .i64 a2_0) := bt BK681 0; have hcz30_1 : w28.cell? ⟨gb681, 1, none⟩ = some (.int .i64 a2_1) := bt BK681 1; have hcz30_2 : w28.cell? ⟨gb681, 2, none⟩ = some (.int .i64 a2_2) := bt BK681 2; have hcz30_3 : w28.cell? ⟨gb681, 3, none⟩ = some (.int .i64 a2_3) := bt BK681 3; have hfz30_0 := blk_frozen BK681.out 0; have hfz30_1 := blk_frozen BK681.out 1; have hfz30_2 := blk_frozen BK681.out 2; have hfz30_3 := blk_frozen BK681.out 3) | (go_at_call 20; (with_reducible refine (slotmeshref12_Busy.calls k _ _ l0_0 _ _ l0_1 _ _ l0_2 a2_0 t686 _ ?side1 ?side2 ?side3 ?side4 ?side5 ?side6 A17.out).mono ?_); (case side1 => exact sC (Kd.C_below HR0_0.out HB.out)); (case side2 => exact HC0_0.out); (case side3 => exact sC (Kd.C_below HR0_1.out HB.out)); (case side4 => exact HC0_1.out); (case side5 => exact sC (Kd.C_below HR0_2.out HB.out)); (case side6 => exact HC0_2.out); rintro e w31 ⟨rfl, hb⟩; replace BK679 := tB BK679 hb; replace BK680 := tB BK680 hb; replace BK681 := tB BK681 hb; replace HB := tW HB hb; (try clear hb); (try clear hb2); (try clear hk); (try clear hi)))
     go_meet
     case rel => exact ⟨_, (t686), aR, H', ⟨by first | omega | exact Nat.le_refl _⟩, ⟨sB BK679⟩, ⟨sB BK680⟩, ⟨sB BK681⟩, ⟨sW HB⟩⟩
    replace c16 := Bool.eq_false_iff.mpr c16
    subst c16
    have H1 : (slotmeshlaw12_CellsRoom.j0 k a3 t682 true l0_0 l0_1 l0_2 a1_0 a1_1 a2_0 a2_1 a2_2 a2_3) = some r := by rw [if_neg (show ¬ (false = true) by decide)] at H; exact H
    clear H
    have H := H1
    clear H1
    have H' := Aside0.mk H
    clear H
    have hnb32 := NB679_680.out
    have hnc32 := NB680_679.out
    have hnb33 := NB679_681.out
    have hnc33 := NB681_679.out
    have hcz34_0 : w10.cell? ⟨gb679, 0, none⟩ = some (.slice A0_0 l0_0.length c0_0) := bt BK679 0
    have hcz34_1 : w10.cell? ⟨gb679, 1, none⟩ = some (.slice A0_1 l0_1.length c0_1) := bt BK679 1
    have hcz34_2 : w10.cell? ⟨gb679, 2, none⟩ = some (.slice A0_2 l0_2.length c0_2) := bt BK679 2
    have hfz34_0 := blk_frozen BK679.out 0
    have hfz34_1 := blk_frozen BK679.out 1
    have hfz34_2 := blk_frozen BK679.out 2
    go_wp2_with (first | ((with_reducible refine gate_callee (f := 11) rfl ?_); refine gC (some 22) Try.func11 #[.agg #[.slice A0_0 l0_0.length c0_0, .slice A0_1 l0_1.length c0_1, .slice A0_2 l0_2.length c0_2]] ?_; (with_reducible refine (slotmeshref12_Few.calls _ _ l0_0 _ _ l0_1 _ _ l0_2 true _ ?side1 ?side2 ?side3 ?side4 ?side5 ?side6 A11.out).mono ?_); (case side1 => exact sC (Kd.C_below HR0_0.out HB.out)); (case side2 => exact HC0_0.out); (case side3 => exact sC (Kd.C_below HR0_1.out HB.out)); (case side4 => exact HC0_1.out); (case side5 => exact sC (Kd.C_below HR0_2.out HB.out)); (case side6 => exact HC0_2.out); rintro e w35 ⟨rfl, hb⟩; refine ⟨_, rfl, ?_⟩; replace BK679 := tB BK679 hb; replace BK680 := tB BK680 hb; replace BK681 := tB BK681 hb; replace HB := tW HB hb; (try clear hb); (try clear hb2); (try clear hk); (try clear hi); have hcz36_0 : w35.cell? ⟨gb679, 0, none⟩ = some (.slice A0_0 l0_0.length c0_0) := bt BK679 0; have hcz36_1 : w35.cell? ⟨gb679, 1, none⟩ = some (.slice A0_1 l0_1.length c0_1) := bt BK679 1; have hcz36_2 : w35.cell? ⟨gb679, 2, none⟩ = some (.slice A0_2 l0_2.length c0_2) := bt BK679 2; have hfz36_0 := blk_frozen BK679.out 0; have hfz36_1 := blk_frozen BK679.out 1; have hfz36_2 := blk_frozen BK679.out 2; have hnb37 := NB680_681.out; have hnc37 := NB681_680.out; have hcz38_0 : w35.cell? ⟨gb680, 0, none⟩ = some (.int .i64 a1_0) := bt BK680 0; have hcz38_1 : w35.cell? ⟨gb680, 1, none⟩ = some (.int .i64 a1_1) := bt BK680 1; have hfz38_0 := blk_frozen BK680.out 0; have hfz38_1 := blk_frozen BK680.out 1) | (go_at_call 18; (with_reducible refine (slotmeshref12_Valid.calls _ _ l0_0 _ _ l0_1 _ _ l0_2 a1_0 a1_1 true _ ?side1 ?side2 ?side3 ?side4 ?side5 ?side6 A13.out).mono ?_); (case side1 => exact sC (Kd.C_below HR0_0.out HB.out)); (case side2 => exact HC0_0.out); (case side3 => exact sC (Kd.C_below HR0_1.out HB.out)); (case side4 => exact HC0_1.out); (case side5 => exact sC (Kd.C_below HR0_2.out HB.out)); (case side6 => exact HC0_2.out); rintro e w39 ⟨rfl, hb⟩; replace BK679 := tB BK679 hb; replace BK680 := tB BK680 hb; replace BK681 := tB BK681 hb; replace HB := tW HB hb; (try clear hb); (try clear hb2); (try clear hk); (try clear hi); have hcz40_0 : w39.cell? ⟨gb681, 0, none⟩ = some (.int .i64 a2_0) := bt BK681 0; have hcz40_1 : w39.cell? ⟨gb681, 1, none⟩ = some (.int .i64 a2_1) := bt BK681 1; have hcz40_2 : w39.cell? ⟨gb681, 2, none⟩ = some (.int .i64 a2_2) := bt BK681 2; have hcz40_3 : w39.cell? ⟨gb681, 3, none⟩ = some (.int .i64 a2_3) := bt BK681 3; have hfz40_0 := blk_frozen BK681.out 0; have hfz40_1 := blk_frozen BK681.out 1; have hfz40_2 := blk_frozen BK681.out 2; have hfz40_3 := blk_frozen BK681.out 3; have hcz41_0 : w39.cell? ⟨gb680, 0, none⟩ = some (.int .i64 a1_0) := bt BK680 0; have hcz41_1 : w39.cell? ⟨gb680, 1, none⟩ = some (.int .i64 a1_1) := bt BK680 1; have hfz41_0 := blk_frozen BK680.out 0; have hfz41_1 := blk_frozen BK680.out 1) | (go_at_call 26; (with_reducible refine (slotmeshref12_Use.calls a2_0 a2_1 a2_2 a2_3 a1_0 a1_1 false _ A15.out).mono ?_); rintro e w42 ⟨rfl, hb⟩; replace BK679 := tB BK679 hb; replace BK680 := tB BK680 hb; replace BK681 := tB BK681 hb; replace HB := tW HB hb; (try clear hb); (try clear hb2); (try clear hk); (try clear hi)))
    go_meet
    case rel => exact ⟨_, (true), aR, H', ⟨by first | omega | exact Nat.le_refl _⟩, ⟨sB BK679⟩, ⟨sB BK680⟩, ⟨sB BK681⟩, ⟨sW HB⟩⟩
   replace c14 := Bool.eq_false_iff.mpr c14
   subst c14
   have H1 : (slotmeshlaw12_CellsRoom.j0 k a3 t682 true l0_0 l0_1 l0_2 a1_0 a1_1 a2_0 a2_1 a2_2 a2_3) = some r := by rw [if_neg (show ¬ (false = true) by decide)] at H; exact H
   clear H
   have H := H1
   clear H1
   have H' := Aside0.mk H
   clear H
   have hnb43 := NB679_680.out
   have hnc43 := NB680_679.out
   have hnb44 := NB679_681.out
   have hnc44 := NB681_679.out
   have hcz45_0 : w10.cell? ⟨gb679, 0, none⟩ = some (.slice A0_0 l0_0.length c0_0) := bt BK679 0
   have hcz45_1 : w10.cell? ⟨gb679, 1, none⟩ = some (.slice A0_1 l0_1.length c0_1) := bt BK679 1
   have hcz45_2 : w10.cell? ⟨gb679, 2, none⟩ = some (.slice A0_2 l0_2.length c0_2) := bt BK679 2
   have hfz45_0 := blk_frozen BK679.out 0
   have hfz45_1 := blk_frozen BK679.out 1
   have hfz45_2 := blk_frozen BK679.out 2
   go_wp2_with (first | ((with_reducible refine gate_callee (f := 11) rfl ?_); refine gC (some 22) Try.func11 #[.agg #[.slice A0_0 l0_0.length c0_0, .slice A0_1 l0_1.length c0_1, .slice A0_2 l0_2.length c0_2]] ?_; (with_reducible refine (slotmeshref12_Few.calls _ _ l0_0 _ _ l0_1 _ _ l0_2 true _ ?side1 ?side2 ?side3 ?side4 ?side5 ?side6 A11.out).mono ?_); (case side1 => exact sC (Kd.C_below HR0_0.out HB.out)); (case side2 => exact HC0_0.out); (case side3 => exact sC (Kd.C_below HR0_1.out HB.out)); (case side4 => exact HC0_1.out); (case side5 => exact sC (Kd.C_below HR0_2.out HB.out)); (case side6 => exact HC0_2.out); rintro e w46 ⟨rfl, hb⟩; refine ⟨_, rfl, ?_⟩; replace BK679 := tB BK679 hb; replace BK680 := tB BK680 hb; replace BK681 := tB BK681 hb; replace HB := tW HB hb; (try clear hb); (try clear hb2); (try clear hk); (try clear hi); have hcz47_0 : w46.cell? ⟨gb679, 0, none⟩ = some (.slice A0_0 l0_0.length c0_0) := bt BK679 0; have hcz47_1 : w46.cell? ⟨gb679, 1, none⟩ = some (.slice A0_1 l0_1.length c0_1) := bt BK679 1; have hcz47_2 : w46.cell? ⟨gb679, 2, none⟩ = some (.slice A0_2 l0_2.length c0_2) := bt BK679 2; have hfz47_0 := blk_frozen BK679.out 0; have hfz47_1 := blk_frozen BK679.out 1; have hfz47_2 := blk_frozen BK679.out 2; have hnb48 := NB680_681.out; have hnc48 := NB681_680.out; have hcz49_0 : w46.cell? ⟨gb680, 0, none⟩ = some (.int .i64 a1_0) := bt BK680 0; have hcz49_1 : w46.cell? ⟨gb680, 1, none⟩ = some (.int .i64 a1_1) := bt BK680 1; have hfz49_0 := blk_frozen BK680.out 0; have hfz49_1 := blk_frozen BK680.out 1) | (go_at_call 18; (with_reducible refine (slotmeshref12_Valid.calls _ _ l0_0 _ _ l0_1 _ _ l0_2 a1_0 a1_1 false _ ?side1 ?side2 ?side3 ?side4 ?side5 ?side6 A13.out).mono ?_); (case side1 => exact sC (Kd.C_below HR0_0.out HB.out)); (case side2 => exact HC0_0.out); (case side3 => exact sC (Kd.C_below HR0_1.out HB.out)); (case side4 => exact HC0_1.out); (case side5 => exact sC (Kd.C_below HR0_2.out HB.out)); (case side6 => exact HC0_2.out); rintro e w50 ⟨rfl, hb⟩; replace BK679 := tB BK679 hb; replace BK680 := tB BK680 hb; replace BK681 := tB BK681 hb; replace HB := tW HB hb; (try clear hb); (try clear hb2); (try clear hk); (try clear hi)))
   go_meet
   case rel => exact ⟨_, (true), aR, H', ⟨by first | omega | exact Nat.le_refl _⟩, ⟨sB BK679⟩, ⟨sB BK680⟩, ⟨sB BK681⟩, ⟨sW HB⟩⟩
  replace c12 := Bool.eq_false_iff.mpr c12
  subst c12
  have H1 : (slotmeshlaw12_CellsRoom.j0 k a3 t682 true l0_0 l0_1 l0_2 a1_0 a1_1 a2_0 a2_1 a2_2 a2_3) = some r := by rw [if_neg (show ¬ (false = true) by decide)] at H; exact H
  clear H
  have H := H1
  clear H1
  have H' := Aside0.mk H
  clear H
  have hnb51 := NB679_680.out
  have hnc51 := NB680_679.out
  have hnb52 := NB679_681.out
  have hnc52 := NB681_679.out
  have hcz53_0 : w10.cell? ⟨gb679, 0, none⟩ = some (.slice A0_0 l0_0.length c0_0) := bt BK679 0
  have hcz53_1 : w10.cell? ⟨gb679, 1, none⟩ = some (.slice A0_1 l0_1.length c0_1) := bt BK679 1
  have hcz53_2 : w10.cell? ⟨gb679, 2, none⟩ = some (.slice A0_2 l0_2.length c0_2) := bt BK679 2
  have hfz53_0 := blk_frozen BK679.out 0
  have hfz53_1 := blk_frozen BK679.out 1
  have hfz53_2 := blk_frozen BK679.out 2
  go_wp2_with (first | ((with_reducible refine gate_callee (f := 11) rfl ?_); refine gC (some 22) Try.func11 #[.agg #[.slice A0_0 l0_0.length c0_0, .slice A0_1 l0_1.length c0_1, .slice A0_2 l0_2.length c0_2]] ?_; (with_reducible refine (slotmeshref12_Few.calls _ _ l0_0 _ _ l0_1 _ _ l0_2 false _ ?side1 ?side2 ?side3 ?side4 ?side5 ?side6 A11.out).mono ?_); (case side1 => exact sC (Kd.C_below HR0_0.out HB.out)); (case side2 => exact HC0_0.out); (case side3 => exact sC (Kd.C_below HR0_1.out HB.out)); (case side4 => exact HC0_1.out); (case side5 => exact sC (Kd.C_below HR0_2.out HB.out)); (case side6 => exact HC0_2.out); rintro e w54 ⟨rfl, hb⟩; refine ⟨_, rfl, ?_⟩; replace BK679 := tB BK679 hb; replace BK680 := tB BK680 hb; replace BK681 := tB BK681 hb; replace HB := tW HB hb; (try clear hb); (try clear hb2); (try clear hk); (try clear hi)))
  go_meet
  case rel => exact ⟨_, (true), aR, H', ⟨by first | omega | exact Nat.le_refl _⟩, ⟨sB BK679⟩, ⟨sB BK680⟩, ⟨sB BK681⟩, ⟨sW HB⟩⟩
 case rest =>
  clear HC6
  try clear c1
  try clear c2
  try clear p2
  try clear c3
  try clear c4
  try clear c5
  try clear c9
  try clear c10
  try clear c11
  try clear c12
  try clear c14
  try clear c16
  try clear c18
  try clear c19
  try clear c23
  try clear c32
  try clear c33
  try clear c37
  try clear c43
  try clear c44
  try clear c48
  try clear c51
  try clear c52
  try clear hcz20_0 hcz20_1 hcz20_2 hfz20_0 hfz20_1 hfz20_2
  try clear hcz22_0 hcz22_1 hcz22_2 hfz22_0 hfz22_1 hfz22_2
  try clear hcz24_0 hcz24_1 hfz24_0 hfz24_1
  try clear hcz26_0 hcz26_1 hcz26_2 hcz26_3 hfz26_0 hfz26_1 hfz26_2 hfz26_3
  try clear hcz27_0 hcz27_1 hfz27_0 hfz27_1
  try clear hcz29_0 hcz29_1 hcz29_2 hfz29_0 hfz29_1 hfz29_2
  try clear hcz30_0 hcz30_1 hcz30_2 hcz30_3 hfz30_0 hfz30_1 hfz30_2 hfz30_3
  try clear hcz34_0 hcz34_1 hcz34_2 hfz34_0 hfz34_1 hfz34_2
  try clear hcz36_0 hcz36_1 hcz36_2 hfz36_0 hfz36_1 hfz36_2
  try clear hcz38_0 hcz38_1 hfz38_0 hfz38_1
  try clear hcz40_0 hcz40_1 hcz40_2 hcz40_3 hfz40_0 hfz40_1 hfz40_2 hfz40_3
  try clear hcz41_0 hcz41_1 hfz41_0 hfz41_1
  try clear hcz45_0 hcz45_1 hcz45_2 hfz45_0 hfz45_1 hfz45_2
  try clear hcz47_0 hcz47_1 hcz47_2 hfz47_0 hfz47_1 hfz47_2
  try clear hcz49_0 hcz49_1 hfz49_0 hfz49_1
  try clear hcz53_0 hcz53_1 hcz53_2 hfz53_0 hfz53_1 hfz53_2
  obtain ⟨kq, x42_5, rfl, HA, HJ5, BK679, BK680, BK681, HB⟩ := hcut
  cases kq with
  | zero => exact absurd HA.out (by simp [slotmeshlaw12_CellsRoom.j0])
  | succ kj5 =>
   have H := HA.out
   clear HA
   simp only [slotmeshlaw12_CellsRoom.j0] at H
   by_cases c55 : x42_5 = true
   ·subst c55
    have H1 : (some t682) = some r := by rw [if_pos rfl] at H; exact H
    clear H
    have H := H1
    clear H1
    obtain rfl := Option.some.inj H
    go_wp2
    go_ret
    exact ⟨aE, sW HB⟩
   replace c55 := Bool.eq_false_iff.mpr c55
   subst c55
   have H1 : ((cells_AddUse.f l0_0 l0_1 l0_2 a1_0 a1_1 a2_0 a2_1 a2_2 a2_3).bind fun bt687 => (if (wrap64 ((l0_0.length : Int) + (l0_1.length : Int))) < 24 then (if t682 = true then (some (bt687.2.2.2 == 0)) else (some false)) else (slotmeshlaw12_CellsRoom.l0 kj5 a3 t682 bt687.2.2.2 ([] : List (S30)) l0_0 (l0_0.length : Int) 0 l0_0 l0_1 l0_2 a1_0 a1_1 a2_0 a2_1 a2_2 a2_3))) = some r := by rw [if_neg (show ¬ (false = true) by decide)] at H; exact H
   clear H
   have H := H1
   clear H1
   replace H := Option.bind_eq_some_iff.mp H
   obtain ⟨⟨t687, t690, t693, t696⟩, A560, H⟩ := H
   replace H : (if (wrap64 ((l0_0.length : Int) + (l0_1.length : Int))) < 24 then (if t682 = true then (some (t696 == 0)) else (some false)) else (slotmeshlaw12_CellsRoom.l0 kj5 a3 t682 t696 ([] : List (S30)) l0_0 (l0_0.length : Int) 0 l0_0 l0_1 l0_2 a1_0 a1_1 a2_0 a2_1 a2_2 a2_3)) = some r := H
   have A56 := Aside0.mk A560
   clear A560
   by_cases c57 : (wrap64 ((l0_0.length : Int) + (l0_1.length : Int))) < 24
   ·rw [if_pos c57] at H
    have c57b0 : decide ((wrap64 ((l0_0.length : Int) + (l0_1.length : Int))) < 24) = true := decide_eq_true c57
    clear c57
    by_cases c58 : t682 = true
    ·subst c58
     have H1 : (some (t696 == 0)) = some r := by rw [if_pos rfl] at H; exact H
     clear H
     have H := H1
     clear H1
     obtain rfl := Option.some.inj H
     have hnb59 := NB679_680.out
     have hnc59 := NB680_679.out
     have hnb60 := NB679_681.out
     have hnc60 := NB681_679.out
     have hcz61_0 : wc.cell? ⟨gb679, 0, none⟩ = some (.slice A0_0 l0_0.length c0_0) := bt BK679 0
     have hcz61_1 : wc.cell? ⟨gb679, 1, none⟩ = some (.slice A0_1 l0_1.length c0_1) := bt BK679 1
     have hcz61_2 : wc.cell? ⟨gb679, 2, none⟩ = some (.slice A0_2 l0_2.length c0_2) := bt BK679 2
     have hfz61_0 := blk_frozen BK679.out 0
     have hfz61_1 := blk_frozen BK679.out 1
     have hfz61_2 := blk_frozen BK679.out 2
     have hnb62 := NB680_681.out
     have hnc62 := NB681_680.out
     have hcz63_0 : wc.cell? ⟨gb680, 0, none⟩ = some (.int .i64 a1_0) := bt BK680 0
     have hcz63_1 : wc.cell? ⟨gb680, 1, none⟩ = some (.int .i64 a1_1) := bt BK680 1
     have hfz63_0 := blk_frozen BK680.out 0
     have hfz63_1 := blk_frozen BK680.out 1
     have hcz64_0 : wc.cell? ⟨gb681, 0, none⟩ = some (.int .i64 a2_0) := bt BK681 0
     have hcz64_1 : wc.cell? ⟨gb681, 1, none⟩ = some (.int .i64 a2_1) := bt BK681 1
     have hcz64_2 : wc.cell? ⟨gb681, 2, none⟩ = some (.int .i64 a2_2) := bt BK681 2
     have hcz64_3 : wc.cell? ⟨gb681, 3, none⟩ = some (.int .i64 a2_3) := bt BK681 3
     have hfz64_0 := blk_frozen BK681.out 0
     have hfz64_1 := blk_frozen BK681.out 1
     have hfz64_2 := blk_frozen BK681.out 2
     have hfz64_3 := blk_frozen BK681.out 3
     go_wp2_with (first | ((with_reducible refine gate_callee (f := 12) rfl ?_); refine gC (some 55) Try.func12 #[.agg #[.slice A0_0 l0_0.length c0_0, .slice A0_1 l0_1.length c0_1, .slice A0_2 l0_2.length c0_2], .agg #[.int .i64 a1_0, .int .i64 a1_1], .agg #[.int .i64 a2_0, .int .i64 a2_1, .int .i64 a2_2, .int .i64 a2_3]] ?_; (with_reducible refine (cells_AddUse.calls _ _ l0_0 _ _ l0_1 _ _ l0_2 a1_0 a1_1 a2_0 a2_1 a2_2 a2_3 t687 t690 t693 t696 _ ?side1 ?side2 ?side3 ?side4 ?side5 ?side6 A56.out).mono ?_); (case side1 => exact sC (Kd.C_below HR0_0.out HB.out)); (case side2 => exact HC0_0.out); (case side3 => exact sC (Kd.C_below HR0_1.out HB.out)); (case side4 => exact HC0_1.out); (case side5 => exact sC (Kd.C_below HR0_2.out HB.out)); (case side6 => exact HC0_2.out); rintro e w65 ⟨v688, v691, v694, rfl, ho0, ho1, ho2, hb⟩; refine ⟨_, rfl, ?_⟩; have HO689 := Aside0.mk (Kd.R_lower (Kd.R_newB ho0 (g := gb681) (o := .cells #[.int .i64 a2_0, .int .i64 a2_1, .int .i64 a2_2, .int .i64 a2_3] 32 (0, 0)) (sB BK681)) (below_size (sW HB))); have HO692 := Aside0.mk (Kd.R_lower ho1 (below_size (sW HB))); have HO695 := Aside0.mk (Kd.R_lower ho2 (below_size (sW HB))); replace BK679 := tB BK679 hb; replace BK680 := tB BK680 hb; replace BK681 := tB BK681 hb; replace HB := tW HB hb; (try clear hb); (try clear hb2); (try clear hk); (try clear hi); (try clear ho0); (try clear ho1); (try clear ho2)) | ((with_reducible refine gate_dst (N := 11) rfl ?_); refine bE (N := 11) (cs := #[.slice none 0 0, .slice none 0 0, .slice none 0 0]) (t := 26) ?_; intro gb697 hg w66 hbox hb; replace HO689 := tR HO689 hb; replace HO692 := tR HO692 hb; replace HO695 := tR HO695 hb; have BK697 := Aside0.mk (hbox); have GW697 := gW hg HB; have GE697 := GW697; replace HB := tW HB hb; have NB679_697 := gL hg BK679; have NB697_679 := gG hg BK679; replace BK679 := tB BK679 hb; have NB680_697 := gL hg BK680; have NB697_680 := gG hg BK680; replace BK680 := tB BK680 hb; have NB681_697 := gL hg BK681; have NB697_681 := gG hg BK681; replace BK681 := tB BK681 hb; clear hb hbox hg; obtain ⟨Ao67, co67, eo67⟩ := Kd.R_slice HO689.out; subst eo67; have hnb68 := NB697_679.out; have hnc68 := NB679_697.out; have hnb69 := NB697_680.out; have hnc69 := NB680_697.out; have hnb70 := NB697_681.out; have hnc70 := NB681_697.out; have hcz71_0 : w66.cell? ⟨gb697, 0, none⟩ = some (.slice none 0 0) := bt BK697 0; have hcz71_1 : w66.cell? ⟨gb697, 1, none⟩ = some (.slice none 0 0) := bt BK697 1; have hcz71_2 : w66.cell? ⟨gb697, 2, none⟩ = some (.slice none 0 0) := bt BK697 2; have hfz71_0 := blk_frozen BK697.out 0; have hfz71_1 := blk_frozen BK697.out 1; have hfz71_2 := blk_frozen BK697.out 2; obtain ⟨Ao72, co72, eo72⟩ := Kd.R_slice HO692.out; subst eo72; obtain ⟨Ao73, co73, eo73⟩ := Kd.R_slice HO695.out; subst eo73))
     go_ret
     exact ⟨aE, sW HB⟩
    replace c58 := Bool.eq_false_iff.mpr c58
    subst c58
    have H1 : (some false) = some r := by rw [if_neg (show ¬ (false = true) by decide)] at H; exact H
    clear H
    have H := H1
    clear H1
    exact absurd (Option.some.inj H) (by rw [HRT.out]; decide)
   rw [if_neg c57] at H
   have c57b0 : decide ((wrap64 ((l0_0.length : Int) + (l0_1.length : Int))) < 24) = false := decide_eq_false c57
   clear c57
   have H' := Aside0.mk H
   clear H
   have hnb74 := NB679_680.out
   have hnc74 := NB680_679.out
   have hnb75 := NB679_681.out
   have hnc75 := NB681_679.out
   have hcz76_0 : wc.cell? ⟨gb679, 0, none⟩ = some (.slice A0_0 l0_0.length c0_0) := bt BK679 0
   have hcz76_1 : wc.cell? ⟨gb679, 1, none⟩ = some (.slice A0_1 l0_1.length c0_1) := bt BK679 1
   have hcz76_2 : wc.cell? ⟨gb679, 2, none⟩ = some (.slice A0_2 l0_2.length c0_2) := bt BK679 2
   have hfz76_0 := blk_frozen BK679.out 0
   have hfz76_1 := blk_frozen BK679.out 1
   have hfz76_2 := blk_frozen BK679.out 2
   have hnb77 := NB680_681.out
   have hnc77 := NB681_680.out
   have hcz78_0 : wc.cell? ⟨gb680, 0, none⟩ = some (.int .i64 a1_0) := bt BK680 0
   have hcz78_1 : wc.cell? ⟨gb680, 1, none⟩ = some (.int .i64 a1_1) := bt BK680 1
   have hfz78_0 := blk_frozen BK680.out 0
   have hfz78_1 := blk_frozen BK680.out 1
   have hcz79_0 : wc.cell? ⟨gb681, 0, none⟩ = some (.int .i64 a2_0) := bt BK681 0
   have hcz79_1 : wc.cell? ⟨gb681, 1, none⟩ = some (.int .i64 a2_1) := bt BK681 1
   have hcz79_2 : wc.cell? ⟨gb681, 2, none⟩ = some (.int .i64 a2_2) := bt BK681 2
   have hcz79_3 : wc.cell? ⟨gb681, 3, none⟩ = some (.int .i64 a2_3) := bt BK681 3
   have hfz79_0 := blk_frozen BK681.out 0
   have hfz79_1 := blk_frozen BK681.out 1
   have hfz79_2 := blk_frozen BK681.out 2
   have hfz79_3 := blk_frozen BK681.out 3
   go_wp2_with (first | ((with_reducible refine gate_callee (f := 12) rfl ?_); refine gC (some 55) Try.func12 #[.agg #[.slice A0_0 l0_0.length c0_0, .slice A0_1 l0_1.length c0_1, .slice A0_2 l0_2.length c0_2], .agg #[.int .i64 a1_0, .int .i64 a1_1], .agg #[.int .i64 a2_0, .int .i64 a2_1, .int .i64 a2_2, .int .i64 a2_3]] ?_; (with_reducible refine (cells_AddUse.calls _ _ l0_0 _ _ l0_1 _ _ l0_2 a1_0 a1_1 a2_0 a2_1 a2_2 a2_3 t687 t690 t693 t696 _ ?side1 ?side2 ?side3 ?side4 ?side5 ?side6 A56.out).mono ?_); (case side1 => exact sC (Kd.C_below HR0_0.out HB.out)); (case side2 => exact HC0_0.out); (case side3 => exact sC (Kd.C_below HR0_1.out HB.out)); (case side4 => exact HC0_1.out); (case side5 => exact sC (Kd.C_below HR0_2.out HB.out)); (case side6 => exact HC0_2.out); rintro e w80 ⟨v688, v691, v694, rfl, ho0, ho1, ho2, hb⟩; refine ⟨_, rfl, ?_⟩; have HO689 := Aside0.mk (Kd.R_lower (Kd.R_newB ho0 (g := gb681) (o := .cells #[.int .i64 a2_0, .int .i64 a2_1, .int .i64 a2_2, .int .i64 a2_3] 32 (0, 0)) (sB BK681)) (below_size (sW HB))); have HO692 := Aside0.mk (Kd.R_lower ho1 (below_size (sW HB))); have HO695 := Aside0.mk (Kd.R_lower ho2 (below_size (sW HB))); replace BK679 := tB BK679 hb; replace BK680 := tB BK680 hb; replace BK681 := tB BK681 hb; replace HB := tW HB hb; (try clear hb); (try clear hb2); (try clear hk); (try clear hi); (try clear ho0); (try clear ho1); (try clear ho2)) | ((with_reducible refine gate_dst (N := 11) rfl ?_); refine bE (N := 11) (cs := #[.slice none 0 0, .slice none 0 0, .slice none 0 0]) (t := 26) ?_; intro gb697 hg w81 hbox hb; replace HO689 := tR HO689 hb; replace HO692 := tR HO692 hb; replace HO695 := tR HO695 hb; have BK697 := Aside0.mk (hbox); have GW697 := gW hg HB; have GE697 := GW697; replace HB := tW HB hb; have NB679_697 := gL hg BK679; have NB697_679 := gG hg BK679; replace BK679 := tB BK679 hb; have NB680_697 := gL hg BK680; have NB697_680 := gG hg BK680; replace BK680 := tB BK680 hb; have NB681_697 := gL hg BK681; have NB697_681 := gG hg BK681; replace BK681 := tB BK681 hb; clear hb hbox hg; obtain ⟨Ao82, co82, eo82⟩ := Kd.R_slice HO689.out; subst eo82; have hnb83 := NB697_679.out; have hnc83 := NB679_697.out; have hnb84 := NB697_680.out; have hnc84 := NB680_697.out; have hnb85 := NB697_681.out; have hnc85 := NB681_697.out; have hcz86_0 : w81.cell? ⟨gb697, 0, none⟩ = some (.slice none 0 0) := bt BK697 0; have hcz86_1 : w81.cell? ⟨gb697, 1, none⟩ = some (.slice none 0 0) := bt BK697 1; have hcz86_2 : w81.cell? ⟨gb697, 2, none⟩ = some (.slice none 0 0) := bt BK697 2; have hfz86_0 := blk_frozen BK697.out 0; have hfz86_1 := blk_frozen BK697.out 1; have hfz86_2 := blk_frozen BK697.out 2; obtain ⟨Ao87, co87, eo87⟩ := Kd.R_slice HO692.out; subst eo87; obtain ⟨Ao88, co88, eo88⟩ := Kd.R_slice HO695.out; subst eo88; have hcz89_0 : w81.cell? ⟨gb679, 0, none⟩ = some (.slice A0_0 l0_0.length c0_0) := bt BK679 0; have hcz89_1 : w81.cell? ⟨gb679, 1, none⟩ = some (.slice A0_1 l0_1.length c0_1) := bt BK679 1; have hcz89_2 : w81.cell? ⟨gb679, 2, none⟩ = some (.slice A0_2 l0_2.length c0_2) := bt BK679 2; have hfz89_0 := blk_frozen BK679.out 0; have hfz89_1 := blk_frozen BK679.out 1; have hfz89_2 := blk_frozen BK679.out 2))
   go_loopg [13, 68] kj5 (fun kq v13 v68 w' => ∃ (x13_2 : List (S30)) (x68_2 : Int), v68 = .int .i64 x68_2 ∧ Aside0 (slotmeshlaw12_CellsRoom.l0 kq a3 t682 t696 x13_2 l0_0 (l0_0.length : Int) x68_2 l0_0 l0_1 l0_2 a1_0 a1_1 a2_0 a2_1 a2_2 a2_3 = some r) ∧ Aside0 (kq ≤ kj5) ∧ Aside0 (Kd.R k30 30 w' w.heap.size (fun _ => True) v13 x13_2) ∧ Aside0 (Kd.R k32 32 w' w.heap.size (fun k_ => k_ ≠ gb681) (.slice Ao82 t687.length co82) t687) ∧ Aside0 (Kd.R k34 34 w' w.heap.size (fun _ => True) (.slice Ao87 t690.length co87) t690) ∧ Aside0 (Kd.R k51 51 w' w.heap.size (fun _ => True) (.slice Ao88 t693.length co88) t693) ∧ Aside0 (w'.heap[gb679]? = some (.cells #[(.slice A0_0 l0_0.length c0_0), (.slice A0_1 l0_1.length c0_1), (.slice A0_2 l0_2.length c0_2)] 26 (0, 0))) ∧ Aside0 (w'.heap[gb680]? = some (.cells #[.int .i64 a1_0, .int .i64 a1_1] 28 (0, 0))) ∧ Aside0 (w'.heap[gb681]? = some (.cells #[.int .i64 a2_0, .int .i64 a2_1, .int .i64 a2_2, .int .i64 a2_3] 32 (0, 0))) ∧ Aside0 (w'.heap[gb697]? = some (.cells #[(.slice Ao82 t687.length co82), (.slice Ao87 t690.length co87), (.slice Ao88 t693.length co88)] 26 (0, 0))) ∧ Aside0 (Below w.heap.size w w'))
   case atStart => exact ⟨(([] : List (S30))), (0), aR, H', ⟨Nat.le_refl _⟩, ⟨by first | exact Kd.R_nil _ _ _ _ _ | exact Kd.N_nil _ _ _ _ _ | exact Kd.V_nil _ _ _ _ _ | exact Kd.Q_nil _ _ _ _ _ | exact Kd.S_nil _ _ _ _ _⟩, ⟨mR (by exact Kd.R_mono (Kd.R_far (p := ⟨gb697, 2, none⟩) (Kd.R_far (p := ⟨gb697, 1, none⟩) (Kd.R_far (p := ⟨gb697, 0, none⟩) (Kd.R_types HO689.out BK697.out (by decide)) (fun _ hk => hk.2) (.slice Ao82 t687.length co82)) (fun _ hk => hk.2) (.slice Ao87 t690.length co87)) (fun _ hk => hk.2) (.slice Ao88 t693.length co88)) (fun _ hk => hk.1.2))⟩, ⟨mR (by exact Kd.R_mono (Kd.R_far (p := ⟨gb697, 2, none⟩) (Kd.R_far (p := ⟨gb697, 1, none⟩) (Kd.R_far (p := ⟨gb697, 0, none⟩) (Kd.R_types HO692.out BK697.out (by decide)) (fun _ hk => hk.2) (.slice Ao82 t687.length co82)) (fun _ hk => hk.2) (.slice Ao87 t690.length co87)) (fun _ hk => hk.2) (.slice Ao88 t693.length co88)) (fun _ hk => trivial))⟩, ⟨mR (by exact Kd.R_mono (Kd.R_far (p := ⟨gb697, 2, none⟩) (Kd.R_far (p := ⟨gb697, 1, none⟩) (Kd.R_far (p := ⟨gb697, 0, none⟩) (Kd.R_types HO695.out BK697.out (by decide)) (fun _ hk => hk.2) (.slice Ao82 t687.length co82)) (fun _ hk => hk.2) (.slice Ao87 t690.length co87)) (fun _ hk => hk.2) (.slice Ao88 t693.length co88)) (fun _ hk => trivial))⟩, ⟨sB BK679⟩, ⟨sB BK680⟩, ⟨sB BK681⟩, ⟨by (with_reducible repeat (first | refine blk_drewN ?_ _ | refine blk_drew ?_ | refine blk_alloc ?_ _)); refine blk_put (cs := #[.slice Ao82 t687.length co82, .slice Ao87 t690.length co87, .slice none 0 0]) ?_ 2 _ rfl; (with_reducible repeat (first | refine blk_drewN ?_ _ | refine blk_drew ?_ | refine blk_alloc ?_ _)); refine blk_put (cs := #[.slice Ao82 t687.length co82, .slice none 0 0, .slice none 0 0]) ?_ 1 _ rfl; (with_reducible repeat (first | refine blk_drewN ?_ _ | refine blk_drew ?_ | refine blk_alloc ?_ _)); refine blk_put (cs := #[.slice none 0 0, .slice none 0 0, .slice none 0 0]) ?_ 0 _ rfl; (with_reducible repeat (first | refine blk_drewN ?_ _ | refine blk_drew ?_ | refine blk_alloc ?_ _)); exact BK697.out⟩, ⟨sW HB⟩⟩
   case round =>
    clear H'
    try clear c1
    try clear c2
    try clear p2
    try clear c3
    try clear c4
    try clear c5
    try clear c6
    try clear p6
    try clear c7
    try clear c8
    try clear c9
    try clear c10
    try clear c11
    try clear c12
    try clear c14
    try clear c16
    try clear c18
    try clear c19
    try clear c23
    try clear c32
    try clear c33
    try clear c37
    try clear c43
    try clear c44
    try clear c48
    try clear c51
    try clear c52
    try clear c55
    try clear c57
    try clear c57b0
    try clear c58
    try clear c59
    try clear c60
    try clear c62
    try clear p64
    try clear c68
    try clear c69
    try clear c70
    try clear c74
    try clear c75
    try clear c77
    try clear c83
    try clear c84
    try clear c85
    try clear hcz20_0 hcz20_1 hcz20_2 hfz20_0 hfz20_1 hfz20_2
    try clear hcz22_0 hcz22_1 hcz22_2 hfz22_0 hfz22_1 hfz22_2
    try clear hcz24_0 hcz24_1 hfz24_0 hfz24_1
    try clear hcz26_0 hcz26_1 hcz26_2 hcz26_3 hfz26_0 hfz26_1 hfz26_2 hfz26_3
    try clear hcz27_0 hcz27_1 hfz27_0 hfz27_1
    try clear hcz29_0 hcz29_1 hcz29_2 hfz29_0 hfz29_1 hfz29_2
    try clear hcz30_0 hcz30_1 hcz30_2 hcz30_3 hfz30_0 hfz30_1 hfz30_2 hfz30_3
    try clear hcz34_0 hcz34_1 hcz34_2 hfz34_0 hfz34_1 hfz34_2
    try clear hcz36_0 hcz36_1 hcz36_2 hfz36_0 hfz36_1 hfz36_2
    try clear hcz38_0 hcz38_1 hfz38_0 hfz38_1
    try clear hcz40_0 hcz40_1 hcz40_2 hcz40_3 hfz40_0 hfz40_1 hfz40_2 hfz40_3
    try clear hcz41_0 hcz41_1 hfz41_0 hfz41_1
    try clear hcz45_0 hcz45_1 hcz45_2 hfz45_0 hfz45_1 hfz45_2
    try clear hcz47_0 hcz47_1 hcz47_2 hfz47_0 hfz47_1 hfz47_2
    try clear hcz49_0 hcz49_1 hfz49_0 hfz49_1
    try clear hcz53_0 hcz53_1 hcz53_2 hfz53_0 hfz53_1 hfz53_2
    try clear hcz61_0 hcz61_1 hcz61_2 hfz61_0 hfz61_1 hfz61_2
    try clear hcz63_0 hcz63_1 hfz63_0 hfz63_1
    try clear hcz64_0 hcz64_1 hcz64_2 hcz64_3 hfz64_0 hfz64_1 hfz64_2 hfz64_3
    try clear hcz71_0 hcz71_1 hcz71_2 hfz71_0 hfz71_1 hfz71_2
    try clear hcz76_0 hcz76_1 hcz76_2 hfz76_0 hfz76_1 hfz76_2
    try clear hcz78_0 hcz78_1 hfz78_0 hfz78_1
    try clear hcz79_0 hcz79_1 hcz79_2 hcz79_3 hfz79_0 hfz79_1 hfz79_2 hfz79_3
    try clear hcz86_0 hcz86_1 hcz86_2 hfz86_0 hfz86_1 hfz86_2
    try clear hcz89_0 hcz89_1 hcz89_2 hfz89_0 hfz89_1 hfz89_2
    try clear p2
    obtain ⟨x13_2, x68_2, rfl, HA, HK2, HO_13, HO_698000, HO_698001, HO_698002, BK679, BK680, BK681, BK697, HB⟩ := hrel
    cases gk with
    | zero => exact absurd HA.out (by simp [slotmeshlaw12_CellsRoom.l0])
    | succ k2 =>
     have H := HA.out
     clear HA
     simp only [slotmeshlaw12_CellsRoom.l0] at H
     by_cases c90 : x68_2 < (l0_0.length : Int)
     ·rw [if_pos c90] at H
      have c90b0 : decide (x68_2 < (l0_0.length : Int)) = true := decide_eq_true c90
      clear c90
      by_cases c91 : 0 ≤ x68_2
      ·rw [if_pos c91] at H
       have c91b0 : decide (0 ≤ x68_2) = true := decide_eq_true c91
       clear c91
       by_cases c92 : x68_2 < (l0_0.length : Int)
       ·rw [if_pos c92] at H
        have c92b0 : decide (x68_2 < (l0_0.length : Int)) = true := decide_eq_true c92
        clear c92
        by_cases c93 : x13_2.length < 8796093022208
        ·rw [if_pos c93] at H
         have LMc93 := Aside0.mk c93
         clear c93
         obtain ⟨y700, hy700⟩ : ∃ y_ : List (S30), y_ = (x13_2 ++ [(⟨(rd_T32 l0_0 x68_2).f0.f0, (rd_T32 l0_0 x68_2).f0.f1⟩ : S30)]) := ⟨_, rfl⟩
         replace H : (slotmeshlaw12_CellsRoom.l0 k2 a3 t682 t696 y700 l0_0 (l0_0.length : Int) (wrap64 (x68_2 + 1)) l0_0 l0_1 l0_2 a1_0 a1_1 a2_0 a2_1 a2_2 a2_3) = some r := by first | (rw [hy700]; with_reducible exact H) | (have H2_ := (Option.bind_some _ _).symm.trans H; rw [hy700]; with_reducible exact H2_) | (have H2_ := (Option.bind_some _ _).symm.trans H; with_reducible exact H2_) | with_reducible exact H | (rw [hy700]; exact H) | exact H
         have Ny700 := Aside0.mk hy700
         clear hy700
         have H' := Aside0.mk H
         clear H
         have p698 : 0 ≤ (x68_2 : Int) := dA
         have q698 : x68_2 < (l0_0.length : Int) := dA
         obtain ⟨ad698, e698, hx698_0, hx698_1, hx698_2, hx698_3⟩ := at_T32 HR0_0.out x68_2 p698 q698
         cases e698
         replace hx698_0 := (HB.out.cell (World.block_lt_of_cell? w _ hx698_0)).trans hx698_0
         replace hx698_1 := (HB.out.cell (World.block_lt_of_cell? w _ hx698_1)).trans hx698_1
         replace hx698_2 := (HB.out.cell (World.block_lt_of_cell? w _ hx698_2)).trans hx698_2
         replace hx698_3 := (HB.out.cell (World.block_lt_of_cell? w _ hx698_3)).trans hx698_3
         replace p698 := eq_true p698
         replace q698 := eq_true q698
         go_wp2_with (first | ((with_reducible refine gate_dst (N := 15) rfl ?_); refine bE (N := 15) (cs := #[.int .i64 0, .int .i64 0, .int .i64 0, .int .i64 0]) (t := 32) ?_; intro gb699 hg w94 hbox hb; replace HO_13 := tR HO_13 hb; replace HO_698000 := Aside0.mk (Kd.R_below (Kd.R_elderB (sR HO_698000) gb699 (Nat.le_of_eq hg.symm)) hb); replace HO_698001 := tR HO_698001 hb; replace HO_698002 := tR HO_698002 hb; have BK699 := Aside0.mk (hbox); have GW699 := gW hg HB; have GE699 := GW699; replace HB := tW HB hb; have NB679_699 := gL hg BK679; have NB699_679 := gG hg BK679; replace BK679 := tB BK679 hb; have NB680_699 := gL hg BK680; have NB699_680 := gG hg BK680; replace BK680 := tB BK680 hb; have NB681_699 := gL hg BK681; have NB699_681 := gG hg BK681; replace BK681 := tB BK681 hb; have NB697_699 := gL hg BK697; have NB699_697 := gG hg BK697; replace BK697 := tB BK697 hb; clear hb hbox hg; have hnb95 := NB699_679.out; have hnc95 := NB679_699.out; have hnb96 := NB699_680.out; have hnc96 := NB680_699.out; have hnb97 := NB699_681.out; have hnc97 := NB681_699.out; have hnb98 := NB699_697.out; have hnc98 := NB697_699.out; have hcz99_0 : w94.cell? ⟨gb699, 0, none⟩ = some (.int .i64 0) := bt BK699 0; have hcz99_1 : w94.cell? ⟨gb699, 1, none⟩ = some (.int .i64 0) := bt BK699 1; have hcz99_2 : w94.cell? ⟨gb699, 2, none⟩ = some (.int .i64 0) := bt BK699 2; have hcz99_3 : w94.cell? ⟨gb699, 3, none⟩ = some (.int .i64 0) := bt BK699 3; have hfz99_0 := blk_frozen BK699.out 0; have hfz99_1 := blk_frozen BK699.out 1; have hfz99_2 := blk_frozen BK699.out 2; have hfz99_3 := blk_frozen BK699.out 3) | ((with_reducible refine gate_builtin (b := .append) (xs := #[.tmp 72, .tmp 75]) rfl ?_); at_builtin; refine Kd.R_append k30 (w0 := w) w.heap.size rfl (.tmp 72) (.tmp 75) 61 30 (.agg #[(.int .i64 0), (.int .i64 0)]) 16 rfl Try.underlying61 info30 rfl (by decide) (by omega) u13 x13_2 (⟨(rd_T32 l0_0 x68_2).f0.f0, (rd_T32 l0_0 x68_2).f0.f1⟩ : S30) [.int .i64 ((rd_T32 l0_0 x68_2).f0.f0), .int .i64 ((rd_T32 l0_0 x68_2).f0.f1)] (fun _ => True) (fun _ => False) rfl (by first | (go_simp; done) | (go_simp; rfl)) ?aP (fun _ hk => hk.elim) ?aF ?aO ?aB ?aS ?aL ?_; (case aP => exact k30_mkM _ _ _ (⟨(rd_T32 l0_0 x68_2).f0.f0, (rd_T32 l0_0 x68_2).f0.f1⟩ : S30)); (case aB => exact (sW HB)); (case aF => exact (fun _ _ => trivial)); (case aO => exact (mR (by exact Kd.R_mono (Kd.R_far (p := ⟨gb699, 3, none⟩) (Kd.R_far (p := ⟨gb699, 2, none⟩) (Kd.R_far (p := ⟨gb699, 1, none⟩) (Kd.R_far (p := ⟨gb699, 0, none⟩) (Kd.R_types HO_13.out BK699.out (by decide)) (fun _ hk => hk.2) (.int .i64 ((rd_T32 l0_0 x68_2).f0.f0))) (fun _ hk => hk.2) (.int .i64 ((rd_T32 l0_0 x68_2).f0.f1))) (fun _ hk => hk.2) (.int .i64 ((rd_T32 l0_0 x68_2).f1))) (fun _ hk => hk.2) (.int .i64 ((rd_T32 l0_0 x68_2).f2))) (fun _ hk => trivial)))); (case aS => exact (below_size (sW HB))); (case aL => have := LMc93.out; omega); intro v701 w100 ho hb hg hat; rw [← Ny700.out] at ho; replace HO_698000 := Aside0.mk (Kd.R_over' (mR (by exact (Kd.R_mono (Kd.R_far (p := ⟨gb699, 3, none⟩) (Kd.R_far (p := ⟨gb699, 2, none⟩) (Kd.R_far (p := ⟨gb699, 1, none⟩) (Kd.R_far (p := ⟨gb699, 0, none⟩) (Kd.R_mono HO_698000.out (fun k_ hk => (⟨hk, hk.2⟩ : _ ∧ k_ ≠ gb699))) (fun _ hk => hk.2) (.int .i64 ((rd_T32 l0_0 x68_2).f0.f0))) (fun _ hk => hk.2) (.int .i64 ((rd_T32 l0_0 x68_2).f0.f1))) (fun _ hk => hk.2) (.int .i64 ((rd_T32 l0_0 x68_2).f1))) (fun _ hk => hk.2) (.int .i64 ((rd_T32 l0_0 x68_2).f2))) (fun _ h_ => h_.1)))) (Kd.R_typed (mR (by exact (Kd.R_mono (Kd.R_far (p := ⟨gb699, 3, none⟩) (Kd.R_far (p := ⟨gb699, 2, none⟩) (Kd.R_far (p := ⟨gb699, 1, none⟩) (Kd.R_far (p := ⟨gb699, 0, none⟩) (Kd.R_types HO_13.out BK699.out (by decide)) (fun _ hk => hk.2) (.int .i64 ((rd_T32 l0_0 x68_2).f0.f0))) (fun _ hk => hk.2) (.int .i64 ((rd_T32 l0_0 x68_2).f0.f1))) (fun _ hk => hk.2) (.int .i64 ((rd_T32 l0_0 x68_2).f1))) (fun _ hk => hk.2) (.int .i64 ((rd_T32 l0_0 x68_2).f2))) (fun _ h_ => h_.1))))) (by decide) hg); replace HO_698001 := Aside0.mk (Kd.R_over' (mR (by exact (Kd.R_mono (Kd.R_far (p := ⟨gb699, 3, none⟩) (Kd.R_far (p := ⟨gb699, 2, none⟩) (Kd.R_far (p := ⟨gb699, 1, none⟩) (Kd.R_far (p := ⟨gb699, 0, none⟩) (Kd.R_types HO_698001.out BK699.out (by decide)) (fun _ hk => hk.2) (.int .i64 ((rd_T32 l0_0 x68_2).f0.f0))) (fun _ hk => hk.2) (.int .i64 ((rd_T32 l0_0 x68_2).f0.f1))) (fun _ hk => hk.2) (.int .i64 ((rd_T32 l0_0 x68_2).f1))) (fun _ hk => hk.2) (.int .i64 ((rd_T32 l0_0 x68_2).f2))) (fun _ h_ => h_.1)))) (Kd.R_typed (mR (by exact (Kd.R_mono (Kd.R_far (p := ⟨gb699, 3, none⟩) (Kd.R_far (p := ⟨gb699, 2, none⟩) (Kd.R_far (p := ⟨gb699, 1, none⟩) (Kd.R_far (p := ⟨gb699, 0, none⟩) (Kd.R_types HO_13.out BK699.out (by decide)) (fun _ hk => hk.2) (.int .i64 ((rd_T32 l0_0 x68_2).f0.f0))) (fun _ hk => hk.2) (.int .i64 ((rd_T32 l0_0 x68_2).f0.f1))) (fun _ hk => hk.2) (.int .i64 ((rd_T32 l0_0 x68_2).f1))) (fun _ hk => hk.2) (.int .i64 ((rd_T32 l0_0 x68_2).f2))) (fun _ h_ => h_.1))))) (by decide) hg); replace HO_698002 := Aside0.mk (Kd.R_over' (mR (by exact (Kd.R_mono (Kd.R_far (p := ⟨gb699, 3, none⟩) (Kd.R_far (p := ⟨gb699, 2, none⟩) (Kd.R_far (p := ⟨gb699, 1, none⟩) (Kd.R_far (p := ⟨gb699, 0, none⟩) (Kd.R_types HO_698002.out BK699.out (by decide)) (fun _ hk => hk.2) (.int .i64 ((rd_T32 l0_0 x68_2).f0.f0))) (fun _ hk => hk.2) (.int .i64 ((rd_T32 l0_0 x68_2).f0.f1))) (fun _ hk => hk.2) (.int .i64 ((rd_T32 l0_0 x68_2).f1))) (fun _ hk => hk.2) (.int .i64 ((rd_T32 l0_0 x68_2).f2))) (fun _ h_ => h_.1)))) (Kd.R_typed (mR (by exact (Kd.R_mono (Kd.R_far (p := ⟨gb699, 3, none⟩) (Kd.R_far (p := ⟨gb699, 2, none⟩) (Kd.R_far (p := ⟨gb699, 1, none⟩) (Kd.R_far (p := ⟨gb699, 0, none⟩) (Kd.R_types HO_13.out BK699.out (by decide)) (fun _ hk => hk.2) (.int .i64 ((rd_T32 l0_0 x68_2).f0.f0))) (fun _ hk => hk.2) (.int .i64 ((rd_T32 l0_0 x68_2).f0.f1))) (fun _ hk => hk.2) (.int .i64 ((rd_T32 l0_0 x68_2).f1))) (fun _ hk => hk.2) (.int .i64 ((rd_T32 l0_0 x68_2).f2))) (fun _ h_ => h_.1))))) (by decide) hg); replace BK679 := Aside0.mk (blk_grown (g := gb679) (o := .cells #[.slice (some ad698) l0_0.length c0_0, .slice A0_1 l0_1.length c0_1, .slice A0_2 l0_2.length c0_2] 26 (0, 0)) (sB BK679) hg (Kd.R_ne HO_13.out BK679.out (by decide))); replace BK680 := Aside0.mk (blk_grown (g := gb680) (o := .cells #[.int .i64 a1_0, .int .i64 a1_1] 28 (0, 0)) (sB BK680) hg (Kd.R_ne HO_13.out BK680.out (by decide))); replace BK681 := Aside0.mk (blk_grown (g := gb681) (o := .cells #[.int .i64 a2_0, .int .i64 a2_1, .int .i64 a2_2, .int .i64 a2_3] 32 (0, 0)) (sB BK681) hg (Kd.R_ne HO_13.out BK681.out (by decide))); replace BK697 := Aside0.mk (blk_grown (g := gb697) (o := .cells #[.slice Ao82 t687.length co82, .slice Ao87 t690.length co87, .slice Ao88 t693.length co88] 26 (0, 0)) (sB BK697) hg (Kd.R_ne HO_13.out BK697.out (by decide))); replace BK699 := Aside0.mk (blk_grown (g := gb699) (o := .cells #[.int .i64 ((rd_T32 l0_0 x68_2).f0.f0), .int .i64 ((rd_T32 l0_0 x68_2).f0.f1), .int .i64 ((rd_T32 l0_0 x68_2).f1), .int .i64 ((rd_T32 l0_0 x68_2).f2)] 32 (0, 0)) (by (with_reducible repeat (first | refine blk_drewN ?_ _ | refine blk_drew ?_ | refine blk_alloc ?_ _)); refine blk_put (cs := #[.int .i64 ((rd_T32 l0_0 x68_2).f0.f0), .int .i64 ((rd_T32 l0_0 x68_2).f0.f1), .int .i64 ((rd_T32 l0_0 x68_2).f1), .int .i64 0]) ?_ 3 _ rfl; (with_reducible repeat (first | refine blk_drewN ?_ _ | refine blk_drew ?_ | refine blk_alloc ?_ _)); refine blk_put (cs := #[.int .i64 ((rd_T32 l0_0 x68_2).f0.f0), .int .i64 ((rd_T32 l0_0 x68_2).f0.f1), .int .i64 0, .int .i64 0]) ?_ 2 _ rfl; (with_reducible repeat (first | refine blk_drewN ?_ _ | refine blk_drew ?_ | refine blk_alloc ?_ _)); refine blk_put (cs := #[.int .i64 ((rd_T32 l0_0 x68_2).f0.f0), .int .i64 0, .int .i64 0, .int .i64 0]) ?_ 1 _ rfl; (with_reducible repeat (first | refine blk_drewN ?_ _ | refine blk_drew ?_ | refine blk_alloc ?_ _)); refine blk_put (cs := #[.int .i64 0, .int .i64 0, .int .i64 0, .int .i64 0]) ?_ 0 _ rfl; (with_reducible repeat (first | refine blk_drewN ?_ _ | refine blk_drew ?_ | refine blk_alloc ?_ _)); exact BK699.out) hg (Kd.R_ne HO_13.out BK699.out (by decide))); replace HB := Aside0.mk (hb); have HO702 := Aside0.mk (ho); clear HO_13; clear ho hb hg hat))
         go_roundg k2
         case measure => have := HJ5.out; have := HK2.out; omega
         case rel => exact ⟨(y700), (wrap64 (x68_2 + 1)), aR, H', ⟨by have := HJ5.out; have := HK2.out; omega⟩, ⟨sR HO702⟩, ⟨mR (by exact Kd.R_mono HO_698000.out (fun _ hk => hk.1))⟩, ⟨sR HO_698001⟩, ⟨sR HO_698002⟩, ⟨sB BK679⟩, ⟨sB BK680⟩, ⟨sB BK681⟩, ⟨sB BK697⟩, ⟨sW HB⟩⟩
        rw [if_neg c93] at H
        exact absurd H (by simp)
       rw [if_neg c92] at H
       exact absurd H (by simp)
      rw [if_neg c91] at H
      exact absurd H (by simp)
     rw [if_neg c90] at H
     have c90b0 : decide (x68_2 < (l0_0.length : Int)) = false := decide_eq_false c90
     clear c90
     have H' := Aside0.mk H
     clear H
     have hnb101 := NB679_680.out
     have hnc101 := NB680_679.out
     have hnb102 := NB679_681.out
     have hnc102 := NB681_679.out
     have hnb103 := NB679_697.out
     have hnc103 := NB697_679.out
     have hcz104_0 : wr.cell? ⟨gb679, 0, none⟩ = some (.slice A0_0 l0_0.length c0_0) := bt BK679 0
     have hcz104_1 : wr.cell? ⟨gb679, 1, none⟩ = some (.slice A0_1 l0_1.length c0_1) := bt BK679 1
     have hcz104_2 : wr.cell? ⟨gb679, 2, none⟩ = some (.slice A0_2 l0_2.length c0_2) := bt BK679 2
     have hfz104_0 := blk_frozen BK679.out 0
     have hfz104_1 := blk_frozen BK679.out 1
     have hfz104_2 := blk_frozen BK679.out 2
     go_wp2
     go_loopg [13, 81] k2 (fun kq v13 v81 w' => ∃ (x13_3 : List (S30)) (x81_3 : Int), v81 = .int .i64 x81_3 ∧ Aside0 (slotmeshlaw12_CellsRoom.l1 kq a3 t682 t696 x13_3 l0_1 (l0_1.length : Int) x81_3 l0_0 l0_1 l0_2 a1_0 a1_1 a2_0 a2_1 a2_2 a2_3 = some r) ∧ Aside0 (kq ≤ k2) ∧ Aside0 (Kd.R k30 30 w' w.heap.size (fun _ => True) v13 x13_3) ∧ Aside0 (Kd.R k32 32 w' w.heap.size (fun k_ => k_ ≠ gb681) (.slice Ao82 t687.length co82) t687) ∧ Aside0 (Kd.R k34 34 w' w.heap.size (fun _ => True) (.slice Ao87 t690.length co87) t690) ∧ Aside0 (Kd.R k51 51 w' w.heap.size (fun _ => True) (.slice Ao88 t693.length co88) t693) ∧ Aside0 (w'.heap[gb679]? = some (.cells #[(.slice A0_0 l0_0.length c0_0), (.slice A0_1 l0_1.length c0_1), (.slice A0_2 l0_2.length c0_2)] 26 (0, 0))) ∧ Aside0 (w'.heap[gb680]? = some (.cells #[.int .i64 a1_0, .int .i64 a1_1] 28 (0, 0))) ∧ Aside0 (w'.heap[gb681]? = some (.cells #[.int .i64 a2_0, .int .i64 a2_1, .int .i64 a2_2, .int .i64 a2_3] 32 (0, 0))) ∧ Aside0 (w'.heap[gb697]? = some (.cells #[(.slice Ao82 t687.length co82), (.slice Ao87 t690.length co87), (.slice Ao88 t693.length co88)] 26 (0, 0))) ∧ Aside0 (Below w.heap.size w w'))
     case atStart => exact ⟨(x13_2), (0), aR, H', ⟨Nat.le_refl _⟩, ⟨sR HO_13⟩, ⟨sR HO_698000⟩, ⟨sR HO_698001⟩, ⟨sR HO_698002⟩, ⟨sB BK679⟩, ⟨sB BK680⟩, ⟨sB BK681⟩, ⟨sB BK697⟩, ⟨sW HB⟩⟩
     case round =>
      clear H'
      try clear c1
      try clear c2
      try clear p2
      try clear c3
      try clear c4
      try clear c5
      try clear c6
      try clear p6
      try clear q6
      try clear hx6
      try clear c7
      try clear c8
      try clear c9
      try clear c10
      try clear c11
      try clear c12
      try clear c14
      try clear c16
      try clear c18
      try clear c19
      try clear c23
      try clear c32
      try clear c33
      try clear c37
      try clear c43
      try clear c44
      try clear c48
      try clear c51
      try clear c52
      try clear c55
      try clear c57
      try clear c57b0
      try clear c58
      try clear c59
      try clear c60
      try clear c62
      try clear p64
      try clear c68
      try clear c69
      try clear p69
      try clear q69
      try clear hx69
      try clear c70
      try clear c74
      try clear c75
      try clear c77
      try clear c83
      try clear c84
      try clear c85
      try clear c90
      try clear c90b0
      try clear c91
      try clear c91b0
      try clear c92
      try clear c92b0
      try clear c93
      try clear c95
      try clear c96
      try clear c97
      try clear c98
      try clear c101
      try clear c102
      try clear c103
      try clear hcz104_0 hcz104_1 hcz104_2 hfz104_0 hfz104_1 hfz104_2
      try clear hcz20_0 hcz20_1 hcz20_2 hfz20_0 hfz20_1 hfz20_2
      try clear hcz22_0 hcz22_1 hcz22_2 hfz22_0 hfz22_1 hfz22_2
      try clear hcz24_0 hcz24_1 hfz24_0 hfz24_1
      try clear hcz26_0 hcz26_1 hcz26_2 hcz26_3 hfz26_0 hfz26_1 hfz26_2 hfz26_3
      try clear hcz27_0 hcz27_1 hfz27_0 hfz27_1
      try clear hcz29_0 hcz29_1 hcz29_2 hfz29_0 hfz29_1 hfz29_2
      try clear hcz30_0 hcz30_1 hcz30_2 hcz30_3 hfz30_0 hfz30_1 hfz30_2 hfz30_3
      try clear hcz34_0 hcz34_1 hcz34_2 hfz34_0 hfz34_1 hfz34_2
      try clear hcz36_0 hcz36_1 hcz36_2 hfz36_0 hfz36_1 hfz36_2
      try clear hcz38_0 hcz38_1 hfz38_0 hfz38_1
      try clear hcz40_0 hcz40_1 hcz40_2 hcz40_3 hfz40_0 hfz40_1 hfz40_2 hfz40_3
      try clear hcz41_0 hcz41_1 hfz41_0 hfz41_1
      try clear hcz45_0 hcz45_1 hcz45_2 hfz45_0 hfz45_1 hfz45_2
      try clear hcz47_0 hcz47_1 hcz47_2 hfz47_0 hfz47_1 hfz47_2
      try clear hcz49_0 hcz49_1 hfz49_0 hfz49_1
      try clear hcz53_0 hcz53_1 hcz53_2 hfz53_0 hfz53_1 hfz53_2
      try clear hcz61_0 hcz61_1 hcz61_2 hfz61_0 hfz61_1 hfz61_2
      try clear hcz63_0 hcz63_1 hfz63_0 hfz63_1
      try clear hcz64_0 hcz64_1 hcz64_2 hcz64_3 hfz64_0 hfz64_1 hfz64_2 hfz64_3
      try clear hcz71_0 hcz71_1 hcz71_2 hfz71_0 hfz71_1 hfz71_2
      try clear hcz76_0 hcz76_1 hcz76_2 hfz76_0 hfz76_1 hfz76_2
      try clear hcz78_0 hcz78_1 hfz78_0 hfz78_1
      try clear hcz79_0 hcz79_1 hcz79_2 hcz79_3 hfz79_0 hfz79_1 hfz79_2 hfz79_3
      try clear hcz86_0 hcz86_1 hcz86_2 hfz86_0 hfz86_1 hfz86_2
      try clear hcz89_0 hcz89_1 hcz89_2 hfz89_0 hfz89_1 hfz89_2
      try clear hcz99_0 hcz99_1 hcz99_2 hcz99_3 hfz99_0 hfz99_1 hfz99_2 hfz99_3
      try clear hx698_0
      try clear hx698_1
      try clear hx698_2
      try clear hx698_3
      try clear p2
      try clear p6
      try clear p64
      try clear p698
      try clear q698
      obtain ⟨x13_3, x81_3, rfl, HA, HK3, HO_13, HO_698000, HO_698001, HO_698002, BK679, BK680, BK681, BK697, HB⟩ := hrel
      cases gk with
      | zero => exact absurd HA.out (by simp [slotmeshlaw12_CellsRoom.l1])
      | succ k3 =>
       have H := HA.out
       clear HA
       simp only [slotmeshlaw12_CellsRoom.l1] at H
       by_cases c105 : x81_3 < (l0_1.length : Int)
       ·rw [if_pos c105] at H
        have c105b0 : decide (x81_3 < (l0_1.length : Int)) = true := decide_eq_true c105
        clear c105
        by_cases c106 : 0 ≤ x81_3
        ·rw [if_pos c106] at H
         have c106b0 : decide (0 ≤ x81_3) = true := decide_eq_true c106
         clear c106
         by_cases c107 : x81_3 < (l0_1.length : Int)
         ·rw [if_pos c107] at H
          have c107b0 : decide (x81_3 < (l0_1.length : Int)) = true := decide_eq_true c107
          clear c107
          by_cases c108 : x13_3.length < 8796093022208
          ·rw [if_pos c108] at H
           have LMc108 := Aside0.mk c108
           clear c108
           obtain ⟨y705, hy705⟩ : ∃ y_ : List (S30), y_ = (x13_3 ++ [(⟨(rd_T34 l0_1 x81_3).f0.f0, (rd_T34 l0_1 x81_3).f0.f1⟩ : S30)]) := ⟨_, rfl⟩
           replace H : (slotmeshlaw12_CellsRoom.l1 k3 a3 t682 t696 y705 l0_1 (l0_1.length : Int) (wrap64 (x81_3 + 1)) l0_0 l0_1 l0_2 a1_0 a1_1 a2_0 a2_1 a2_2 a2_3) = some r := by first | (rw [hy705]; with_reducible exact H) | (have H2_ := (Option.bind_some _ _).symm.trans H; rw [hy705]; with_reducible exact H2_) | (have H2_ := (Option.bind_some _ _).symm.trans H; with_reducible exact H2_) | with_reducible exact H | (rw [hy705]; exact H) | exact H
           have Ny705 := Aside0.mk hy705
           clear hy705
           have H' := Aside0.mk H
           clear H
           have p703 : 0 ≤ (x81_3 : Int) := dA
           have q703 : x81_3 < (l0_1.length : Int) := dA
           obtain ⟨ad703, e703, hx703_0, hx703_1, hx703_2, hx703_3, hx703_4⟩ := at_T34 HR0_1.out x81_3 p703 q703
           cases e703
           replace hx703_0 := (HB.out.cell (World.block_lt_of_cell? w _ hx703_0)).trans hx703_0
           replace hx703_1 := (HB.out.cell (World.block_lt_of_cell? w _ hx703_1)).trans hx703_1
           replace hx703_2 := (HB.out.cell (World.block_lt_of_cell? w _ hx703_2)).trans hx703_2
           replace hx703_3 := (HB.out.cell (World.block_lt_of_cell? w _ hx703_3)).trans hx703_3
           replace hx703_4 := (HB.out.cell (World.block_lt_of_cell? w _ hx703_4)).trans hx703_4
           replace p703 := eq_true p703
           replace q703 := eq_true q703
           go_wp2_with (first | ((with_reducible refine gate_dst (N := 17) rfl ?_); refine bE (N := 17) (cs := #[.int .i64 0, .int .i64 0, .int .i64 0, .int .i64 0, .int .i64 0]) (t := 34) ?_; intro gb704 hg w109 hbox hb; replace HO_13 := tR HO_13 hb; replace HO_698000 := tR HO_698000 hb; replace HO_698001 := Aside0.mk (Kd.R_below (Kd.R_elderB (sR HO_698001) gb704 (Nat.le_of_eq hg.symm)) hb); replace HO_698002 := tR HO_698002 hb; have BK704 := Aside0.mk (hbox); have GW704 := gW hg HB; have GE704 := GW704; replace HB := tW HB hb; have NB679_704 := gL hg BK679; have NB704_679 := gG hg BK679; replace BK679 := tB BK679 hb; have NB680_704 := gL hg BK680; have NB704_680 := gG hg BK680; replace BK680 := tB BK680 hb; have NB681_704 := gL hg BK681; have NB704_681 := gG hg BK681; replace BK681 := tB BK681 hb; have NB697_704 := gL hg BK697; have NB704_697 := gG hg BK697; replace BK697 := tB BK697 hb; clear hb hbox hg; have hnb110 := NB704_679.out; have hnc110 := NB679_704.out; have hnb111 := NB704_680.out; have hnc111 := NB680_704.out; have hnb112 := NB704_681.out; have hnc112 := NB681_704.out; have hnb113 := NB704_697.out; have hnc113 := NB697_704.out; have hcz114_0 : w109.cell? ⟨gb704, 0, none⟩ = some (.int .i64 0) := bt BK704 0; have hcz114_1 : w109.cell? ⟨gb704, 1, none⟩ = some (.int .i64 0) := bt BK704 1; have hcz114_2 : w109.cell? ⟨gb704, 2, none⟩ = some (.int .i64 0) := bt BK704 2; have hcz114_3 : w109.cell? ⟨gb704, 3, none⟩ = some (.int .i64 0) := bt BK704 3; have hcz114_4 : w109.cell? ⟨gb704, 4, none⟩ = some (.int .i64 0) := bt BK704 4; have hfz114_0 := blk_frozen BK704.out 0; have hfz114_1 := blk_frozen BK704.out 1; have hfz114_2 := blk_frozen BK704.out 2; have hfz114_3 := blk_frozen BK704.out 3; have hfz114_4 := blk_frozen BK704.out 4) | ((with_reducible refine gate_builtin (b := .append) (xs := #[.tmp 85, .tmp 88]) rfl ?_); at_builtin; refine Kd.R_append k30 (w0 := w) w.heap.size rfl (.tmp 85) (.tmp 88) 61 30 (.agg #[(.int .i64 0), (.int .i64 0)]) 16 rfl Try.underlying61 info30 rfl (by decide) (by omega) u13 x13_3 (⟨(rd_T34 l0_1 x81_3).f0.f0, (rd_T34 l0_1 x81_3).f0.f1⟩ : S30) [.int .i64 ((rd_T34 l0_1 x81_3).f0.f0), .int .i64 ((rd_T34 l0_1 x81_3).f0.f1)] (fun _ => True) (fun _ => False) rfl (by first | (go_simp; done) | (go_simp; rfl)) ?aP (fun _ hk => hk.elim) ?aF ?aO ?aB ?aS ?aL ?_; (case aP => exact k30_mkM _ _ _ (⟨(rd_T34 l0_1 x81_3).f0.f0, (rd_T34 l0_1 x81_3).f0.f1⟩ : S30)); (case aB => exact (sW HB)); (case aF => exact (fun _ _ => trivial)); (case aO => exact (mR (by exact Kd.R_mono (Kd.R_far (p := ⟨gb704, 4, none⟩) (Kd.R_far (p := ⟨gb704, 3, none⟩) (Kd.R_far (p := ⟨gb704, 2, none⟩) (Kd.R_far (p := ⟨gb704, 1, none⟩) (Kd.R_far (p := ⟨gb704, 0, none⟩) (Kd.R_types HO_13.out BK704.out (by decide)) (fun _ hk => hk.2) (.int .i64 ((rd_T34 l0_1 x81_3).f0.f0))) (fun _ hk => hk.2) (.int .i64 ((rd_T34 l0_1 x81_3).f0.f1))) (fun _ hk => hk.2) (.int .i64 ((rd_T34 l0_1 x81_3).f1))) (fun _ hk => hk.2) (.int .i64 ((rd_T34 l0_1 x81_3).f2))) (fun _ hk => hk.2) (.int .i64 ((rd_T34 l0_1 x81_3).f3))) (fun _ hk => trivial)))); (case aS => exact (below_size (sW HB))); (case aL => have := LMc108.out; omega); intro v706 w115 ho hb hg hat; rw [← Ny705.out] at ho; replace HO_698000 := Aside0.mk (Kd.R_over' (mR (by exact (Kd.R_mono (Kd.R_far (p := ⟨gb704, 4, none⟩) (Kd.R_far (p := ⟨gb704, 3, none⟩) (Kd.R_far (p := ⟨gb704, 2, none⟩) (Kd.R_far (p := ⟨gb704, 1, none⟩) (Kd.R_far (p := ⟨gb704, 0, none⟩) (Kd.R_types HO_698000.out BK704.out (by decide)) (fun _ hk => hk.2) (.int .i64 ((rd_T34 l0_1 x81_3).f0.f0))) (fun _ hk => hk.2) (.int .i64 ((rd_T34 l0_1 x81_3).f0.f1))) (fun _ hk => hk.2) (.int .i64 ((rd_T34 l0_1 x81_3).f1))) (fun _ hk => hk.2) (.int .i64 ((rd_T34 l0_1 x81_3).f2))) (fun _ hk => hk.2) (.int .i64 ((rd_T34 l0_1 x81_3).f3))) (fun _ h_ => h_.1)))) (Kd.R_typed (mR (by exact (Kd.R_mono (Kd.R_far (p := ⟨gb704, 4, none⟩) (Kd.R_far (p := ⟨gb704, 3, none⟩) (Kd.R_far (p := ⟨gb704, 2, none⟩) (Kd.R_far (p := ⟨gb704, 1, none⟩) (Kd.R_far (p := ⟨gb704, 0, none⟩) (Kd.R_types HO_13.out BK704.out (by decide)) (fun _ hk => hk.2) (.int .i64 ((rd_T34 l0_1 x81_3).f0.f0))) (fun _ hk => hk.2) (.int .i64 ((rd_T34 l0_1 x81_3).f0.f1))) (fun _ hk => hk.2) (.int .i64 ((rd_T34 l0_1 x81_3).f1))) (fun _ hk => hk.2) (.int .i64 ((rd_T34 l0_1 x81_3).f2))) (fun _ hk => hk.2) (.int .i64 ((rd_T34 l0_1 x81_3).f3))) (fun _ h_ => h_.1))))) (by decide) hg); replace HO_698001 := Aside0.mk (Kd.R_over' (mR (by exact (Kd.R_mono (Kd.R_far (p := ⟨gb704, 4, none⟩) (Kd.R_far (p := ⟨gb704, 3, none⟩) (Kd.R_far (p := ⟨gb704, 2, none⟩) (Kd.R_far (p := ⟨gb704, 1, none⟩) (Kd.R_far (p := ⟨gb704, 0, none⟩) (Kd.R_mono HO_698001.out (fun k_ hk => (⟨hk, hk.2⟩ : _ ∧ k_ ≠ gb704))) (fun _ hk => hk.2) (.int .i64 ((rd_T34 l0_1 x81_3).f0.f0))) (fun _ hk => hk.2) (.int .i64 ((rd_T34 l0_1 x81_3).f0.f1))) (fun _ hk => hk.2) (.int .i64 ((rd_T34 l0_1 x81_3).f1))) (fun _ hk => hk.2) (.int .i64 ((rd_T34 l0_1 x81_3).f2))) (fun _ hk => hk.2) (.int .i64 ((rd_T34 l0_1 x81_3).f3))) (fun _ h_ => h_.1)))) (Kd.R_typed (mR (by exact (Kd.R_mono (Kd.R_far (p := ⟨gb704, 4, none⟩) (Kd.R_far (p := ⟨gb704, 3, none⟩) (Kd.R_far (p := ⟨gb704, 2, none⟩) (Kd.R_far (p := ⟨gb704, 1, none⟩) (Kd.R_far (p := ⟨gb704, 0, none⟩) (Kd.R_types HO_13.out BK704.out (by decide)) (fun _ hk => hk.2) (.int .i64 ((rd_T34 l0_1 x81_3).f0.f0))) (fun _ hk => hk.2) (.int .i64 ((rd_T34 l0_1 x81_3).f0.f1))) (fun _ hk => hk.2) (.int .i64 ((rd_T34 l0_1 x81_3).f1))) (fun _ hk => hk.2) (.int .i64 ((rd_T34 l0_1 x81_3).f2))) (fun _ hk => hk.2) (.int .i64 ((rd_T34 l0_1 x81_3).f3))) (fun _ h_ => h_.1))))) (by decide) hg); replace HO_698002 := Aside0.mk (Kd.R_over' (mR (by exact (Kd.R_mono (Kd.R_far (p := ⟨gb704, 4, none⟩) (Kd.R_far (p := ⟨gb704, 3, none⟩) (Kd.R_far (p := ⟨gb704, 2, none⟩) (Kd.R_far (p := ⟨gb704, 1, none⟩) (Kd.R_far (p := ⟨gb704, 0, none⟩) (Kd.R_types HO_698002.out BK704.out (by decide)) (fun _ hk => hk.2) (.int .i64 ((rd_T34 l0_1 x81_3).f0.f0))) (fun _ hk => hk.2) (.int .i64 ((rd_T34 l0_1 x81_3).f0.f1))) (fun _ hk => hk.2) (.int .i64 ((rd_T34 l0_1 x81_3).f1))) (fun _ hk => hk.2) (.int .i64 ((rd_T34 l0_1 x81_3).f2))) (fun _ hk => hk.2) (.int .i64 ((rd_T34 l0_1 x81_3).f3))) (fun _ h_ => h_.1)))) (Kd.R_typed (mR (by exact (Kd.R_mono (Kd.R_far (p := ⟨gb704, 4, none⟩) (Kd.R_far (p := ⟨gb704, 3, none⟩) (Kd.R_far (p := ⟨gb704, 2, none⟩) (Kd.R_far (p := ⟨gb704, 1, none⟩) (Kd.R_far (p := ⟨gb704, 0, none⟩) (Kd.R_types HO_13.out BK704.out (by decide)) (fun _ hk => hk.2) (.int .i64 ((rd_T34 l0_1 x81_3).f0.f0))) (fun _ hk => hk.2) (.int .i64 ((rd_T34 l0_1 x81_3).f0.f1))) (fun _ hk => hk.2) (.int .i64 ((rd_T34 l0_1 x81_3).f1))) (fun _ hk => hk.2) (.int .i64 ((rd_T34 l0_1 x81_3).f2))) (fun _ hk => hk.2) (.int .i64 ((rd_T34 l0_1 x81_3).f3))) (fun _ h_ => h_.1))))) (by decide) hg); replace BK679 := Aside0.mk (blk_grown (g := gb679) (o := .cells #[.slice A0_0 l0_0.length c0_0, .slice (some ad703) l0_1.length c0_1, .slice A0_2 l0_2.length c0_2] 26 (0, 0)) (sB BK679) hg (Kd.R_ne HO_13.out BK679.out (by decide))); replace BK680 := Aside0.mk (blk_grown (g := gb680) (o := .cells #[.int .i64 a1_0, .int .i64 a1_1] 28 (0, 0)) (sB BK680) hg (Kd.R_ne HO_13.out BK680.out (by decide))); replace BK681 := Aside0.mk (blk_grown (g := gb681) (o := .cells #[.int .i64 a2_0, .int .i64 a2_1, .int .i64 a2_2, .int .i64 a2_3] 32 (0, 0)) (sB BK681) hg (Kd.R_ne HO_13.out BK681.out (by decide))); replace BK697 := Aside0.mk (blk_grown (g := gb697) (o := .cells #[.slice Ao82 t687.length co82, .slice Ao87 t690.length co87, .slice Ao88 t693.length co88] 26 (0, 0)) (sB BK697) hg (Kd.R_ne HO_13.out BK697.out (by decide))); replace BK704 := Aside0.mk (blk_grown (g := gb704) (o := .cells #[.int .i64 ((rd_T34 l0_1 x81_3).f0.f0), .int .i64 ((rd_T34 l0_1 x81_3).f0.f1), .int .i64 ((rd_T34 l0_1 x81_3).f1), .int .i64 ((rd_T34 l0_1 x81_3).f2), .int .i64 ((rd_T34 l0_1 x81_3).f3)] 34 (0, 0)) (by (with_reducible repeat (first | refine blk_drewN ?_ _ | refine blk_drew ?_ | refine blk_alloc ?_ _)); refine blk_put (cs := #[.int .i64 ((rd_T34 l0_1 x81_3).f0.f0), .int .i64 ((rd_T34 l0_1 x81_3).f0.f1), .int .i64 ((rd_T34 l0_1 x81_3).f1), .int .i64 ((rd_T34 l0_1 x81_3).f2), .int .i64 0]) ?_ 4 _ rfl; (with_reducible repeat (first | refine blk_drewN ?_ _ | refine blk_drew ?_ | refine blk_alloc ?_ _)); refine blk_put (cs := #[.int .i64 ((rd_T34 l0_1 x81_3).f0.f0), .int .i64 ((rd_T34 l0_1 x81_3).f0.f1), .int .i64 ((rd_T34 l0_1 x81_3).f1), .int .i64 0, .int .i64 0]) ?_ 3 _ rfl; (with_reducible repeat (first | refine blk_drewN ?_ _ | refine blk_drew ?_ | refine blk_alloc ?_ _)); refine blk_put (cs := #[.int .i64 ((rd_T34 l0_1 x81_3).f0.f0), .int .i64 ((rd_T34 l0_1 x81_3).f0.f1), .int .i64 0, .int .i64 0, .int .i64 0]) ?_ 2 _ rfl; (with_reducible repeat (first | refine blk_drewN ?_ _ | refine blk_drew ?_ | refine blk_alloc ?_ _)); refine blk_put (cs := #[.int .i64 ((rd_T34 l0_1 x81_3).f0.f0), .int .i64 0, .int .i64 0, .int .i64 0, .int .i64 0]) ?_ 1 _ rfl; (with_reducible repeat (first | refine blk_drewN ?_ _ | refine blk_drew ?_ | refine blk_alloc ?_ _)); refine blk_put (cs := #[.int .i64 0, .int .i64 0, .int .i64 0, .int .i64 0, .int .i64 0]) ?_ 0 _ rfl; (with_reducible repeat (first | refine blk_drewN ?_ _ | refine blk_drew ?_ | refine blk_alloc ?_ _)); exact BK704.out) hg (Kd.R_ne HO_13.out BK704.out (by decide))); replace HB := Aside0.mk (hb); have HO707 := Aside0.mk (ho); clear HO_13; clear ho hb hg hat))
           go_roundg k3
           case measure => have := HJ5.out; have := HK2.out; have := HK3.out; omega
           case rel => exact ⟨(y705), (wrap64 (x81_3 + 1)), aR, H', ⟨by have := HJ5.out; have := HK2.out; have := HK3.out; omega⟩, ⟨sR HO707⟩, ⟨sR HO_698000⟩, ⟨mR (by exact Kd.R_mono HO_698001.out (fun _ hk => trivial))⟩, ⟨sR HO_698002⟩, ⟨sB BK679⟩, ⟨sB BK680⟩, ⟨sB BK681⟩, ⟨sB BK697⟩, ⟨sW HB⟩⟩
          rw [if_neg c108] at H
          exact absurd H (by simp)
         rw [if_neg c107] at H
         exact absurd H (by simp)
        rw [if_neg c106] at H
        exact absurd H (by simp)
       rw [if_neg c105] at H
       have c105b0 : decide (x81_3 < (l0_1.length : Int)) = false := decide_eq_false c105
       clear c105
       by_cases c116 : (x13_3.length : Int) = 0
       ·rw [if_pos c116] at H
        exact absurd H (by simp)
       rw [if_neg c116] at H
       have c116b0 : ((x13_3.length : Int) == 0) = false := beq_eq_false_iff_ne.mpr c116
       have c116b1 : ((x13_3.length : Int) != 0) = true := bne_iff_ne.mpr c116
       have c116b2 : ¬ (x13_3 = []) := fun h_ => c116 (by rw [h_]; rfl)
       obtain ⟨ji117, hji117⟩ : ∃ j_ : Int, (Int.tmod (wrap64 (a3)) (x13_3.length : Int)) = j_ := ⟨_, rfl⟩
       replace H : (if 0 ≤ (ji117) then (if (ji117) < (x13_3.length : Int) then ((cells_Drop.f l0_0 l0_1 l0_2 ((rd_T30 x13_3 (ji117)).f0) ((rd_T30 x13_3 (ji117)).f1)).bind fun bt709 => ((cells_AddUse.f bt709.1 bt709.2.1 bt709.2.2 a1_0 a1_1 a2_0 a2_1 a2_2 a2_3).bind fun bt718 => (if t682 = true then (if t696 = 10 then (some (bt718.2.2.2 == 0)) else (some false)) else (some false)))) else (none)) else (none)) = some r := by first | (rw [hji117] at H; exact H) | (simp only [hji117] at H ⊢; exact H)
       by_cases c118 : 0 ≤ (ji117)
       ·rw [if_pos c118] at H
        have c118b0 : decide (0 ≤ (ji117)) = true := decide_eq_true c118
        clear c118
        by_cases c119 : (ji117) < (x13_3.length : Int)
        ·rw [if_pos c119] at H
         have c119b0 : decide ((ji117) < (x13_3.length : Int)) = true := decide_eq_true c119
         clear c119
         replace H := Option.bind_eq_some_iff.mp H
         obtain ⟨⟨t709, t712, t715⟩, A1200, H⟩ := H
         replace H : ((cells_AddUse.f t709 t712 t715 a1_0 a1_1 a2_0 a2_1 a2_2 a2_3).bind fun bt718 => (if t682 = true then (if t696 = 10 then (some (bt718.2.2.2 == 0)) else (some false)) else (some false))) = some r := H
         have A120 := Aside0.mk A1200
         clear A1200
         replace H := Option.bind_eq_some_iff.mp H
         obtain ⟨⟨t718, t721, t724, t727⟩, A1210, H⟩ := H
         replace H : (if t682 = true then (if t696 = 10 then (some (t727 == 0)) else (some false)) else (some false)) = some r := H
         have A121 := Aside0.mk A1210
         clear A1210
         by_cases c122 : t682 = true
         ·subst c122
          have H1 : (if t696 = 10 then (some (t727 == 0)) else (some false)) = some r := by rw [if_pos rfl] at H; exact H
          clear H
          have H := H1
          clear H1
          by_cases c123 : t696 = 10
          ·rw [if_pos c123] at H
           have c123b0 : (t696 == 10) = true := beq_iff_eq.mpr c123
           have c123b1 : (t696 != 10) = false := bne_eq_false_iff_eq.mpr c123
           clear c123
           obtain rfl := Option.some.inj H
           try go_wp2
           replace HO_13 := Aside0.mk (Kd.R_drew HO_13.out)
           replace HO_698000 := Aside0.mk (Kd.R_drew HO_698000.out)
           replace HO_698001 := Aside0.mk (Kd.R_drew HO_698001.out)
           replace HO_698002 := Aside0.mk (Kd.R_drew HO_698002.out)
           replace BK679 := Aside0.mk (blk_drew BK679.out)
           replace BK680 := Aside0.mk (blk_drew BK680.out)
           replace BK681 := Aside0.mk (blk_drew BK681.out)
           replace BK697 := Aside0.mk (blk_drew BK697.out)
           replace HB := Aside0.mk (below_drew1 HB.out)
           obtain ⟨Ao125, co125, eo125⟩ := Kd.R_slice HO_13.out
           (first | subst eo125 | (injection eo125 with f1_ f2_ f3_; have f4_ := f1_.symm; have f5_ := f3_.symm; clear f1_ f2_ f3_; subst f4_; subst f5_))
           have p708 : 0 ≤ ((ji117) : Int) := dA
           have q708 : (ji117) < (x13_3.length : Int) := dA
           obtain ⟨ad708, e708, hx708_0, hx708_1⟩ := at_T30 (Kd.R_reads' HO_13.out).2.2 (ji117) p708 q708
           cases e708
           replace p708 := eq_true p708
           replace q708 := eq_true q708
           refine start_ (n := 19) (S := fun w' => w'.cell? ⟨gb679, 0, none⟩ = some (.slice A0_0 l0_0.length c0_0) ∧ w'.cell? ⟨gb679, 1, none⟩ = some (.slice A0_1 l0_1.length c0_1) ∧ w'.cell? ⟨gb679, 2, none⟩ = some (.slice A0_2 l0_2.length c0_2) ∧ w'.cell? ⟨gb680, 0, none⟩ = some (.int .i64 a1_0) ∧ w'.cell? ⟨gb680, 1, none⟩ = some (.int .i64 a1_1) ∧ w'.cell? ⟨gb681, 0, none⟩ = some (.int .i64 a2_0) ∧ w'.cell? ⟨gb681, 1, none⟩ = some (.int .i64 a2_1) ∧ w'.cell? ⟨gb681, 2, none⟩ = some (.int .i64 a2_2) ∧ w'.cell? ⟨gb681, 3, none⟩ = some (.int .i64 a2_3) ∧ w'.cell? (ad708.add (((ji117)).toNat * 2)) = some (.int .i64 ((rd_T30 x13_3 (ji117)).f0)) ∧ w'.cell? ⟨(ad708.add (((ji117)).toNat * 2)).block, (ad708.add (((ji117)).toNat * 2)).off + 1, none⟩ = some (.int .i64 ((rd_T30 x13_3 (ji117)).f1))) (ds := []) #[false, false, false, false, false, false, false, false, false, false, false, false, false, false, false, false, false, false, false] (by kernel_rfl) rfl rfl ⟨bt BK679 0, bt BK679 1, bt BK679 2, bt BK680 0, bt BK680 1, bt BK681 0, bt BK681 1, bt BK681 2, bt BK681 3, hx708_0, hx708_1⟩ (fun hHeld => ?_); refine with_tabW slotmeshlaw12_CellsRoom.tab19 slotmeshlaw12_CellsRoom.bits19 (fun HT_ HW_ => ?_)
           generalize wr.drew = w124 at HO_13 HO_698000 HO_698001 HO_698002 BK679 BK680 BK681 BK697 HB hx708_0 hx708_1 hHeld ⊢
           refine run_ [(1, some 93), (2, some 94), (3, some 95), (4, some 96), (5, some 97), (6, some 98), (7, some 99), (0, some 92), (8, some 100), (10, some 102), (11, some 103)] ?_
           iterate 7 (refine runP (v := ?_) (a' := ?_) rfl rfl (any_of HT_.out (by kernel_rfl)) (fun _ _ _ h => h) (Or.inl ⟨by rfl, ?_⟩) ?_ ?_; rotate_left; (· intro w'; go_simp; with_reducible rfl); rotate_left; (· simp only [Act.put, List.setIfInBounds_toArray, List.set_cons_zero, List.set_cons_succ, i64_w, i32_w]; rfl))
           iterate 4 (refine runT (v := ?_) (a' := ?_) rfl rfl (take_ofW HT_.out HW_.out (by kernel_rfl)) (fun _ _ _ h => h) (Or.inl ⟨by rfl, ?_⟩) hHeld ?_ ?_; rotate_left; (· rintro w' ⟨s0, s1, s2, s3, s4, s5, s6, s7, s8, s9, s10⟩; go_simp; with_reducible rfl); rotate_left; (· simp only [Act.put, List.setIfInBounds_toArray, List.set_cons_zero, List.set_cons_succ, i64_w, i32_w]; rfl))
           refine runE ?_
           refine join_ (σ := Value × Value × Value × Value × Value × Value × Nat) 2 #[true, true, true, true, true, true, true, true, true, true, true, true, true, true, true, true, true, false, false] (fun s_ => [(101, .agg #[s_.1, s_.2.1, s_.2.2.1]), (104, .tuple #[.agg #[s_.2.2.2.1, s_.2.2.2.2.1, s_.2.2.2.2.2.1], .int .i64 t727]), (18, .pointer (some ⟨s_.2.2.2.2.2.2, 0, none⟩)), (91, .tuple #[.agg #[s_.2.2.2.1, s_.2.2.2.2.1, s_.2.2.2.2.2.1], .int .i64 t727]), (105, .agg #[s_.2.2.2.1, s_.2.2.2.2.1, s_.2.2.2.2.2.1]), (106, .int .i64 t727)]) (fun s_ w' => (w'.cell? ⟨gb679, 0, none⟩ = some (.slice A0_0 l0_0.length c0_0) ∧ w'.cell? ⟨gb679, 1, none⟩ = some (.slice A0_1 l0_1.length c0_1) ∧ w'.cell? ⟨gb679, 2, none⟩ = some (.slice A0_2 l0_2.length c0_2) ∧ w'.cell? ⟨gb680, 0, none⟩ = some (.int .i64 a1_0) ∧ w'.cell? ⟨gb680, 1, none⟩ = some (.int .i64 a1_1) ∧ w'.cell? ⟨gb681, 0, none⟩ = some (.int .i64 a2_0) ∧ w'.cell? ⟨gb681, 1, none⟩ = some (.int .i64 a2_1) ∧ w'.cell? ⟨gb681, 2, none⟩ = some (.int .i64 a2_2) ∧ w'.cell? ⟨gb681, 3, none⟩ = some (.int .i64 a2_3) ∧ w'.cell? (ad708.add (((ji117)).toNat * 2)) = some (.int .i64 ((rd_T30 x13_3 (ji117)).f0)) ∧ w'.cell? ⟨(ad708.add (((ji117)).toNat * 2)).block, (ad708.add (((ji117)).toNat * 2)).off + 1, none⟩ = some (.int .i64 ((rd_T30 x13_3 (ji117)).f1))) ∧ (Kd.R k32 32 w' w.heap.size (fun k_ => some k_ ≠ (s_.2.2.2.1 : Value).ownBlock ∧ some k_ ≠ (.slice Ao82 t687.length co82 : Value).ownBlock ∧ k_ ≠ gb681) s_.1 t709) ∧ (Kd.R k34 34 w' w.heap.size (fun k_ => some k_ ≠ (s_.2.2.2.2.1 : Value).ownBlock ∧ some k_ ≠ (.slice Ao87 t690.length co87 : Value).ownBlock) s_.2.1 t712) ∧ (Kd.R k51 51 w' w.heap.size (fun k_ => some k_ ≠ (s_.2.2.2.2.2.1 : Value).ownBlock ∧ some k_ ≠ (.slice Ao88 t693.length co88 : Value).ownBlock) s_.2.2.1 t715) ∧ (Kd.R k32 32 w' w.heap.size (fun k_ => some k_ ≠ (s_.1 : Value).ownBlock ∧ some k_ ≠ (.slice Ao82 t687.length co82 : Value).ownBlock ∧ k_ ≠ gb681) s_.2.2.2.1 t718) ∧ (Kd.R k34 34 w' w.heap.size (fun k_ => some k_ ≠ (s_.2.1 : Value).ownBlock ∧ some k_ ≠ (.slice Ao87 t690.length co87 : Value).ownBlock) s_.2.2.2.2.1 t721) ∧ (Kd.R k51 51 w' w.heap.size (fun k_ => some k_ ≠ (s_.2.2.1 : Value).ownBlock ∧ some k_ ≠ (.slice Ao88 t693.length co88 : Value).ownBlock) s_.2.2.2.2.2.1 t724) ∧ (Kd.R k30 30 w' w.heap.size (fun _ => True) (.slice (some ad708) x13_3.length co125) x13_3) ∧ (Kd.R k32 32 w' w.heap.size (fun k_ => some k_ ≠ (s_.1 : Value).ownBlock ∧ some k_ ≠ (s_.2.2.2.1 : Value).ownBlock ∧ k_ ≠ gb681) (.slice Ao82 t687.length co82) t687) ∧ (Kd.R k34 34 w' w.heap.size (fun k_ => some k_ ≠ (s_.2.1 : Value).ownBlock ∧ some k_ ≠ (s_.2.2.2.2.1 : Value).ownBlock) (.slice Ao87 t690.length co87) t690) ∧ (Kd.R k51 51 w' w.heap.size (fun k_ => some k_ ≠ (s_.2.2.1 : Value).ownBlock ∧ some k_ ≠ (s_.2.2.2.2.2.1 : Value).ownBlock) (.slice Ao88 t693.length co88) t693) ∧ (w'.heap[gb679]? = some (.cells #[.slice A0_0 l0_0.length c0_0, .slice A0_1 l0_1.length c0_1, .slice A0_2 l0_2.length c0_2] 26 (0, 0))) ∧ (w'.heap[gb680]? = some (.cells #[.int .i64 a1_0, .int .i64 a1_1] 28 (0, 0))) ∧ (w'.heap[gb681]? = some (.cells #[.int .i64 a2_0, .int .i64 a2_1, .int .i64 a2_2, .int .i64 a2_3] 32 (0, 0))) ∧ (w'.heap[gb697]? = some (.cells #[.slice Ao82 t687.length co82, .slice Ao87 t690.length co87, .slice Ao88 t693.length co88] 26 (0, 0))) ∧ (w'.heap[s_.2.2.2.2.2.2]? = some (.cells #[.slice none 0 0, .slice none 0 0, .slice none 0 0] 26 (0, 0))) ∧ (w.heap.size ≤ s_.2.2.2.2.2.2) ∧ (w.heap.size ≤ s_.2.2.2.2.2.2) ∧ (gb679 ≠ s_.2.2.2.2.2.2) ∧ (s_.2.2.2.2.2.2 ≠ gb679) ∧ (gb680 ≠ s_.2.2.2.2.2.2) ∧ (s_.2.2.2.2.2.2 ≠ gb680) ∧ (gb681 ≠ s_.2.2.2.2.2.2) ∧ (s_.2.2.2.2.2.2 ≠ gb681) ∧ (gb697 ≠ s_.2.2.2.2.2.2) ∧ (s_.2.2.2.2.2.2 ≠ gb697) ∧ (Below w.heap.size w w')) ?_ ?_
           rotate_left
           ·intro hCont
            refine two_ (i := 9) (j := 16) (Ni := some 101) (Nj := some 18) #[true, true, true, true, true, true, true, true, true, true, true, true, false, false, false, false, false, false, false] #[true, true, true, true, true, true, true, true, true, false, true, true, false, false, false, false, true, false, false] rfl rfl rfl rfl (two_of HT_.out (by kernel_rfl)) (by decide) (by decide) (fun K hK => ?_) (fun K hK => ?_)
            ·skip
             refine goes_ Try.func21 (by kernel_rfl) rfl #[.agg #[.slice A0_0 l0_0.length c0_0, .slice A0_1 l0_1.length c0_1, .slice A0_2 l0_2.length c0_2], .agg #[.int .i64 ((rd_T30 x13_3 (ji117)).f0), .int .i64 ((rd_T30 x13_3 (ji117)).f1)]] (by rfl) rfl rfl (by (try simp only [List.map_toArray, List.map_cons, List.map_nil]); first | done | (simp only [hji117]; rfl) | rfl | (simp only [List.length_drop, List.length_take]; rfl)) ?_
             with_reducible refine (cells_Drop.calls _ _ l0_0 _ _ l0_1 _ _ l0_2 ((rd_T30 x13_3 (ji117)).f0) ((rd_T30 x13_3 (ji117)).f1) t709 t712 t715 _ ?side1 ?side2 ?side3 ?side4 ?side5 ?side6 A120.out).mono ?_
             (case side1 => exact sC (Kd.C_below HR0_0.out HB.out))
             (case side2 => exact HC0_0.out)
             (case side3 => exact sC (Kd.C_below HR0_1.out HB.out))
             (case side4 => exact HC0_1.out)
             (case side5 => exact sC (Kd.C_below HR0_2.out HB.out))
             (case side6 => exact HC0_2.out)
             rintro e w126 ⟨v710, v713, v716, rfl, ho0, ho1, ho2, hb⟩
             have HS9_ := (hb.cell (World.block_lt_of_cell? _ _ (hHeld.2.2.2.2.2.2.2.2.2.1))).trans (hHeld.2.2.2.2.2.2.2.2.2.1)
             have HS10_ := (hb.cell (World.block_lt_of_cell? _ _ (hHeld.2.2.2.2.2.2.2.2.2.2))).trans (hHeld.2.2.2.2.2.2.2.2.2.2)
             refine ⟨_, rfl, ?_⟩
             replace HO_13 := tR HO_13 hb
             have HO711 := Aside0.mk (Kd.R_lower (Kd.R_newB (Kd.R_new' ho0 (Kd.R_lt (sR HO_698000))) (g := gb681) (o := .cells #[.int .i64 a2_0, .int .i64 a2_1, .int .i64 a2_2, .int .i64 a2_3] 32 (0, 0)) (sB BK681)) (below_size (sW HB)))
             replace HO_698000 := eR HO_698000 ho0 hb
             have HO714 := nR ho1 HO_698001 HB
             replace HO_698001 := eR HO_698001 ho1 hb
             have HO717 := nR ho2 HO_698002 HB
             replace HO_698002 := eR HO_698002 ho2 hb
             replace BK679 := tB BK679 hb
             replace BK680 := tB BK680 hb
             replace BK681 := tB BK681 hb
             replace BK697 := tB BK697 hb
             replace HB := tW HB hb
             (try clear hb)
             (try clear hb2)
             (try clear hk)
             (try clear hi)
             (try clear ho0)
             (try clear ho1)
             (try clear ho2)
             obtain ⟨Ao127, co127, eo127⟩ := Kd.R_slice HO711.out
             (first | subst eo127 | (injection eo127 with f1_ f2_ f3_; have f4_ := f1_.symm; have f5_ := f3_.symm; clear f1_ f2_ f3_; subst f4_; subst f5_))
             obtain ⟨Ao128, co128, eo128⟩ := Kd.R_slice HO714.out
             (first | subst eo128 | (injection eo128 with f1_ f2_ f3_; have f4_ := f1_.symm; have f5_ := f3_.symm; clear f1_ f2_ f3_; subst f4_; subst f5_))
             obtain ⟨Ao129, co129, eo129⟩ := Kd.R_slice HO717.out
             (first | subst eo129 | (injection eo129 with f1_ f2_ f3_; have f4_ := f1_.symm; have f5_ := f3_.symm; clear f1_ f2_ f3_; subst f4_; subst f5_))
             refine hK.out _ _ ⟨bt BK679 0, bt BK679 1, bt BK679 2, bt BK680 0, bt BK680 1, bt BK681 0, bt BK681 1, bt BK681 2, bt BK681 3, HS9_, HS10_⟩ (fun hHeld => ?_)
             clear hK K
             refine norm_ (a' := ?_) ?_ ?_
             rotate_left
             ·show Act.put _ (some 101) _ = _
              simp only [Act.put, List.setIfInBounds_toArray, List.set_cons_zero, List.set_cons_succ, i64_w, i32_w]
              rfl
             refine two_ (i := 12) (j := 16) (Ni := some 104) (Nj := some 18) #[true, true, true, true, true, true, true, true, true, true, true, true, true, false, false, false, false, false, false] #[true, true, true, true, true, true, true, true, true, true, true, true, false, false, false, false, true, false, false] rfl rfl rfl rfl (two_of HT_.out (by kernel_rfl)) (by decide) (by decide) (fun K hK => ?_) (fun K hK => ?_)
             ·skip
              refine gO Try.func12 #[.agg #[.slice Ao127 t709.length co127, .slice Ao128 t712.length co128, .slice Ao129 t715.length co129], .agg #[.int .i64 a1_0, .int .i64 a1_1], .agg #[.int .i64 a2_0, .int .i64 a2_1, .int .i64 a2_2, .int .i64 a2_3]] ?_
              with_reducible refine (cells_AddUse.calls _ _ t709 _ _ t712 _ _ t715 a1_0 a1_1 a2_0 a2_1 a2_2 a2_3 t718 t721 t724 t727 _ ?side1 ?side2 ?side3 ?side4 ?side5 ?side6 A121.out).mono ?_
              (case side1 => exact sC (Kd.R_reads' HO711.out).2.2)
              (case side2 => exact (Kd.R_reads' HO711.out).2.1)
              (case side3 => exact sC (Kd.R_reads' HO714.out).2.2)
              (case side4 => exact (Kd.R_reads' HO714.out).2.1)
              (case side5 => exact sC (Kd.R_reads' HO717.out).2.2)
              (case side6 => exact (Kd.R_reads' HO717.out).2.1)
              rintro e w130 ⟨v719, v722, v725, rfl, ho0, ho1, ho2, hb⟩
              have HS9_ := (hb.cell (World.block_lt_of_cell? _ _ (hHeld.2.2.2.2.2.2.2.2.2.1))).trans (hHeld.2.2.2.2.2.2.2.2.2.1)
              have HS10_ := (hb.cell (World.block_lt_of_cell? _ _ (hHeld.2.2.2.2.2.2.2.2.2.2))).trans (hHeld.2.2.2.2.2.2.2.2.2.2)
              refine ⟨_, rfl, ?_⟩
              replace HO_13 := tR HO_13 hb
              have HO720 := Aside0.mk (Kd.R_lower (Kd.R_newB (Kd.R_new' (Kd.R_new' ho0 (Kd.R_lt (sR HO_698000))) (Kd.R_lt (sR HO711))) (g := gb681) (o := .cells #[.int .i64 a2_0, .int .i64 a2_1, .int .i64 a2_2, .int .i64 a2_3] 32 (0, 0)) (sB BK681)) (below_size (sW HB)))
              replace HO_698000 := eR HO_698000 ho0 hb
              replace HO711 := eR HO711 ho0 hb
              have HO723 := Aside0.mk (Kd.R_lower (Kd.R_new' (Kd.R_new' ho1 (Kd.R_lt (sR HO_698001))) (Kd.R_lt (sR HO714))) (below_size (sW HB)))
              replace HO_698001 := eR HO_698001 ho1 hb
              replace HO714 := eR HO714 ho1 hb
              have HO726 := Aside0.mk (Kd.R_lower (Kd.R_new' (Kd.R_new' ho2 (Kd.R_lt (sR HO_698002))) (Kd.R_lt (sR HO717))) (below_size (sW HB)))
              replace HO_698002 := eR HO_698002 ho2 hb
              replace HO717 := eR HO717 ho2 hb
              replace BK679 := tB BK679 hb
              replace BK680 := tB BK680 hb
              replace BK681 := tB BK681 hb
              replace BK697 := tB BK697 hb
              replace HB := tW HB hb
              (try clear hb)
              (try clear hb2)
              (try clear hk)
              (try clear hi)
              (try clear ho0)
              (try clear ho1)
              (try clear ho2)
              refine hK.out _ _ ⟨bt BK679 0, bt BK679 1, bt BK679 2, bt BK680 0, bt BK680 1, bt BK681 0, bt BK681 1, bt BK681 2, bt BK681 3, HS9_, HS10_⟩ (fun hHeld => ?_)
              clear hK K
              refine norm_ (a' := ?_) ?_ ?_
              rotate_left
              ·show Act.put _ (some 104) _ = _
               simp only [Act.put, List.setIfInBounds_toArray, List.set_cons_zero, List.set_cons_succ, i64_w, i32_w]
               rfl
              refine run_ [(13, some 91), (14, some 105), (15, some 106)] ?_
              iterate 3 (refine runP (v := ?_) (a' := ?_) rfl rfl (any_of HT_.out (by kernel_rfl)) (fun _ _ _ h => h) (Or.inl ⟨by rfl, ?_⟩) ?_ ?_; rotate_left; (· intro w'; go_simp; with_reducible rfl); rotate_left; (· simp only [Act.put, List.setIfInBounds_toArray, List.set_cons_zero, List.set_cons_succ, i64_w, i32_w]; rfl))
              refine runE ?_
              refine one_ (i := 16) (N := some 18) #[true, true, true, true, true, true, true, true, true, true, true, true, true, true, true, true, true, false, false] rfl rfl (one_of HT_.out (by kernel_rfl)) (by decide) (fun K hK => ?_)
              refine bS (N := 18) (cs := #[.slice none 0 0, .slice none 0 0, .slice none 0 0]) (t := 26) ?_
              intro gb728 hg w131 hbox hb
              have HS9_ := (hb.cell (World.block_lt_of_cell? _ _ (hHeld.2.2.2.2.2.2.2.2.2.1))).trans (hHeld.2.2.2.2.2.2.2.2.2.1)
              have HS10_ := (hb.cell (World.block_lt_of_cell? _ _ (hHeld.2.2.2.2.2.2.2.2.2.2))).trans (hHeld.2.2.2.2.2.2.2.2.2.2)
              replace HO_13 := tR HO_13 hb
              replace HO_698000 := tR HO_698000 hb
              replace HO_698001 := tR HO_698001 hb
              replace HO_698002 := tR HO_698002 hb
              replace HO711 := tR HO711 hb
              replace HO714 := tR HO714 hb
              replace HO717 := tR HO717 hb
              replace HO720 := tR HO720 hb
              replace HO723 := tR HO723 hb
              replace HO726 := tR HO726 hb
              have BK728 := Aside0.mk (hbox)
              have GW728 := gW hg HB
              have GE728 := GW728
              replace HB := tW HB hb
              have NB679_728 := gL hg BK679
              have NB728_679 := gG hg BK679
              replace BK679 := tB BK679 hb
              have NB680_728 := gL hg BK680
              have NB728_680 := gG hg BK680
              replace BK680 := tB BK680 hb
              have NB681_728 := gL hg BK681
              have NB728_681 := gG hg BK681
              replace BK681 := tB BK681 hb
              have NB697_728 := gL hg BK697
              have NB728_697 := gG hg BK697
              replace BK697 := tB BK697 hb
              clear hb hbox hg
              refine hK.out _ _ ⟨bt BK679 0, bt BK679 1, bt BK679 2, bt BK680 0, bt BK680 1, bt BK681 0, bt BK681 1, bt BK681 2, bt BK681 3, HS9_, HS10_⟩ (fun hHeld => ?_)
              clear hK K
              refine norm_ (a' := ?_) ?_ ?_
              rotate_left
              ·show Act.put _ (some 18) _ = _
               simp only [Act.put, List.setIfInBounds_toArray, List.set_cons_zero, List.set_cons_succ, i64_w, i32_w]
               rfl
              exact norm_ (by simp only [putAll, Act.put, List.setIfInBounds_toArray, List.set_cons_zero, List.set_cons_succ]) (hCont (.slice Ao127 t709.length co127, .slice Ao128 t712.length co128, .slice Ao129 t715.length co129, v719, v722, v725, gb728) _ ⟨hHeld, (mR (by exact Kd.R_mono HO711.out (fun _ hk => ⟨hk.2, ⟨hk.1.1.2, hk.1.2⟩⟩))), (mR (by exact Kd.R_mono HO714.out (fun _ hk => ⟨hk.2, hk.1.2⟩))), (mR (by exact Kd.R_mono HO717.out (fun _ hk => ⟨hk.2, hk.1.2⟩))), (mR (by exact Kd.R_mono HO720.out (fun _ hk => ⟨hk.1.2, ⟨hk.1.1.2, hk.2⟩⟩))), (mR (by exact Kd.R_mono HO723.out (fun _ hk => ⟨hk.2, hk.1.2⟩))), (mR (by exact Kd.R_mono HO726.out (fun _ hk => ⟨hk.2, hk.1.2⟩))), (sR HO_13), (mR (by exact Kd.R_mono HO_698000.out (fun _ hk => ⟨hk.1.2, ⟨hk.2, hk.1.1⟩⟩))), (mR (by exact Kd.R_mono HO_698001.out (fun _ hk => ⟨hk.1.2, hk.2⟩))), (mR (by exact Kd.R_mono HO_698002.out (fun _ hk => ⟨hk.1.2, hk.2⟩))), (sB BK679), (sB BK680), (sB BK681), (sB BK697), (sB BK728), GW728.out, GE728.out, NB679_728.out, NB728_679.out, NB680_728.out, NB728_680.out, NB681_728.out, NB728_681.out, NB697_728.out, NB728_697.out, (sW HB)⟩)
             skip
             refine bS (N := 18) (cs := #[.slice none 0 0, .slice none 0 0, .slice none 0 0]) (t := 26) ?_
             intro gb728 hg w127 hbox hb
             have HS9_ := (hb.cell (World.block_lt_of_cell? _ _ (hHeld.2.2.2.2.2.2.2.2.2.1))).trans (hHeld.2.2.2.2.2.2.2.2.2.1)
             have HS10_ := (hb.cell (World.block_lt_of_cell? _ _ (hHeld.2.2.2.2.2.2.2.2.2.2))).trans (hHeld.2.2.2.2.2.2.2.2.2.2)
             replace HO_13 := tR HO_13 hb
             replace HO_698000 := tR HO_698000 hb
             replace HO_698001 := tR HO_698001 hb
             replace HO_698002 := tR HO_698002 hb
             replace HO711 := tR HO711 hb
             replace HO714 := tR HO714 hb
             replace HO717 := tR HO717 hb
             have BK728 := Aside0.mk (hbox)
             have GW728 := gW hg HB
             have GE728 := GW728
             replace HB := tW HB hb
             have NB679_728 := gL hg BK679
             have NB728_679 := gG hg BK679
             replace BK679 := tB BK679 hb
             have NB680_728 := gL hg BK680
             have NB728_680 := gG hg BK680
             replace BK680 := tB BK680 hb
             have NB681_728 := gL hg BK681
             have NB728_681 := gG hg BK681
             replace BK681 := tB BK681 hb
             have NB697_728 := gL hg BK697
             have NB728_697 := gG hg BK697
             replace BK697 := tB BK697 hb
             clear hb hbox hg
             obtain ⟨Ao128, co128, eo128⟩ := Kd.R_slice HO711.out
             (first | subst eo128 | (injection eo128 with f1_ f2_ f3_; have f4_ := f1_.symm; have f5_ := f3_.symm; clear f1_ f2_ f3_; subst f4_; subst f5_))
             obtain ⟨Ao129, co129, eo129⟩ := Kd.R_slice HO714.out
             (first | subst eo129 | (injection eo129 with f1_ f2_ f3_; have f4_ := f1_.symm; have f5_ := f3_.symm; clear f1_ f2_ f3_; subst f4_; subst f5_))
             obtain ⟨Ao130, co130, eo130⟩ := Kd.R_slice HO717.out
             (first | subst eo130 | (injection eo130 with f1_ f2_ f3_; have f4_ := f1_.symm; have f5_ := f3_.symm; clear f1_ f2_ f3_; subst f4_; subst f5_))
             refine hK.out _ _ ⟨bt BK679 0, bt BK679 1, bt BK679 2, bt BK680 0, bt BK680 1, bt BK681 0, bt BK681 1, bt BK681 2, bt BK681 3, HS9_, HS10_⟩ (fun hHeld => ?_)
             clear hK K
             refine norm_ (a' := ?_) ?_ ?_
             rotate_left
             ·show Act.put _ (some 18) _ = _
              simp only [Act.put, List.setIfInBounds_toArray, List.set_cons_zero, List.set_cons_succ, i64_w, i32_w]
              rfl
             refine one_ (i := 12) (N := some 104) #[true, true, true, true, true, true, true, true, true, true, true, true, true, false, false, false, true, false, false] rfl rfl (one_of HT_.out (by kernel_rfl)) (by decide) (fun K hK => ?_)
             refine gO Try.func12 #[.agg #[.slice Ao128 t709.length co128, .slice Ao129 t712.length co129, .slice Ao130 t715.length co130], .agg #[.int .i64 a1_0, .int .i64 a1_1], .agg #[.int .i64 a2_0, .int .i64 a2_1, .int .i64 a2_2, .int .i64 a2_3]] ?_
             with_reducible refine (cells_AddUse.calls _ _ t709 _ _ t712 _ _ t715 a1_0 a1_1 a2_0 a2_1 a2_2 a2_3 t718 t721 t724 t727 _ ?side1 ?side2 ?side3 ?side4 ?side5 ?side6 A121.out).mono ?_
             (case side1 => exact sC (Kd.R_reads' HO711.out).2.2)
             (case side2 => exact (Kd.R_reads' HO711.out).2.1)
             (case side3 => exact sC (Kd.R_reads' HO714.out).2.2)
             (case side4 => exact (Kd.R_reads' HO714.out).2.1)
             (case side5 => exact sC (Kd.R_reads' HO717.out).2.2)
             (case side6 => exact (Kd.R_reads' HO717.out).2.1)
             rintro e w131 ⟨v719, v722, v725, rfl, ho0, ho1, ho2, hb⟩
             have HS9_ := (hb.cell (World.block_lt_of_cell? _ _ (hHeld.2.2.2.2.2.2.2.2.2.1))).trans (hHeld.2.2.2.2.2.2.2.2.2.1)
             have HS10_ := (hb.cell (World.block_lt_of_cell? _ _ (hHeld.2.2.2.2.2.2.2.2.2.2))).trans (hHeld.2.2.2.2.2.2.2.2.2.2)
             refine ⟨_, rfl, ?_⟩
             replace HO_13 := tR HO_13 hb
             have HO720 := Aside0.mk (Kd.R_lower (Kd.R_newB (Kd.R_new' (Kd.R_new' ho0 (Kd.R_lt (sR HO_698000))) (Kd.R_lt (sR HO711))) (g := gb681) (o := .cells #[.int .i64 a2_0, .int .i64 a2_1, .int .i64 a2_2, .int .i64 a2_3] 32 (0, 0)) (sB BK681)) (below_size (sW HB)))
             replace HO_698000 := eR HO_698000 ho0 hb
             replace HO711 := eR HO711 ho0 hb
             have HO723 := Aside0.mk (Kd.R_lower (Kd.R_new' (Kd.R_new' ho1 (Kd.R_lt (sR HO_698001))) (Kd.R_lt (sR HO714))) (below_size (sW HB)))
             replace HO_698001 := eR HO_698001 ho1 hb
             replace HO714 := eR HO714 ho1 hb
             have HO726 := Aside0.mk (Kd.R_lower (Kd.R_new' (Kd.R_new' ho2 (Kd.R_lt (sR HO_698002))) (Kd.R_lt (sR HO717))) (below_size (sW HB)))
             replace HO_698002 := eR HO_698002 ho2 hb
             replace HO717 := eR HO717 ho2 hb
             replace BK679 := tB BK679 hb
             replace BK680 := tB BK680 hb
             replace BK681 := tB BK681 hb
             replace BK697 := tB BK697 hb
             replace BK728 := tB BK728 hb
             replace HB := tW HB hb
             (try clear hb)
             (try clear hb2)
             (try clear hk)
             (try clear hi)
             (try clear ho0)
             (try clear ho1)
             (try clear ho2)
             refine hK.out _ _ ⟨bt BK679 0, bt BK679 1, bt BK679 2, bt BK680 0, bt BK680 1, bt BK681 0, bt BK681 1, bt BK681 2, bt BK681 3, HS9_, HS10_⟩ (fun hHeld => ?_)
             clear hK K
             refine norm_ (a' := ?_) ?_ ?_
             rotate_left
             ·show Act.put _ (some 104) _ = _
              simp only [Act.put, List.setIfInBounds_toArray, List.set_cons_zero, List.set_cons_succ, i64_w, i32_w]
              rfl
             refine run_ [(13, some 91), (14, some 105), (15, some 106)] ?_
             iterate 3 (refine runP (v := ?_) (a' := ?_) rfl rfl (any_of HT_.out (by kernel_rfl)) (fun _ _ _ h => h) (Or.inl ⟨by rfl, ?_⟩) ?_ ?_; rotate_left; (· intro w'; go_simp; with_reducible rfl); rotate_left; (· simp only [Act.put, List.setIfInBounds_toArray, List.set_cons_zero, List.set_cons_succ, i64_w, i32_w]; rfl))
             refine runE ?_
             exact norm_ (by simp only [putAll, Act.put, List.setIfInBounds_toArray, List.set_cons_zero, List.set_cons_succ]) (hCont (.slice Ao128 t709.length co128, .slice Ao129 t712.length co129, .slice Ao130 t715.length co130, v719, v722, v725, gb728) _ ⟨hHeld, (mR (by exact Kd.R_mono HO711.out (fun _ hk => ⟨hk.2, ⟨hk.1.1.2, hk.1.2⟩⟩))), (mR (by exact Kd.R_mono HO714.out (fun _ hk => ⟨hk.2, hk.1.2⟩))), (mR (by exact Kd.R_mono HO717.out (fun _ hk => ⟨hk.2, hk.1.2⟩))), (mR (by exact Kd.R_mono HO720.out (fun _ hk => ⟨hk.1.2, ⟨hk.1.1.2, hk.2⟩⟩))), (mR (by exact Kd.R_mono HO723.out (fun _ hk => ⟨hk.2, hk.1.2⟩))), (mR (by exact Kd.R_mono HO726.out (fun _ hk => ⟨hk.2, hk.1.2⟩))), (sR HO_13), (mR (by exact Kd.R_mono HO_698000.out (fun _ hk => ⟨hk.1.2, ⟨hk.2, hk.1.1⟩⟩))), (mR (by exact Kd.R_mono HO_698001.out (fun _ hk => ⟨hk.1.2, hk.2⟩))), (mR (by exact Kd.R_mono HO_698002.out (fun _ hk => ⟨hk.1.2, hk.2⟩))), (sB BK679), (sB BK680), (sB BK681), (sB BK697), (sB BK728), GW728.out, GE728.out, NB679_728.out, NB728_679.out, NB680_728.out, NB728_680.out, NB681_728.out, NB728_681.out, NB697_728.out, NB728_697.out, (sW HB)⟩)
            skip
            refine bS (N := 18) (cs := #[.slice none 0 0, .slice none 0 0, .slice none 0 0]) (t := 26) ?_
            intro gb728 hg w126 hbox hb
            have HS9_ := (hb.cell (World.block_lt_of_cell? _ _ (hHeld.2.2.2.2.2.2.2.2.2.1))).trans (hHeld.2.2.2.2.2.2.2.2.2.1)
            have HS10_ := (hb.cell (World.block_lt_of_cell? _ _ (hHeld.2.2.2.2.2.2.2.2.2.2))).trans (hHeld.2.2.2.2.2.2.2.2.2.2)
            replace HO_13 := tR HO_13 hb
            replace HO_698000 := tR HO_698000 hb
            replace HO_698001 := tR HO_698001 hb
            replace HO_698002 := tR HO_698002 hb
            have BK728 := Aside0.mk (hbox)
            have GW728 := gW hg HB
            have GE728 := GW728
            replace HB := tW HB hb
            have NB679_728 := gL hg BK679
            have NB728_679 := gG hg BK679
            replace BK679 := tB BK679 hb
            have NB680_728 := gL hg BK680
            have NB728_680 := gG hg BK680
            replace BK680 := tB BK680 hb
            have NB681_728 := gL hg BK681
            have NB728_681 := gG hg BK681
            replace BK681 := tB BK681 hb
            have NB697_728 := gL hg BK697
            have NB728_697 := gG hg BK697
            replace BK697 := tB BK697 hb
            clear hb hbox hg
            refine hK.out _ _ ⟨bt BK679 0, bt BK679 1, bt BK679 2, bt BK680 0, bt BK680 1, bt BK681 0, bt BK681 1, bt BK681 2, bt BK681 3, HS9_, HS10_⟩ (fun hHeld => ?_)
            clear hK K
            refine norm_ (a' := ?_) ?_ ?_
            rotate_left
            ·show Act.put _ (some 18) _ = _
             simp only [Act.put, List.setIfInBounds_toArray, List.set_cons_zero, List.set_cons_succ, i64_w, i32_w]
             rfl
            refine one_ (i := 9) (N := some 101) #[true, true, true, true, true, true, true, true, true, true, true, true, false, false, false, false, true, false, false] rfl rfl (one_of HT_.out (by kernel_rfl)) (by decide) (fun K hK => ?_)
            refine goes_ Try.func21 (by kernel_rfl) rfl #[.agg #[.slice A0_0 l0_0.length c0_0, .slice A0_1 l0_1.length c0_1, .slice A0_2 l0_2.length c0_2], .agg #[.int .i64 ((rd_T30 x13_3 (ji117)).f0), .int .i64 ((rd_T30 x13_3 (ji117)).f1)]] (by rfl) rfl rfl (by (try simp only [List.map_toArray, List.map_cons, List.map_nil]); first | done | (simp only [hji117]; rfl) | rfl | (simp only [List.length_drop, List.length_take]; rfl)) ?_
            with_reducible refine (cells_Drop.calls _ _ l0_0 _ _ l0_1 _ _ l0_2 ((rd_T30 x13_3 (ji117)).f0) ((rd_T30 x13_3 (ji117)).f1) t709 t712 t715 _ ?side1 ?side2 ?side3 ?side4 ?side5 ?side6 A120.out).mono ?_
            (case side1 => exact sC (Kd.C_below HR0_0.out HB.out))
            (case side2 => exact HC0_0.out)
            (case side3 => exact sC (Kd.C_below HR0_1.out HB.out))
            (case side4 => exact HC0_1.out)
            (case side5 => exact sC (Kd.C_below HR0_2.out HB.out))
            (case side6 => exact HC0_2.out)
            rintro e w127 ⟨v710, v713, v716, rfl, ho0, ho1, ho2, hb⟩
            have HS9_ := (hb.cell (World.block_lt_of_cell? _ _ (hHeld.2.2.2.2.2.2.2.2.2.1))).trans (hHeld.2.2.2.2.2.2.2.2.2.1)
            have HS10_ := (hb.cell (World.block_lt_of_cell? _ _ (hHeld.2.2.2.2.2.2.2.2.2.2))).trans (hHeld.2.2.2.2.2.2.2.2.2.2)
            refine ⟨_, rfl, ?_⟩
            replace HO_13 := tR HO_13 hb
            have HO711 := Aside0.mk (Kd.R_lower (Kd.R_newB (Kd.R_new' ho0 (Kd.R_lt (sR HO_698000))) (g := gb681) (o := .cells #[.int .i64 a2_0, .int .i64 a2_1, .int .i64 a2_2, .int .i64 a2_3] 32 (0, 0)) (sB BK681)) (below_size (sW HB)))
            replace HO_698000 := eR HO_698000 ho0 hb
            have HO714 := nR ho1 HO_698001 HB
            replace HO_698001 := eR HO_698001 ho1 hb
            have HO717 := nR ho2 HO_698002 HB
            replace HO_698002 := eR HO_698002 ho2 hb
            replace BK679 := tB BK679 hb
            replace BK680 := tB BK680 hb
            replace BK681 := tB BK681 hb
            replace BK697 := tB BK697 hb
            replace BK728 := tB BK728 hb
            replace HB := tW HB hb
            (try clear hb)
            (try clear hb2)
            (try clear hk)
            (try clear hi)
            (try clear ho0)
            (try clear ho1)
            (try clear ho2)
            obtain ⟨Ao128, co128, eo128⟩ := Kd.R_slice HO711.out
            (first | subst eo128 | (injection eo128 with f1_ f2_ f3_; have f4_ := f1_.symm; have f5_ := f3_.symm; clear f1_ f2_ f3_; subst f4_; subst f5_))
            obtain ⟨Ao129, co129, eo129⟩ := Kd.R_slice HO714.out
            (first | subst eo129 | (injection eo129 with f1_ f2_ f3_; have f4_ := f1_.symm; have f5_ := f3_.symm; clear f1_ f2_ f3_; subst f4_; subst f5_))
            obtain ⟨Ao130, co130, eo130⟩ := Kd.R_slice HO717.out
            (first | subst eo130 | (injection eo130 with f1_ f2_ f3_; have f4_ := f1_.symm; have f5_ := f3_.symm; clear f1_ f2_ f3_; subst f4_; subst f5_))
            refine hK.out _ _ ⟨bt BK679 0, bt BK679 1, bt BK679 2, bt BK680 0, bt BK680 1, bt BK681 0, bt BK681 1, bt BK681 2, bt BK681 3, HS9_, HS10_⟩ (fun hHeld => ?_)
            clear hK K
            refine norm_ (a' := ?_) ?_ ?_
            rotate_left
            ·show Act.put _ (some 101) _ = _
             simp only [Act.put, List.setIfInBounds_toArray, List.set_cons_zero, List.set_cons_succ, i64_w, i32_w]
             rfl
            refine one_ (i := 12) (N := some 104) #[true, true, true, true, true, true, true, true, true, true, true, true, true, false, false, false, true, false, false] rfl rfl (one_of HT_.out (by kernel_rfl)) (by decide) (fun K hK => ?_)
            refine gO Try.func12 #[.agg #[.slice Ao128 t709.length co128, .slice Ao129 t712.length co129, .slice Ao130 t715.length co130], .agg #[.int .i64 a1_0, .int .i64 a1_1], .agg #[.int .i64 a2_0, .int .i64 a2_1, .int .i64 a2_2, .int .i64 a2_3]] ?_
            with_reducible refine (cells_AddUse.calls _ _ t709 _ _ t712 _ _ t715 a1_0 a1_1 a2_0 a2_1 a2_2 a2_3 t718 t721 t724 t727 _ ?side1 ?side2 ?side3 ?side4 ?side5 ?side6 A121.out).mono ?_
            (case side1 => exact sC (Kd.R_reads' HO711.out).2.2)
            (case side2 => exact (Kd.R_reads' HO711.out).2.1)
            (case side3 => exact sC (Kd.R_reads' HO714.out).2.2)
            (case side4 => exact (Kd.R_reads' HO714.out).2.1)
            (case side5 => exact sC (Kd.R_reads' HO717.out).2.2)
            (case side6 => exact (Kd.R_reads' HO717.out).2.1)
            rintro e w131 ⟨v719, v722, v725, rfl, ho0, ho1, ho2, hb⟩
            have HS9_ := (hb.cell (World.block_lt_of_cell? _ _ (hHeld.2.2.2.2.2.2.2.2.2.1))).trans (hHeld.2.2.2.2.2.2.2.2.2.1)
            have HS10_ := (hb.cell (World.block_lt_of_cell? _ _ (hHeld.2.2.2.2.2.2.2.2.2.2))).trans (hHeld.2.2.2.2.2.2.2.2.2.2)
            refine ⟨_, rfl, ?_⟩
            replace HO_13 := tR HO_13 hb
            have HO720 := Aside0.mk (Kd.R_lower (Kd.R_newB (Kd.R_new' (Kd.R_new' ho0 (Kd.R_lt (sR HO_698000))) (Kd.R_lt (sR HO711))) (g := gb681) (o := .cells #[.int .i64 a2_0, .int .i64 a2_1, .int .i64 a2_2, .int .i64 a2_3] 32 (0, 0)) (sB BK681)) (below_size (sW HB)))
            replace HO_698000 := eR HO_698000 ho0 hb
            replace HO711 := eR HO711 ho0 hb
            have HO723 := Aside0.mk (Kd.R_lower (Kd.R_new' (Kd.R_new' ho1 (Kd.R_lt (sR HO_698001))) (Kd.R_lt (sR HO714))) (below_size (sW HB)))
            replace HO_698001 := eR HO_698001 ho1 hb
            replace HO714 := eR HO714 ho1 hb
            have HO726 := Aside0.mk (Kd.R_lower (Kd.R_new' (Kd.R_new' ho2 (Kd.R_lt (sR HO_698002))) (Kd.R_lt (sR HO717))) (below_size (sW HB)))
            replace HO_698002 := eR HO_698002 ho2 hb
            replace HO717 := eR HO717 ho2 hb
            replace BK679 := tB BK679 hb
            replace BK680 := tB BK680 hb
            replace BK681 := tB BK681 hb
            replace BK697 := tB BK697 hb
            replace BK728 := tB BK728 hb
            replace HB := tW HB hb
            (try clear hb)
            (try clear hb2)
            (try clear hk)
            (try clear hi)
            (try clear ho0)
            (try clear ho1)
            (try clear ho2)
            refine hK.out _ _ ⟨bt BK679 0, bt BK679 1, bt BK679 2, bt BK680 0, bt BK680 1, bt BK681 0, bt BK681 1, bt BK681 2, bt BK681 3, HS9_, HS10_⟩ (fun hHeld => ?_)
            clear hK K
            refine norm_ (a' := ?_) ?_ ?_
            rotate_left
            ·show Act.put _ (some 104) _ = _
             simp only [Act.put, List.setIfInBounds_toArray, List.set_cons_zero, List.set_cons_succ, i64_w, i32_w]
             rfl
            refine run_ [(13, some 91), (14, some 105), (15, some 106)] ?_
            iterate 3 (refine runP (v := ?_) (a' := ?_) rfl rfl (any_of HT_.out (by kernel_rfl)) (fun _ _ _ h => h) (Or.inl ⟨by rfl, ?_⟩) ?_ ?_; rotate_left; (· intro w'; go_simp; with_reducible rfl); rotate_left; (· simp only [Act.put, List.setIfInBounds_toArray, List.set_cons_zero, List.set_cons_succ, i64_w, i32_w]; rfl))
            refine runE ?_
            exact norm_ (by simp only [putAll, Act.put, List.setIfInBounds_toArray, List.set_cons_zero, List.set_cons_succ]) (hCont (.slice Ao128 t709.length co128, .slice Ao129 t712.length co129, .slice Ao130 t715.length co130, v719, v722, v725, gb728) _ ⟨hHeld, (mR (by exact Kd.R_mono HO711.out (fun _ hk => ⟨hk.2, ⟨hk.1.1.2, hk.1.2⟩⟩))), (mR (by exact Kd.R_mono HO714.out (fun _ hk => ⟨hk.2, hk.1.2⟩))), (mR (by exact Kd.R_mono HO717.out (fun _ hk => ⟨hk.2, hk.1.2⟩))), (mR (by exact Kd.R_mono HO720.out (fun _ hk => ⟨hk.1.2, ⟨hk.1.1.2, hk.2⟩⟩))), (mR (by exact Kd.R_mono HO723.out (fun _ hk => ⟨hk.2, hk.1.2⟩))), (mR (by exact Kd.R_mono HO726.out (fun _ hk => ⟨hk.2, hk.1.2⟩))), (sR HO_13), (mR (by exact Kd.R_mono HO_698000.out (fun _ hk => ⟨hk.1.2, ⟨hk.2, hk.1.1⟩⟩))), (mR (by exact Kd.R_mono HO_698001.out (fun _ hk => ⟨hk.1.2, hk.2⟩))), (mR (by exact Kd.R_mono HO_698002.out (fun _ hk => ⟨hk.1.2, hk.2⟩))), (sB BK679), (sB BK680), (sB BK681), (sB BK697), (sB BK728), GW728.out, GE728.out, NB679_728.out, NB728_679.out, NB680_728.out, NB728_680.out, NB681_728.out, NB728_681.out, NB697_728.out, NB728_697.out, (sW HB)⟩)
           rintro ⟨v710, v713, v716, v719, v722, v725, gb728⟩ w132 ⟨hS_, h0_, h1_, h2_, h3_, h4_, h5_, h6_, h7_, h8_, h9_, h10_, h11_, h12_, h13_, h14_, h15_, h16_, h17_, h18_, h19_, h20_, h21_, h22_, h23_, h24_, h25_⟩
           have n0_ : Aside0 (Kd.R k32 32 w132 w.heap.size (fun k_ => some k_ ≠ (v719 : Value).ownBlock ∧ some k_ ≠ (.slice Ao82 t687.length co82 : Value).ownBlock ∧ k_ ≠ gb681) v710 t709) := ⟨h0_⟩
           have n1_ : Aside0 (Kd.R k34 34 w132 w.heap.size (fun k_ => some k_ ≠ (v722 : Value).ownBlock ∧ some k_ ≠ (.slice Ao87 t690.length co87 : Value).ownBlock) v713 t712) := ⟨h1_⟩
           have n2_ : Aside0 (Kd.R k51 51 w132 w.heap.size (fun k_ => some k_ ≠ (v725 : Value).ownBlock ∧ some k_ ≠ (.slice Ao88 t693.length co88 : Value).ownBlock) v716 t715) := ⟨h2_⟩
           have n3_ : Aside0 (Kd.R k32 32 w132 w.heap.size (fun k_ => some k_ ≠ (v710 : Value).ownBlock ∧ some k_ ≠ (.slice Ao82 t687.length co82 : Value).ownBlock ∧ k_ ≠ gb681) v719 t718) := ⟨h3_⟩
           have n4_ : Aside0 (Kd.R k34 34 w132 w.heap.size (fun k_ => some k_ ≠ (v713 : Value).ownBlock ∧ some k_ ≠ (.slice Ao87 t690.length co87 : Value).ownBlock) v722 t721) := ⟨h4_⟩
           have n5_ : Aside0 (Kd.R k51 51 w132 w.heap.size (fun k_ => some k_ ≠ (v716 : Value).ownBlock ∧ some k_ ≠ (.slice Ao88 t693.length co88 : Value).ownBlock) v725 t724) := ⟨h5_⟩
           have n6_ : Aside0 (Kd.R k30 30 w132 w.heap.size (fun _ => True) (.slice (some ad708) x13_3.length co125) x13_3) := ⟨h6_⟩
           have n7_ : Aside0 (Kd.R k32 32 w132 w.heap.size (fun k_ => some k_ ≠ (v710 : Value).ownBlock ∧ some k_ ≠ (v719 : Value).ownBlock ∧ k_ ≠ gb681) (.slice Ao82 t687.length co82) t687) := ⟨h7_⟩
           have n8_ : Aside0 (Kd.R k34 34 w132 w.heap.size (fun k_ => some k_ ≠ (v713 : Value).ownBlock ∧ some k_ ≠ (v722 : Value).ownBlock) (.slice Ao87 t690.length co87) t690) := ⟨h8_⟩
           have n9_ : Aside0 (Kd.R k51 51 w132 w.heap.size (fun k_ => some k_ ≠ (v716 : Value).ownBlock ∧ some k_ ≠ (v725 : Value).ownBlock) (.slice Ao88 t693.length co88) t693) := ⟨h9_⟩
           have n10_ : Aside0 (w132.heap[gb679]? = some (.cells #[.slice A0_0 l0_0.length c0_0, .slice A0_1 l0_1.length c0_1, .slice A0_2 l0_2.length c0_2] 26 (0, 0))) := ⟨h10_⟩
           have n11_ : Aside0 (w132.heap[gb680]? = some (.cells #[.int .i64 a1_0, .int .i64 a1_1] 28 (0, 0))) := ⟨h11_⟩
           have n12_ : Aside0 (w132.heap[gb681]? = some (.cells #[.int .i64 a2_0, .int .i64 a2_1, .int .i64 a2_2, .int .i64 a2_3] 32 (0, 0))) := ⟨h12_⟩
           have n13_ : Aside0 (w132.heap[gb697]? = some (.cells #[.slice Ao82 t687.length co82, .slice Ao87 t690.length co87, .slice Ao88 t693.length co88] 26 (0, 0))) := ⟨h13_⟩
           have n14_ : Aside0 (w132.heap[gb728]? = some (.cells #[.slice none 0 0, .slice none 0 0, .slice none 0 0] 26 (0, 0))) := ⟨h14_⟩
           have n15_ : Aside0 (w.heap.size ≤ gb728) := ⟨h15_⟩
           have n16_ : Aside0 (w.heap.size ≤ gb728) := ⟨h16_⟩
           have n17_ : Aside0 (gb679 ≠ gb728) := ⟨h17_⟩
           have n18_ : Aside0 (gb728 ≠ gb679) := ⟨h18_⟩
           have n19_ : Aside0 (gb680 ≠ gb728) := ⟨h19_⟩
           have n20_ : Aside0 (gb728 ≠ gb680) := ⟨h20_⟩
           have n21_ : Aside0 (gb681 ≠ gb728) := ⟨h21_⟩
           have n22_ : Aside0 (gb728 ≠ gb681) := ⟨h22_⟩
           have n23_ : Aside0 (gb697 ≠ gb728) := ⟨h23_⟩
           have n24_ : Aside0 (gb728 ≠ gb697) := ⟨h24_⟩
           have n25_ : Aside0 (Below w.heap.size w w132) := ⟨h25_⟩
           clear HO_13
           clear HO_698000
           clear HO_698001
           clear HO_698002
           clear BK679
           clear BK680
           clear BK681
           clear BK697
           clear HB
           clear h0_ h1_ h2_ h3_ h4_ h5_ h6_ h7_ h8_ h9_ h10_ h11_ h12_ h13_ h14_ h15_ h16_ h17_ h18_ h19_ h20_ h21_ h22_ h23_ h24_ h25_
           have HO711 := n0_
           have HO714 := n1_
           have HO717 := n2_
           have HO720 := n3_
           have HO723 := n4_
           have HO726 := n5_
           have HO_13 := n6_
           have HO_698000 := n7_
           have HO_698001 := n8_
           have HO_698002 := n9_
           have BK679 := n10_
           have BK680 := n11_
           have BK681 := n12_
           have BK697 := n13_
           have BK728 := n14_
           have GW728 := n15_
           have GE728 := n16_
           have NB679_728 := n17_
           have NB728_679 := n18_
           have NB680_728 := n19_
           have NB728_680 := n20_
           have NB681_728 := n21_
           have NB728_681 := n22_
           have NB697_728 := n23_
           have NB728_697 := n24_
           have HB := n25_
           clear n0_ n1_ n2_ n3_ n4_ n5_ n6_ n7_ n8_ n9_ n10_ n11_ n12_ n13_ n14_ n15_ n16_ n17_ n18_ n19_ n20_ n21_ n22_ n23_ n24_ n25_
           have hHeld : w132.cell? ⟨gb679, 0, none⟩ = some (.slice A0_0 l0_0.length c0_0) ∧ w132.cell? ⟨gb679, 1, none⟩ = some (.slice A0_1 l0_1.length c0_1) ∧ w132.cell? ⟨gb679, 2, none⟩ = some (.slice A0_2 l0_2.length c0_2) ∧ w132.cell? ⟨gb680, 0, none⟩ = some (.int .i64 a1_0) ∧ w132.cell? ⟨gb680, 1, none⟩ = some (.int .i64 a1_1) ∧ w132.cell? ⟨gb681, 0, none⟩ = some (.int .i64 a2_0) ∧ w132.cell? ⟨gb681, 1, none⟩ = some (.int .i64 a2_1) ∧ w132.cell? ⟨gb681, 2, none⟩ = some (.int .i64 a2_2) ∧ w132.cell? ⟨gb681, 3, none⟩ = some (.int .i64 a2_3) ∧ w132.cell? (ad708.add (((ji117)).toNat * 2)) = some (.int .i64 ((rd_T30 x13_3 (ji117)).f0)) ∧ w132.cell? ⟨(ad708.add (((ji117)).toNat * 2)).block, (ad708.add (((ji117)).toNat * 2)).off + 1, none⟩ = some (.int .i64 ((rd_T30 x13_3 (ji117)).f1)) := hS_
           obtain ⟨Ao133, co133, eo133⟩ := Kd.R_slice HO720.out
           (first | subst eo133 | (injection eo133 with f1_ f2_ f3_; have f4_ := f1_.symm; have f5_ := f3_.symm; clear f1_ f2_ f3_; subst f4_; subst f5_))
           obtain ⟨Ao135, co135, eo135⟩ := Kd.R_slice HO723.out
           (first | subst eo135 | (injection eo135 with f1_ f2_ f3_; have f4_ := f1_.symm; have f5_ := f3_.symm; clear f1_ f2_ f3_; subst f4_; subst f5_))
           obtain ⟨Ao137, co137, eo137⟩ := Kd.R_slice HO726.out
           (first | subst eo137 | (injection eo137 with f1_ f2_ f3_; have f4_ := f1_.symm; have f5_ := f3_.symm; clear f1_ f2_ f3_; subst f4_; subst f5_))
           refine norm_ (a' := ?_) ?_ ?_
           rotate_left
           ·simp only [putAll, Act.put, List.setIfInBounds_toArray, List.set_cons_zero, List.set_cons_succ]
            rfl
           refine one_ (i := 17) (N := none) #[true, true, true, true, true, true, true, true, true, true, true, true, true, true, true, true, true, true, false] rfl rfl (one_of HT_.out (by kernel_rfl)) (by decide) (fun K hK => ?_)
           have hs134 : w132.cell? ⟨gb728, 0, none⟩ = some (.slice none 0 0) := bt BK728 0
           have hfs134 := blk_frozen BK728.out 0
           have hns134_0 := NB679_728.out
           have hns134_1 := NB680_728.out
           have hns134_2 := NB681_728.out
           have hns134_3 := NB697_728.out
           have hms134_0 := NB728_679.out
           have hms134_1 := NB728_680.out
           have hms134_2 := NB728_681.out
           have hms134_3 := NB728_697.out
           have hs136 : w132.cell? ⟨gb728, 1, none⟩ = some (.slice none 0 0) := bt BK728 1
           have hfs136 := blk_frozen BK728.out 1
           have hns136_0 := NB679_728.out
           have hns136_1 := NB680_728.out
           have hns136_2 := NB681_728.out
           have hns136_3 := NB697_728.out
           have hms136_0 := NB728_679.out
           have hms136_1 := NB728_680.out
           have hms136_2 := NB728_681.out
           have hms136_3 := NB728_697.out
           have hs138 : w132.cell? ⟨gb728, 2, none⟩ = some (.slice none 0 0) := bt BK728 2
           have hfs138 := blk_frozen BK728.out 2
           have hns138_0 := NB679_728.out
           have hns138_1 := NB680_728.out
           have hns138_2 := NB681_728.out
           have hns138_3 := NB697_728.out
           have hms138_0 := NB728_679.out
           have hms138_1 := NB728_680.out
           have hms138_2 := NB728_681.out
           have hms138_3 := NB728_697.out
           refine skip_ (w1 := ?_) (by rfl) rfl ?_ ?_
           rotate_left
           ·go_simp
            rfl
           refine hK.out _ _ ⟨((cell_far (p := ⟨gb728, _, none⟩) NB679_728.out _).trans (((cell_far (p := ⟨gb728, _, none⟩) NB679_728.out _).trans (((cell_far (p := ⟨gb728, _, none⟩) NB679_728.out _).trans (hHeld.1)))))), ((cell_far (p := ⟨gb728, _, none⟩) NB679_728.out _).trans (((cell_far (p := ⟨gb728, _, none⟩) NB679_728.out _).trans (((cell_far (p := ⟨gb728, _, none⟩) NB679_728.out _).trans (hHeld.2.1)))))), ((cell_far (p := ⟨gb728, _, none⟩) NB679_728.out _).trans (((cell_far (p := ⟨gb728, _, none⟩) NB679_728.out _).trans (((cell_far (p := ⟨gb728, _, none⟩) NB679_728.out _).trans (hHeld.2.2.1)))))), ((cell_far (p := ⟨gb728, _, none⟩) NB680_728.out _).trans (((cell_far (p := ⟨gb728, _, none⟩) NB680_728.out _).trans (((cell_far (p := ⟨gb728, _, none⟩) NB680_728.out _).trans (hHeld.2.2.2.1)))))), ((cell_far (p := ⟨gb728, _, none⟩) NB680_728.out _).trans (((cell_far (p := ⟨gb728, _, none⟩) NB680_728.out _).trans (((cell_far (p := ⟨gb728, _, none⟩) NB680_728.out _).trans (hHeld.2.2.2.2.1)))))), ((cell_far (p := ⟨gb728, _, none⟩) NB681_728.out _).trans (((cell_far (p := ⟨gb728, _, none⟩) NB681_728.out _).trans (((cell_far (p := ⟨gb728, _, none⟩) NB681_728.out _).trans (hHeld.2.2.2.2.2.1)))))), ((cell_far (p := ⟨gb728, _, none⟩) NB681_728.out _).trans (((cell_far (p := ⟨gb728, _, none⟩) NB681_728.out _).trans (((cell_far (p := ⟨gb728, _, none⟩) NB681_728.out _).trans (hHeld.2.2.2.2.2.2.1)))))), ((cell_far (p := ⟨gb728, _, none⟩) NB681_728.out _).trans (((cell_far (p := ⟨gb728, _, none⟩) NB681_728.out _).trans (((cell_far (p := ⟨gb728, _, none⟩) NB681_728.out _).trans (hHeld.2.2.2.2.2.2.2.1)))))), ((cell_far (p := ⟨gb728, _, none⟩) NB681_728.out _).trans (((cell_far (p := ⟨gb728, _, none⟩) NB681_728.out _).trans (((cell_far (p := ⟨gb728, _, none⟩) NB681_728.out _).trans (hHeld.2.2.2.2.2.2.2.2.1)))))), ((cell_far (p := ⟨gb728, _, none⟩) (by first | exact Kd.own_blk (Kd.R_ne HO_13.out BK728.out (by decide)) | (rw [add_block]; exact Kd.own_blk (Kd.R_ne HO_13.out BK728.out (by decide))) | (show (Addr.add _ _).block ≠ _; rw [add_block]; exact Kd.own_blk (Kd.R_ne HO_13.out BK728.out (by decide))) | (dsimp only; exact Kd.own_blk (Kd.R_ne HO_13.out BK728.out (by decide)))) _).trans (((cell_far (p := ⟨gb728, _, none⟩) (by first | exact Kd.own_blk (Kd.R_ne HO_13.out BK728.out (by decide)) | (rw [add_block]; exact Kd.own_blk (Kd.R_ne HO_13.out BK728.out (by decide))) | (show (Addr.add _ _).block ≠ _; rw [add_block]; exact Kd.own_blk (Kd.R_ne HO_13.out BK728.out (by decide))) | (dsimp only; exact Kd.own_blk (Kd.R_ne HO_13.out BK728.out (by decide)))) _).trans (((cell_far (p := ⟨gb728, _, none⟩) (by first | exact Kd.own_blk (Kd.R_ne HO_13.out BK728.out (by decide)) | (rw [add_block]; exact Kd.own_blk (Kd.R_ne HO_13.out BK728.out (by decide))) | (show (Addr.add _ _).block ≠ _; rw [add_block]; exact Kd.own_blk (Kd.R_ne HO_13.out BK728.out (by decide))) | (dsimp only; exact Kd.own_blk (Kd.R_ne HO_13.out BK728.out (by decide)))) _).trans (hHeld.2.2.2.2.2.2.2.2.2.1)))))), ((cell_far (p := ⟨gb728, _, none⟩) (by first | exact Kd.own_blk (Kd.R_ne HO_13.out BK728.out (by decide)) | (rw [add_block]; exact Kd.own_blk (Kd.R_ne HO_13.out BK728.out (by decide))) | (show (Addr.add _ _).block ≠ _; rw [add_block]; exact Kd.own_blk (Kd.R_ne HO_13.out BK728.out (by decide))) | (dsimp only; exact Kd.own_blk (Kd.R_ne HO_13.out BK728.out (by decide)))) _).trans (((cell_far (p := ⟨gb728, _, none⟩) (by first | exact Kd.own_blk (Kd.R_ne HO_13.out BK728.out (by decide)) | (rw [add_block]; exact Kd.own_blk (Kd.R_ne HO_13.out BK728.out (by decide))) | (show (Addr.add _ _).block ≠ _; rw [add_block]; exact Kd.own_blk (Kd.R_ne HO_13.out BK728.out (by decide))) | (dsimp only; exact Kd.own_blk (Kd.R_ne HO_13.out BK728.out (by decide)))) _).trans (((cell_far (p := ⟨gb728, _, none⟩) (by first | exact Kd.own_blk (Kd.R_ne HO_13.out BK728.out (by decide)) | (rw [add_block]; exact Kd.own_blk (Kd.R_ne HO_13.out BK728.out (by decide))) | (show (Addr.add _ _).block ≠ _; rw [add_block]; exact Kd.own_blk (Kd.R_ne HO_13.out BK728.out (by decide))) | (dsimp only; exact Kd.own_blk (Kd.R_ne HO_13.out BK728.out (by decide)))) _).trans (hHeld.2.2.2.2.2.2.2.2.2.2))))))⟩ (fun hHeld => ?_)
           clear hK K
           refine run_ [(18, some 19)] ?_
           refine runP (v := ?_) (a' := ?_) rfl rfl (any_of HT_.out (by kernel_rfl)) (fun _ _ _ h => h) (Or.inl ⟨by rfl, ?_⟩) ?_ ?_; rotate_left; (· intro w'; go_simp; with_reducible rfl); rotate_left; (· simp only [Act.put, List.setIfInBounds_toArray, List.set_cons_zero, List.set_cons_succ, i64_w, i32_w]; rfl)
           refine runE ?_
           refine done_ (done_of HT_.out (by kernel_rfl)) ?_
           try go_wp2
           go_ret
           exact ⟨by first | rfl | (simp [errW_none, errW_some] <;> rfl) | (simp only [← hji117]; first | rfl | (simp [errW_none, errW_some] <;> rfl)) | (simp [*, errW_none, errW_some] <;> rfl), sW HB⟩
          rw [if_neg c123] at H
          have c123b0 : (t696 == 10) = false := beq_eq_false_iff_ne.mpr c123
          have c123b1 : (t696 != 10) = true := bne_iff_ne.mpr c123
          exact absurd (Option.some.inj H) (by rw [HRT.out]; decide)
         replace c122 := Bool.eq_false_iff.mpr c122
         subst c122
         have H1 : (some false) = some r := by rw [if_neg (show ¬ (false = true) by decide)] at H; exact H
         clear H
         have H := H1
         clear H1
         exact absurd (Option.some.inj H) (by rw [HRT.out]; decide)
        rw [if_neg c119] at H
        exact absurd H (by simp)
       rw [if_neg c118] at H
       exact absurd H (by simp)
end Go.Proofs.Ytbpfbdljcdcgnaa.Px
