/- Walks of functions of this seat, written by a program of this workplace out of the translation. -/
import Derived.Test.YtbpfbdljcdcgnaaPx0
import Derived.Test.YtbpfbdljcdcgnaaPx8
import Derived.Test.YtbpfbdljcdcgnaaPx11
import Derived.Test.YtbpfbdljcdcgnaaPx16
import Derived.Test.YtbpfbdljcdcgnaaPx18
import Derived.Test.YtbpfbdljcdcgnaaPx20
import Derived.Test.YtbpfbdljcdcgnaaPx21
import Derived.Test.YtbpfbdljcdcgnaaPx22
namespace Go.Proofs.Ytbpfbdljcdcgnaa.Px
open Go.RowKit Go.Proofs.YtbpfbdljcdcgnaaW.PrintWords Go.Proofs.YtbpfbdljcdcgnaaW.PrintLast Go.Proofs.YtbpfbdljcdcgnaaW.PrintMore
attribute [local go_sem] max2_int min2_int max_two min_two max_three min_three max_four min_four   -- for this text's walks alone
set_option linter.unusedVariables false
set_option linter.unusedSimpArgs false

/-! ### slotmeshlaw12_CellsOnce: function 5 -/
mutual
def slotmeshlaw12_CellsOnce.j0 : Nat → List (S55) → Bool → Bool → List (S32) → List (S34) → List (S51) → Int → Int → Option (Bool)
 | 0, _, _, _, _, _, _, _, _ => none
 | k + 1, x2, x7, x32, x509000, x509001, x509002, x510000, x510001 => if x32 = true then (some x7) else (slotmeshlaw12_CellsOnce.l0 k x7 x2 (x2.length : Int) 0 x509000 x509001 x509002 x510000 x510001)
def slotmeshlaw12_CellsOnce.l0 : Nat → Bool → List (S55) → Int → Int → List (S32) → List (S34) → List (S51) → Int → Int → Option (Bool)
 | 0, _, _, _, _, _, _, _, _, _ => none
 | k + 1, x7, x34, x35, x36, x509000, x509001, x509002, x510000, x510001 => if x36 < x35 then (if 0 ≤ x36 then (if x36 < (x34.length : Int) then (if (Int.tmod ((rd_T55 x34 x36).f0) 4) = 0 then ((cells_AddUse.f x509000 x509001 x509002 x510000 x510001 ((rd_T55 x34 x36).f1.f0) ((rd_T55 x34 x36).f1.f1) ((rd_T55 x34 x36).f2) ((rd_T55 x34 x36).f3)).bind fun bt516 => (slotmeshlaw12_CellsOnce.j2 k x7 bt516.2.2.2 x34 x35 x36 x509000 x509001 x509002 x510000 x510001 bt516.1 bt516.2.1 bt516.2.2.1)) else (if (Int.tmod ((rd_T55 x34 x36).f0) 4) = 1 then ((cells_AddGrant.f x509000 x509001 x509002 x510000 x510001 ((rd_T55 x34 x36).f1.f0) ((rd_T55 x34 x36).f1.f1) ((rd_T55 x34 x36).f2) ((rd_T55 x34 x36).f3) ((rd_T55 x34 x36).f3)).bind fun bt526 => (slotmeshlaw12_CellsOnce.j2 k x7 bt526.2.2.2 x34 x35 x36 x509000 x509001 x509002 x510000 x510001 bt526.1 bt526.2.1 bt526.2.2.1)) else (if (Int.tmod ((rd_T55 x34 x36).f0) 4) = 2 then ((cells_Drop.f x509000 x509001 x509002 ((rd_T55 x34 x36).f1.f0) ((rd_T55 x34 x36).f1.f1)).bind fun bt536 => (slotmeshlaw12_CellsOnce.j2 k x7 0 x34 x35 x36 x509000 x509001 x509002 x510000 x510001 bt536.1 bt536.2.1 bt536.2.2)) else ((cells_Expire.f x509000 x509001 x509002 ((rd_T55 x34 x36).f3)).bind fun bt545 => (slotmeshlaw12_CellsOnce.j2 k x7 0 x34 x35 x36 x509000 x509001 x509002 x510000 x510001 bt545.1 bt545.2.1 bt545.2.2))))) else (none)) else (none)) else (some x7)
def slotmeshlaw12_CellsOnce.j2 : Nat → Bool → Int → List (S55) → Int → Int → List (S32) → List (S34) → List (S51) → Int → Int → List (S32) → List (S34) → List (S51) → Option (Bool)
 | 0, _, _, _, _, _, _, _, _, _, _, _, _, _ => none
 | k + 1, x7, x11, x34, x35, x36, x509000, x509001, x509002, x510000, x510001, x516000, x516001, x516002 => if x11 = 0 then (slotmeshlaw12_CellsOnce.j3 k x7 x34 x35 x36 x516000 x516001 x516002 x510000 x510001) else (slotmeshlaw12_CellsOnce.j3 k x7 x34 x35 x36 x509000 x509001 x509002 x510000 x510001)
def slotmeshlaw12_CellsOnce.j3 : Nat → Bool → List (S55) → Int → Int → List (S32) → List (S34) → List (S51) → Int → Int → Option (Bool)
 | 0, _, _, _, _, _, _, _, _, _ => none
 | k + 1, x7, x34, x35, x36, x509000, x509001, x509002, x510000, x510001 => slotmeshlaw12_CellsOnce.l1 k x7 x34 x35 x36 x510001 0 x509000 x509001 x509002 x510000 x510001
def slotmeshlaw12_CellsOnce.l1 : Nat → Bool → List (S55) → Int → Int → Int → Int → List (S32) → List (S34) → List (S51) → Int → Int → Option (Bool)
 | 0, _, _, _, _, _, _, _, _, _, _, _ => none
 | k + 1, x7, x34, x35, x36, x90, x91, x509000, x509001, x509002, x510000, x510001 => if x91 < x90 then (slotmeshlaw12_CellsOnce.l2 k x7 x91 0 x34 x35 x36 x90 x91 x509000 (x509000.length : Int) 0 x509000 x509001 x509002 x510000 x510001) else (slotmeshlaw12_CellsOnce.l0 k x7 x34 x35 (wrap64 (x36 + 1)) x509000 x509001 x509002 x510000 x510001)
def slotmeshlaw12_CellsOnce.l2 : Nat → Bool → Int → Int → List (S55) → Int → Int → Int → Int → List (S32) → Int → Int → List (S32) → List (S34) → List (S51) → Int → Int → Option (Bool)
 | 0, _, _, _, _, _, _, _, _, _, _, _, _, _, _, _, _ => none
 | k + 1, x7, x12, x13, x34, x35, x36, x90, x91, x95, x96, x97, x509000, x509001, x509002, x510000, x510001 => if x97 < x96 then (if 0 ≤ x97 then (if x97 < (x95.length : Int) then (if ((rd_T32 x95 x97).f0.f0) = x12 then (slotmeshlaw12_CellsOnce.l2 k x7 x12 (wrap64 (x13 + 1)) x34 x35 x36 x90 x91 x95 x96 (wrap64 (x97 + 1)) x509000 x509001 x509002 x510000 x510001) else (slotmeshlaw12_CellsOnce.l2 k x7 x12 x13 x34 x35 x36 x90 x91 x95 x96 (wrap64 (x97 + 1)) x509000 x509001 x509002 x510000 x510001)) else (none)) else (none)) else (slotmeshlaw12_CellsOnce.l3 k x7 x12 x13 x34 x35 x36 x90 x91 x509001 (x509001.length : Int) 0 x509000 x509001 x509002 x510000 x510001)
def slotmeshlaw12_CellsOnce.l3 : Nat → Bool → Int → Int → List (S55) → Int → Int → Int → Int → List (S34) → Int → Int → List (S32) → List (S34) → List (S51) → Int → Int → Option (Bool)
 | 0, _, _, _, _, _, _, _, _, _, _, _, _, _, _, _, _ => none
 | k + 1, x7, x12, x13, x34, x35, x36, x90, x91, x110, x111, x112, x509000, x509001, x509002, x510000, x510001 => if x112 < x111 then (if 0 ≤ x112 then (if x112 < (x110.length : Int) then (if ((rd_T34 x110 x112).f0.f0) = x12 then (slotmeshlaw12_CellsOnce.l3 k x7 x12 (wrap64 (x13 + 1)) x34 x35 x36 x90 x91 x110 x111 (wrap64 (x112 + 1)) x509000 x509001 x509002 x510000 x510001) else (slotmeshlaw12_CellsOnce.l3 k x7 x12 x13 x34 x35 x36 x90 x91 x110 x111 (wrap64 (x112 + 1)) x509000 x509001 x509002 x510000 x510001)) else (none)) else (none)) else (if x13 > 1 then (some false) else ((cells_Busy.f x509000 x509001 x509002 x12).bind fun t558 => (if t558 = true then (if x13 = 1 then (slotmeshlaw12_CellsOnce.l1 k x7 x34 x35 x36 x90 (wrap64 (x91 + 1)) x509000 x509001 x509002 x510000 x510001) else (some false)) else (if x13 = 1 then (some false) else (slotmeshlaw12_CellsOnce.l1 k x7 x34 x35 x36 x90 (wrap64 (x91 + 1)) x509000 x509001 x509002 x510000 x510001)))))
end
def slotmeshlaw12_CellsOnce.f (k : Nat) (l0_0 : List (S32)) (l0_1 : List (S34)) (l0_2 : List (S51)) (a1_0 : Int) (a1_1 : Int) (l2 : List (S55)) : Option (Bool) := (slotmeshlaw12_head.f).bind fun t510 => ((slotmeshref12_Few.f l0_0 l0_1 l0_2).bind fun t511 => (if t511 = true then ((slotmeshref12_Valid.f l0_0 l0_1 l0_2 a1_0 a1_1).bind fun t512 => (if t512 = true then (slotmeshlaw12_CellsOnce.j0 k l2 t510 (decide ((l2.length : Int) > 60)) l0_0 l0_1 l0_2 a1_0 a1_1) else (slotmeshlaw12_CellsOnce.j0 k l2 t510 true l0_0 l0_1 l0_2 a1_0 a1_1))) else (slotmeshlaw12_CellsOnce.j0 k l2 t510 true l0_0 l0_1 l0_2 a1_0 a1_1)))
set_option maxHeartbeats 8000000 in
set_option maxRecDepth 100000 in
theorem slotmeshlaw12_CellsOnce.calls (k : Nat) (P0_0_ : Nat → Prop) (A0_0 : Option Addr) (c0_0 : Nat) (l0_0 : List (S32)) (P0_1_ : Nat → Prop) (A0_1 : Option Addr) (c0_1 : Nat) (l0_1 : List (S34)) (P0_2_ : Nat → Prop) (A0_2 : Option Addr) (c0_2 : Nat) (l0_2 : List (S51)) (a1_0 : Int) (a1_1 : Int) (A2 : Option Addr) (c2 : Nat) (l2 : List (S55)) (r : Bool) (w : World) (hrt : r = true) (hs0_0 : Kd.V k32 32 w w.heap.size (fun k_ => P0_0_ k_) (.slice A0_0 l0_0.length c0_0) l0_0) (hs0_1 : Kd.V k34 34 w w.heap.size (fun k_ => P0_1_ k_) (.slice A0_1 l0_1.length c0_1) l0_1) (hs0_2 : Kd.V k51 51 w w.heap.size (fun k_ => P0_2_ k_) (.slice A0_2 l0_2.length c0_2) l0_2) (hr2 : Kd.C k55 w A2 l2.length l2) (hc2 : l2.length ≤ c2) (h : slotmeshlaw12_CellsOnce.f k l0_0 l0_1 l0_2 a1_0 a1_1 l2 = some r) :
  Calls Try.prog 5 #[.agg #[.slice A0_0 l0_0.length c0_0, .slice A0_1 l0_1.length c0_1, .slice A0_2 l0_2.length c0_2], .agg #[.int .i64 a1_0, .int .i64 a1_1], .slice A2 l2.length c2] w fun e w' => e = .returned (.bool r) ∧ Below w.heap.size w w' := by
 have hu26 := Try.underlying26
 have hu28 := Try.underlying28
 have hu55 := Try.underlying55
 have hu30 := Try.underlying30
 have hu32 := Try.underlying32
 have hu34 := Try.underlying34
 have HO0_0 := Aside0.mk (show Kd.V k32 32 w w.heap.size (fun k_ => ((P0_0_ k_ ∨ P0_1_ k_ ∨ P0_2_ k_) ∨ w.heap.size ≤ k_)) (.slice A0_0 l0_0.length c0_0) l0_0 from Kd.V_mono hs0_0 (fun k_ hk => .inl (.inl hk)))
 have HO0_1 := Aside0.mk (show Kd.V k34 34 w w.heap.size (fun k_ => ((P0_0_ k_ ∨ P0_1_ k_ ∨ P0_2_ k_) ∨ w.heap.size ≤ k_)) (.slice A0_1 l0_1.length c0_1) l0_1 from Kd.V_mono hs0_1 (fun k_ hk => .inl (.inr (.inl hk))))
 have HO0_2 := Aside0.mk (show Kd.V k51 51 w w.heap.size (fun k_ => ((P0_0_ k_ ∨ P0_1_ k_ ∨ P0_2_ k_) ∨ w.heap.size ≤ k_)) (.slice A0_2 l0_2.length c0_2) l0_2 from Kd.V_mono hs0_2 (fun k_ hk => .inl (.inr (.inr hk))))
 have HR2 := Aside0.mk hr2
 have HC2 := Aside0.mk hc2
 clear hr2 hc2
 have HB := Aside0.mk (Below.refl w.heap.size w)
 have HRT := Aside0.mk hrt
 clear hrt
 have H : ((slotmeshlaw12_head.f).bind fun t510 => ((slotmeshref12_Few.f l0_0 l0_1 l0_2).bind fun t511 => (if t511 = true then ((slotmeshref12_Valid.f l0_0 l0_1 l0_2 a1_0 a1_1).bind fun t512 => (if t512 = true then (slotmeshlaw12_CellsOnce.j0 k l2 t510 (decide ((l2.length : Int) > 60)) l0_0 l0_1 l0_2 a1_0 a1_1) else (slotmeshlaw12_CellsOnce.j0 k l2 t510 true l0_0 l0_1 l0_2 a1_0 a1_1))) else (slotmeshlaw12_CellsOnce.j0 k l2 t510 true l0_0 l0_1 l0_2 a1_0 a1_1)))) = some r := h
 clear h
 replace H := Option.bind_eq_some_iff.mp H
 obtain ⟨t510, A40, H⟩ := H
 replace H : ((slotmeshref12_Few.f l0_0 l0_1 l0_2).bind fun t511 => (if t511 = true then ((slotmeshref12_Valid.f l0_0 l0_1 l0_2 a1_0 a1_1).bind fun t512 => (if t512 = true then (slotmeshlaw12_CellsOnce.j0 k l2 t510 (decide ((l2.length : Int) > 60)) l0_0 l0_1 l0_2 a1_0 a1_1) else (slotmeshlaw12_CellsOnce.j0 k l2 t510 true l0_0 l0_1 l0_2 a1_0 a1_1))) else (slotmeshlaw12_CellsOnce.j0 k l2 t510 true l0_0 l0_1 l0_2 a1_0 a1_1))) = some r := H
 have A4 := Aside0.mk A40
 clear A40
 have HC5 := Aside0.mk H
 clear H
 go_enter Try.func5, Try.ntmps5
 go_upto_region 2 with (first | ((with_reducible refine gate_dst (N := 3) rfl ?_); (try (refine gate_guard (by rfl) ?_; dsimp only)); refine bE (N := 3) (cs := #[.slice A0_0 l0_0.length c0_0, .slice A0_1 l0_1.length c0_1, .slice A0_2 l0_2.length c0_2]) (t := 26) ?_; intro gb508 hg w6 hbox hb; replace HO0_0 := Aside0.mk (Kd.V_below (Kd.V_elderB (sV HO0_0) gb508 (Nat.le_of_eq hg.symm)) hb); replace HO0_1 := Aside0.mk (Kd.V_below (Kd.V_elderB (sV HO0_1) gb508 (Nat.le_of_eq hg.symm)) hb); replace HO0_2 := Aside0.mk (Kd.V_below (Kd.V_elderB (sV HO0_2) gb508 (Nat.le_of_eq hg.symm)) hb); have BK508 := Aside0.mk (hbox); have GW508 := gW hg HB; have GE508 := GW508; replace HB := tW HB hb; clear hb hbox hg) | ((with_reducible refine gate_dst (N := 4) rfl ?_); (try (refine gate_guard (by rfl) ?_; dsimp only)); refine bE (N := 4) (cs := #[.int .i64 a1_0, .int .i64 a1_1]) (t := 28) ?_; intro gb509 hg w7 hbox hb; replace HO0_0 := Aside0.mk (Kd.V_below (Kd.V_elderB (sV HO0_0) gb509 (Nat.le_of_eq hg.symm)) hb); replace HO0_1 := Aside0.mk (Kd.V_below (Kd.V_elderB (sV HO0_1) gb509 (Nat.le_of_eq hg.symm)) hb); replace HO0_2 := Aside0.mk (Kd.V_below (Kd.V_elderB (sV HO0_2) gb509 (Nat.le_of_eq hg.symm)) hb); have BK509 := Aside0.mk (hbox); have GW509 := gW hg HB; have GE509 := GW509; replace HB := tW HB hb; have NB508_509 := gL hg BK508; have NB509_508 := gG hg BK508; replace BK508 := tB BK508 hb; clear hb hbox hg) | ((with_reducible refine gate_callee (f := 10) rfl ?_); refine gC (some 18) Try.func10 #[] ?_; (with_reducible refine (slotmeshlaw12_head.calls  t510 _ A4.out).mono ?_); rintro e w8 ⟨rfl, hb⟩; refine ⟨_, rfl, ?_⟩; replace HO0_0 := tV HO0_0 hb; replace HO0_1 := tV HO0_1 hb; replace HO0_2 := tV HO0_2 hb; replace BK508 := tB BK508 hb; replace BK509 := tB BK509 hb; replace HB := tW HB hb; (try clear hb); (try clear hb2); (try clear hk); (try clear hi)))
 (try simp only [Act.put, List.setIfInBounds_toArray, List.set_cons_zero, List.set_cons_succ])
 go_cut [32] (fun v32 wc => ∃ (kq : Nat) (x32_4 : Bool), v32 = .bool x32_4 ∧ Aside0 (slotmeshlaw12_CellsOnce.j0 kq l2 t510 x32_4 l0_0 l0_1 l0_2 a1_0 a1_1 = some r) ∧ Aside0 (kq ≤ k) ∧ Aside0 (Kd.V k32 32 wc w.heap.size (fun k_ => ((P0_0_ k_ ∨ P0_1_ k_ ∨ P0_2_ k_) ∨ w.heap.size ≤ k_) ∧ k_ ≠ gb508 ∧ k_ ≠ gb509) (.slice A0_0 l0_0.length c0_0) l0_0) ∧ Aside0 (Kd.V k34 34 wc w.heap.size (fun k_ => ((P0_0_ k_ ∨ P0_1_ k_ ∨ P0_2_ k_) ∨ w.heap.size ≤ k_) ∧ k_ ≠ gb508 ∧ k_ ≠ gb509) (.slice A0_1 l0_1.length c0_1) l0_1) ∧ Aside0 (Kd.V k51 51 wc w.heap.size (fun k_ => ((P0_0_ k_ ∨ P0_1_ k_ ∨ P0_2_ k_) ∨ w.heap.size ≤ k_) ∧ k_ ≠ gb508 ∧ k_ ≠ gb509) (.slice A0_2 l0_2.length c0_2) l0_2) ∧ Aside0 (wc.heap[gb508]? = some (.cells #[(.slice A0_0 l0_0.length c0_0), (.slice A0_1 l0_1.length c0_1), (.slice A0_2 l0_2.length c0_2)] 26 (0, 0))) ∧ Aside0 (wc.heap[gb509]? = some (.cells #[.int .i64 a1_0, .int .i64 a1_1] 28 (0, 0))) ∧ Aside0 (Below w.heap.size w wc))
 case first =>
  have H := HC5.out
  clear HC5
  replace H := Option.bind_eq_some_iff.mp H
  obtain ⟨t511, A90, H⟩ := H
  replace H : (if t511 = true then ((slotmeshref12_Valid.f l0_0 l0_1 l0_2 a1_0 a1_1).bind fun t512 => (if t512 = true then (slotmeshlaw12_CellsOnce.j0 k l2 t510 (decide ((l2.length : Int) > 60)) l0_0 l0_1 l0_2 a1_0 a1_1) else (slotmeshlaw12_CellsOnce.j0 k l2 t510 true l0_0 l0_1 l0_2 a1_0 a1_1))) else (slotmeshlaw12_CellsOnce.j0 k l2 t510 true l0_0 l0_1 l0_2 a1_0 a1_1)) = some r := H
  have A9 := Aside0.mk A90
  clear A90
  by_cases c10 : t511 = true
  ·subst c10
   have H1 : ((slotmeshref12_Valid.f l0_0 l0_1 l0_2 a1_0 a1_1).bind fun t512 => (if t512 = true then (slotmeshlaw12_CellsOnce.j0 k l2 t510 (decide ((l2.length : Int) > 60)) l0_0 l0_1 l0_2 a1_0 a1_1) else (slotmeshlaw12_CellsOnce.j0 k l2 t510 true l0_0 l0_1 l0_2 a1_0 a1_1))) = some r := by rw [if_pos rfl] at H; exact H
   clear H
   have H := H1
   clear H1
   replace H := Option.bind_eq_some_iff.mp H
   obtain ⟨t512, A110, H⟩ := H
   replace H : (if t512 = true then (slotmeshlaw12_CellsOnce.j0 k l2 t510 (decide ((l2.length : Int) > 60)) l0_0 l0_1 l0_2 a1_0 a1_1) else (slotmeshlaw12_CellsOnce.j0 k l2 t510 true l0_0 l0_1 l0_2 a1_0 a1_1)) = some r := H
   have A11 := Aside0.mk A110
   clear A110
   by_cases c12 : t512 = true
   ·subst c12
    have H1 : (slotmeshlaw12_CellsOnce.j0 k l2 t510 (decide ((l2.length : Int) > 60)) l0_0 l0_1 l0_2 a1_0 a1_1) = some r := by rw [if_pos rfl] at H; exact H
    clear H
    have H := H1
    clear H1
    have H' := Aside0.mk H
    clear H
    have hnb13 := NB508_509.out
    have hnc13 := NB509_508.out
    have hcz14_0 : w8.cell? ⟨gb508, 0, none⟩ = some (.slice A0_0 l0_0.length c0_0) := bt BK508 0
    have hcz14_1 : w8.cell? ⟨gb508, 1, none⟩ = some (.slice A0_1 l0_1.length c0_1) := bt BK508 1
    have hcz14_2 : w8.cell? ⟨gb508, 2, none⟩ = some (.slice A0_2 l0_2.length c0_2) := bt BK508 2
    have hfz14_0 := blk_frozen BK508.out 0
    have hfz14_1 := blk_frozen BK508.out 1
    have hfz14_2 := blk_frozen BK508.out 2
    go_wp2_with (first | ((with_reducible refine gate_callee (f := 11) rfl ?_); refine gC (some 20) Try.func11 #[.agg #[.slice A0_0 l0_0.length c0_0, .slice A0_1 l0_1.length c0_1, .slice A0_2 l0_2.length c0_2]] ?_; (with_reducible refine (slotmeshref12_Few.calls _ _ l0_0 _ _ l0_1 _ _ l0_2 true _ ?side1 ?side2 ?side3 ?side4 ?side5 ?side6 A9.out).mono ?_); (case side1 => exact sC (Kd.V_reads' HO0_0.out).2.2); (case side2 => exact (Kd.V_reads' HO0_0.out).2.1); (case side3 => exact sC (Kd.V_reads' HO0_1.out).2.2); (case side4 => exact (Kd.V_reads' HO0_1.out).2.1); (case side5 => exact sC (Kd.V_reads' HO0_2.out).2.2); (case side6 => exact (Kd.V_reads' HO0_2.out).2.1); rintro e w15 ⟨rfl, hb⟩; refine ⟨_, rfl, ?_⟩; replace HO0_0 := tV HO0_0 hb; replace HO0_1 := tV HO0_1 hb; replace HO0_2 := tV HO0_2 hb; replace BK508 := tB BK508 hb; replace BK509 := tB BK509 hb; replace HB := tW HB hb; (try clear hb); (try clear hb2); (try clear hk); (try clear hi); have hcz16_0 : w15.cell? ⟨gb508, 0, none⟩ = some (.slice A0_0 l0_0.length c0_0) := bt BK508 0; have hcz16_1 : w15.cell? ⟨gb508, 1, none⟩ = some (.slice A0_1 l0_1.length c0_1) := bt BK508 1; have hcz16_2 : w15.cell? ⟨gb508, 2, none⟩ = some (.slice A0_2 l0_2.length c0_2) := bt BK508 2; have hfz16_0 := blk_frozen BK508.out 0; have hfz16_1 := blk_frozen BK508.out 1; have hfz16_2 := blk_frozen BK508.out 2; have hcz17_0 : w15.cell? ⟨gb509, 0, none⟩ = some (.int .i64 a1_0) := bt BK509 0; have hcz17_1 : w15.cell? ⟨gb509, 1, none⟩ = some (.int .i64 a1_1) := bt BK509 1; have hfz17_0 := blk_frozen BK509.out 0; have hfz17_1 := blk_frozen BK509.out 1) | (go_at_call 18; (with_reducible refine (slotmeshref12_Valid.calls _ _ l0_0 _ _ l0_1 _ _ l0_2 a1_0 a1_1 true _ ?side1 ?side2 ?side3 ?side4 ?side5 ?side6 A11.out).mono ?_); (case side1 => exact sC (Kd.V_reads' HO0_0.out).2.2); (case side2 => exact (Kd.V_reads' HO0_0.out).2.1); (case side3 => exact sC (Kd.V_reads' HO0_1.out).2.2); (case side4 => exact (Kd.V_reads' HO0_1.out).2.1); (case side5 => exact sC (Kd.V_reads' HO0_2.out).2.2); (case side6 => exact (Kd.V_reads' HO0_2.out).2.1); rintro e w18 ⟨rfl, hb⟩; replace HO0_0 := tV HO0_0 hb; replace HO0_1 := tV HO0_1 hb; replace HO0_2 := tV HO0_2 hb; replace BK508 := tB BK508 hb; replace BK509 := tB BK509 hb; replace HB := tW HB hb; (try clear hb); (try clear hb2); (try clear hk); (try clear hi)))
    go_meet
    case rel => exact ⟨_, (decide ((l2.length : Int) > 60)), aR, H', ⟨by first | omega | exact Nat.le_refl _⟩, ⟨mV (by exact Kd.V_mono HO0_0.out (fun _ hk => ⟨hk.1.1, ⟨hk.1.2, hk.2⟩⟩))⟩, ⟨mV (by exact Kd.V_mono HO0_1.out (fun _ hk => ⟨hk.1.1, ⟨hk.1.2, hk.2⟩⟩))⟩, ⟨mV (by exact Kd.V_mono HO0_2.out (fun _ hk => ⟨hk.1.1, ⟨hk.1.2, hk.2⟩⟩))⟩, ⟨sB BK508⟩, ⟨sB BK509⟩, ⟨sW HB⟩⟩
   replace c12 := Bool.eq_false_iff.mpr c12
   subst c12
   have H1 : (slotmeshlaw12_CellsOnce.j0 k l2 t510 true l0_0 l0_1 l0_2 a1_0 a1_1) = some r := by rw [if_neg (show ¬ (false = true) by decide)] at H; exact H
   clear H
   have H := H1
   clear H1
   have H' := Aside0.mk H
   clear H
   have hnb19 := NB508_509.out
   have hnc19 := NB509_508.out
   have hcz20_0 : w8.cell? ⟨gb508, 0, none⟩ = some (.slice A0_0 l0_0.length c0_0) := bt BK508 0
   have hcz20_1 : w8.cell? ⟨gb508, 1, none⟩ = some (.slice A0_1 l0_1.length c0_1) := bt BK508 1
   have hcz20_2 : w8.cell? ⟨gb508, 2, none⟩ = some (.slice A0_2 l0_2.length c0_2) := bt BK508 2
   have hfz20_0 := blk_frozen BK508.out 0
   have hfz20_1 := blk_frozen BK508.out 1
   have hfz20_2 := blk_frozen BK508.out 2
   go_wp2_with (first | ((with_reducible refine gate_callee (f := 11) rfl ?_); refine gC (some 20) Try.func11 #[.agg #[.slice A0_0 l0_0.length c0_0, .slice A0_1 l0_1.length c0_1, .slice A0_2 l0_2.length c0_2]] ?_; (with_reducible refine (slotmeshref12_Few.calls _ _ l0_0 _ _ l0_1 _ _ l0_2 true _ ?side1 ?side2 ?side3 ?side4 ?side5 ?side6 A9.out).mono ?_); (case side1 => exact sC (Kd.V_reads' HO0_0.out).2.2); (case side2 => exact (Kd.V_reads' HO0_0.out).2.1); (case side3 => exact sC (Kd.V_reads' HO0_1.out).2.2); (case side4 => exact (Kd.V_reads' HO0_1.out).2.1); (case side5 => exact sC (Kd.V_reads' HO0_2.out).2.2); (case side6 => exact (Kd.V_reads' HO0_2.out).2.1); rintro e w21 ⟨rfl, hb⟩; refine ⟨_, rfl, ?_⟩; replace HO0_0 := tV HO0_0 hb; replace HO0_1 := tV HO0_1 hb; replace HO0_2 := tV HO0_2 hb; replace BK508 := tB BK508 hb; replace BK509 := tB BK509 hb; replace HB := tW HB hb; (try clear hb); (try clear hb2); (try clear hk); (try clear hi); have hcz22_0 : w21.cell? ⟨gb508, 0, none⟩ = some (.slice A0_0 l0_0.length c0_0) := bt BK508 0; have hcz22_1 : w21.cell? ⟨gb508, 1, none⟩ = some (.slice A0_1 l0_1.length c0_1) := bt BK508 1; have hcz22_2 : w21.cell? ⟨gb508, 2, none⟩ = some (.slice A0_2 l0_2.length c0_2) := bt BK508 2; have hfz22_0 := blk_frozen BK508.out 0; have hfz22_1 := blk_frozen BK508.out 1; have hfz22_2 := blk_frozen BK508.out 2; have hcz23_0 : w21.cell? ⟨gb509, 0, none⟩ = some (.int .i64 a1_0) := bt BK509 0; have hcz23_1 : w21.cell? ⟨gb509, 1, none⟩ = some (.int .i64 a1_1) := bt BK509 1; have hfz23_0 := blk_frozen BK509.out 0; have hfz23_1 := blk_frozen BK509.out 1) | (go_at_call 18; (with_reducible refine (slotmeshref12_Valid.calls _ _ l0_0 _ _ l0_1 _ _ l0_2 a1_0 a1_1 false _ ?side1 ?side2 ?side3 ?side4 ?side5 ?side6 A11.out).mono ?_); (case side1 => exact sC (Kd.V_reads' HO0_0.out).2.2); (case side2 => exact (Kd.V_reads' HO0_0.out).2.1); (case side3 => exact sC (Kd.V_reads' HO0_1.out).2.2); (case side4 => exact (Kd.V_reads' HO0_1.out).2.1); (case side5 => exact sC (Kd.V_reads' HO0_2.out).2.2); (case side6 => exact (Kd.V_reads' HO0_2.out).2.1); rintro e w24 ⟨rfl, hb⟩; replace HO0_0 := tV HO0_0 hb; replace HO0_1 := tV HO0_1 hb; replace HO0_2 := tV HO0_2 hb; replace BK508 := tB BK508 hb; replace BK509 := tB BK509 hb; replace HB := tW HB hb; (try clear hb); (try clear hb2); (try clear hk); (try clear hi)))
   go_meet
   case rel => exact ⟨_, (true), aR, H', ⟨by first | omega | exact Nat.le_refl _⟩, ⟨mV (by exact Kd.V_mono HO0_0.out (fun _ hk => ⟨hk.1.1, ⟨hk.1.2, hk.2⟩⟩))⟩, ⟨mV (by exact Kd.V_mono HO0_1.out (fun _ hk => ⟨hk.1.1, ⟨hk.1.2, hk.2⟩⟩))⟩, ⟨mV (by exact Kd.V_mono HO0_2.out (fun _ hk => ⟨hk.1.1, ⟨hk.1.2, hk.2⟩⟩))⟩, ⟨sB BK508⟩, ⟨sB BK509⟩, ⟨sW HB⟩⟩
  replace c10 := Bool.eq_false_iff.mpr c10
  subst c10
  have H1 : (slotmeshlaw12_CellsOnce.j0 k l2 t510 true l0_0 l0_1 l0_2 a1_0 a1_1) = some r := by rw [if_neg (show ¬ (false = true) by decide)] at H; exact H
  clear H
  have H := H1
  clear H1
  have H' := Aside0.mk H
  clear H
  have hnb25 := NB508_509.out
  have hnc25 := NB509_508.out
  have hcz26_0 : w8.cell? ⟨gb508, 0, none⟩ = some (.slice A0_0 l0_0.length c0_0) := bt BK508 0
  have hcz26_1 : w8.cell? ⟨gb508, 1, none⟩ = some (.slice A0_1 l0_1.length c0_1) := bt BK508 1
  have hcz26_2 : w8.cell? ⟨gb508, 2, none⟩ = some (.slice A0_2 l0_2.length c0_2) := bt BK508 2
  have hfz26_0 := blk_frozen BK508.out 0
  have hfz26_1 := blk_frozen BK508.out 1
  have hfz26_2 := blk_frozen BK508.out 2
  go_wp2_with (first | ((with_reducible refine gate_callee (f := 11) rfl ?_); refine gC (some 20) Try.func11 #[.agg #[.slice A0_0 l0_0.length c0_0, .slice A0_1 l0_1.length c0_1, .slice A0_2 l0_2.length c0_2]] ?_; (with_reducible refine (slotmeshref12_Few.calls _ _ l0_0 _ _ l0_1 _ _ l0_2 false _ ?side1 ?side2 ?side3 ?side4 ?side5 ?side6 A9.out).mono ?_); (case side1 => exact sC (Kd.V_reads' HO0_0.out).2.2); (case side2 => exact (Kd.V_reads' HO0_0.out).2.1); (case side3 => exact sC (Kd.V_reads' HO0_1.out).2.2); (case side4 => exact (Kd.V_reads' HO0_1.out).2.1); (case side5 => exact sC (Kd.V_reads' HO0_2.out).2.2); (case side6 => exact (Kd.V_reads' HO0_2.out).2.1); rintro e w27 ⟨rfl, hb⟩; refine ⟨_, rfl, ?_⟩; replace HO0_0 := tV HO0_0 hb; replace HO0_1 := tV HO0_1 hb; replace HO0_2 := tV HO0_2 hb; replace BK508 := tB BK508 hb; replace BK509 := tB BK509 hb; replace HB := tW HB hb; (try clear hb); (try clear hb2); (try clear hk); (try clear hi)))
  go_meet
  case rel => exact ⟨_, (true), aR, H', ⟨by first | omega | exact Nat.le_refl _⟩, ⟨mV (by exact Kd.V_mono HO0_0.out (fun _ hk => ⟨hk.1.1, ⟨hk.1.2, hk.2⟩⟩))⟩, ⟨mV (by exact Kd.V_mono HO0_1.out (fun _ hk => ⟨hk.1.1, ⟨hk.1.2, hk.2⟩⟩))⟩, ⟨mV (by exact Kd.V_mono HO0_2.out (fun _ hk => ⟨hk.1.1, ⟨hk.1.2, hk.2⟩⟩))⟩, ⟨sB BK508⟩, ⟨sB BK509⟩, ⟨sW HB⟩⟩
 case rest =>
  clear HC5
  try clear c1
  try clear c2
  try clear p2
  try clear c5
  try clear c10
  try clear c11
  try clear c12
  try clear c13
  try clear c19
  try clear c25
  try clear hcz14_0 hcz14_1 hcz14_2 hfz14_0 hfz14_1 hfz14_2
  try clear hcz16_0 hcz16_1 hcz16_2 hfz16_0 hfz16_1 hfz16_2
  try clear hcz17_0 hcz17_1 hfz17_0 hfz17_1
  try clear hcz20_0 hcz20_1 hcz20_2 hfz20_0 hfz20_1 hfz20_2
  try clear hcz22_0 hcz22_1 hcz22_2 hfz22_0 hfz22_1 hfz22_2
  try clear hcz23_0 hcz23_1 hfz23_0 hfz23_1
  try clear hcz26_0 hcz26_1 hcz26_2 hfz26_0 hfz26_1 hfz26_2
  obtain ⟨kq, x32_4, rfl, HA, HJ4, HO_509000, HO_509001, HO_509002, BK508, BK509, HB⟩ := hcut
  cases kq with
  | zero => exact absurd HA.out (by simp [slotmeshlaw12_CellsOnce.j0])
  | succ kj4 =>
   have H := HA.out
   clear HA
   simp only [slotmeshlaw12_CellsOnce.j0] at H
   by_cases c28 : x32_4 = true
   ·subst c28
    have H1 : (some t510) = some r := by rw [if_pos rfl] at H; exact H
    clear H
    have H := H1
    clear H1
    obtain rfl := Option.some.inj H
    go_wp2
    go_ret
    exact ⟨aE, sW HB⟩
   replace c28 := Bool.eq_false_iff.mpr c28
   subst c28
   have H1 : (slotmeshlaw12_CellsOnce.l0 kj4 t510 l2 (l2.length : Int) 0 l0_0 l0_1 l0_2 a1_0 a1_1) = some r := by rw [if_neg (show ¬ (false = true) by decide)] at H; exact H
   clear H
   have H := H1
   clear H1
   have H' := Aside0.mk H
   clear H
   go_wp2
   go_loopg [36] kj4 (fun kq v36 w' => ∃ (x36_2 : Int) (x509000_2 : List (S32)) (x509001_2 : List (S34)) (x509002_2 : List (S51)) (u509000 : Value) (u509001 : Value) (u509002 : Value), v36 = .int .i64 x36_2 ∧ Aside0 (slotmeshlaw12_CellsOnce.l0 kq t510 l2 (l2.length : Int) x36_2 x509000_2 x509001_2 x509002_2 a1_0 a1_1 = some r) ∧ Aside0 (kq ≤ kj4) ∧ Aside0 (Kd.V k32 32 w' w.heap.size (fun k_ => ((P0_0_ k_ ∨ P0_1_ k_ ∨ P0_2_ k_) ∨ w.heap.size ≤ k_) ∧ k_ ≠ gb508 ∧ k_ ≠ gb509) u509000 x509000_2) ∧ Aside0 (Kd.V k34 34 w' w.heap.size (fun k_ => ((P0_0_ k_ ∨ P0_1_ k_ ∨ P0_2_ k_) ∨ w.heap.size ≤ k_) ∧ k_ ≠ gb508 ∧ k_ ≠ gb509) u509001 x509001_2) ∧ Aside0 (Kd.V k51 51 w' w.heap.size (fun k_ => ((P0_0_ k_ ∨ P0_1_ k_ ∨ P0_2_ k_) ∨ w.heap.size ≤ k_) ∧ k_ ≠ gb508 ∧ k_ ≠ gb509) u509002 x509002_2) ∧ Aside0 (w'.heap[gb508]? = some (.cells #[u509000, u509001, u509002] 26 (0, 0))) ∧ Aside0 (w'.heap[gb509]? = some (.cells #[.int .i64 a1_0, .int .i64 a1_1] 28 (0, 0))) ∧ Aside0 (Below w.heap.size w w'))
   case atStart => exact ⟨(0), (l0_0), (l0_1), (l0_2), (.slice A0_0 l0_0.length c0_0), (.slice A0_1 l0_1.length c0_1), (.slice A0_2 l0_2.length c0_2), aR, H', ⟨Nat.le_refl _⟩, ⟨sV HO_509000⟩, ⟨sV HO_509001⟩, ⟨sV HO_509002⟩, ⟨sB BK508⟩, ⟨sB BK509⟩, ⟨sW HB⟩⟩
   case round =>
    clear H'
    try clear c1
    try clear c2
    try clear p2
    try clear c5
    try clear c10
    try clear c11
    try clear c12
    try clear c13
    try clear c19
    try clear c25
    try clear c28
    try clear hcz14_0 hcz14_1 hcz14_2 hfz14_0 hfz14_1 hfz14_2
    try clear hcz16_0 hcz16_1 hcz16_2 hfz16_0 hfz16_1 hfz16_2
    try clear hcz17_0 hcz17_1 hfz17_0 hfz17_1
    try clear hcz20_0 hcz20_1 hcz20_2 hfz20_0 hfz20_1 hfz20_2
    try clear hcz22_0 hcz22_1 hcz22_2 hfz22_0 hfz22_1 hfz22_2
    try clear hcz23_0 hcz23_1 hfz23_0 hfz23_1
    try clear hcz26_0 hcz26_1 hcz26_2 hfz26_0 hfz26_1 hfz26_2
    try clear p2
    obtain ⟨x36_2, x509000_2, x509001_2, x509002_2, u509000, u509001, u509002, rfl, HA, HK2, HO_509000, HO_509001, HO_509002, BK508, BK509, HB⟩ := hrel
    cases gk with
    | zero => exact absurd HA.out (by simp [slotmeshlaw12_CellsOnce.l0])
    | succ k2 =>
     have H := HA.out
     clear HA
     simp only [slotmeshlaw12_CellsOnce.l0] at H
     by_cases c29 : x36_2 < (l2.length : Int)
     ·rw [if_pos c29] at H
      have c29b0 : decide (x36_2 < (l2.length : Int)) = true := decide_eq_true c29
      clear c29
      by_cases c30 : 0 ≤ x36_2
      ·rw [if_pos c30] at H
       have c30b0 : decide (0 ≤ x36_2) = true := decide_eq_true c30
       clear c30
       by_cases c31 : x36_2 < (l2.length : Int)
       ·rw [if_pos c31] at H
        have c31b0 : decide (x36_2 < (l2.length : Int)) = true := decide_eq_true c31
        clear c31
        have HC32 := Aside0.mk H
        clear H
        have p513 : 0 ≤ (x36_2 : Int) := dA
        have q513 : x36_2 < (l2.length : Int) := dA
        obtain ⟨ad513, e513, hx513_0, hx513_1, hx513_2, hx513_3, hx513_4⟩ := at_T55 HR2.out x36_2 p513 q513
        cases e513
        replace hx513_0 := (HB.out.cell (World.block_lt_of_cell? w _ hx513_0)).trans hx513_0
        replace hx513_1 := (HB.out.cell (World.block_lt_of_cell? w _ hx513_1)).trans hx513_1
        replace hx513_2 := (HB.out.cell (World.block_lt_of_cell? w _ hx513_2)).trans hx513_2
        replace hx513_3 := (HB.out.cell (World.block_lt_of_cell? w _ hx513_3)).trans hx513_3
        replace hx513_4 := (HB.out.cell (World.block_lt_of_cell? w _ hx513_4)).trans hx513_4
        replace p513 := eq_true p513
        replace q513 := eq_true q513
        go_upto_block 2 with (first | ((with_reducible refine gate_dst (N := 9) rfl ?_); (try (refine gate_guard (by rfl) ?_; dsimp only)); refine bE (N := 9) (cs := #[.int .u8 0, .int .i64 0, .int .i64 0, .int .i64 0, .int .i64 0]) (t := 55) ?_; intro gb514 hg w33 hbox hb; replace HO_509000 := Aside0.mk (Kd.V_below (Kd.V_elderB (sV HO_509000) gb514 (Nat.le_of_eq hg.symm)) hb); replace HO_509001 := Aside0.mk (Kd.V_below (Kd.V_elderB (sV HO_509001) gb514 (Nat.le_of_eq hg.symm)) hb); replace HO_509002 := Aside0.mk (Kd.V_below (Kd.V_elderB (sV HO_509002) gb514 (Nat.le_of_eq hg.symm)) hb); have BK514 := Aside0.mk (hbox); have GW514 := gW hg HB; have GE514 := GW514; replace HB := tW HB hb; have NB508_514 := gL hg BK508; have NB514_508 := gG hg BK508; replace BK508 := tB BK508 hb; have NB509_514 := gL hg BK509; have NB514_509 := gG hg BK509; replace BK509 := tB BK509 hb; clear hb hbox hg; have hnb34 := NB514_508.out; have hnc34 := NB508_514.out; have hnb35 := NB514_509.out; have hnc35 := NB509_514.out; have hcz36_0 : w33.cell? ⟨gb514, 0, none⟩ = some (.int .u8 0) := bt BK514 0; have hcz36_1 : w33.cell? ⟨gb514, 1, none⟩ = some (.int .i64 0) := bt BK514 1; have hcz36_2 : w33.cell? ⟨gb514, 2, none⟩ = some (.int .i64 0) := bt BK514 2; have hcz36_3 : w33.cell? ⟨gb514, 3, none⟩ = some (.int .i64 0) := bt BK514 3; have hcz36_4 : w33.cell? ⟨gb514, 4, none⟩ = some (.int .i64 0) := bt BK514 4; have hfz36_0 := blk_frozen BK514.out 0; have hfz36_1 := blk_frozen BK514.out 1; have hfz36_2 := blk_frozen BK514.out 2; have hfz36_3 := blk_frozen BK514.out 3; have hfz36_4 := blk_frozen BK514.out 4; have hnb37 := NB508_509.out; have hnc37 := NB509_508.out; have hcz38_0 : w33.cell? ⟨gb508, 0, none⟩ = some (u509000) := bt BK508 0; have hcz38_1 : w33.cell? ⟨gb508, 1, none⟩ = some (u509001) := bt BK508 1; have hcz38_2 : w33.cell? ⟨gb508, 2, none⟩ = some (u509002) := bt BK508 2; have hfz38_0 := blk_frozen BK508.out 0; have hfz38_1 := blk_frozen BK508.out 1; have hfz38_2 := blk_frozen BK508.out 2) | ((with_reducible refine gate_dst (N := 10) rfl ?_); (try (refine gate_guard (by rfl) ?_; dsimp only)); refine bE (N := 10) (cs := #[.slice none 0 0, .slice none 0 0, .slice none 0 0]) (t := 26) ?_; intro gb515 hg w39 hbox hb; replace HO_509000 := Aside0.mk (Kd.V_below (Kd.V_elderB (mV (by exact (Kd.V_mono (Kd.V_far (p := ⟨gb514, 4, none⟩) (Kd.V_far (p := ⟨gb514, 3, none⟩) (Kd.V_far (p := ⟨gb514, 2, none⟩) (Kd.V_far (p := ⟨gb514, 1, none⟩) (Kd.V_far (p := ⟨gb514, 0, none⟩) (Kd.V_mono HO_509000.out (fun k_ hk => (⟨hk, hk.2⟩ : _ ∧ k_ ≠ gb514))) (fun _ hk => hk.2) (.int .u8 ((rd_T55 l2 x36_2).f0))) (fun _ hk => hk.2) (.int .i64 ((rd_T55 l2 x36_2).f1.f0))) (fun _ hk => hk.2) (.int .i64 ((rd_T55 l2 x36_2).f1.f1))) (fun _ hk => hk.2) (.int .i64 ((rd_T55 l2 x36_2).f2))) (fun _ hk => hk.2) (.int .i64 ((rd_T55 l2 x36_2).f3))) (fun _ h_ => h_.1)))) gb515 (Nat.le_of_eq hg.symm)) hb); replace HO_509001 := Aside0.mk (Kd.V_below (Kd.V_elderB (mV (by exact (Kd.V_mono (Kd.V_far (p := ⟨gb514, 4, none⟩) (Kd.V_far (p := ⟨gb514, 3, none⟩) (Kd.V_far (p := ⟨gb514, 2, none⟩) (Kd.V_far (p := ⟨gb514, 1, none⟩) (Kd.V_far (p := ⟨gb514, 0, none⟩) (Kd.V_mono HO_509001.out (fun k_ hk => (⟨hk, hk.2⟩ : _ ∧ k_ ≠ gb514))) (fun _ hk => hk.2) (.int .u8 ((rd_T55 l2 x36_2).f0))) (fun _ hk => hk.2) (.int .i64 ((rd_T55 l2 x36_2).f1.f0))) (fun _ hk => hk.2) (.int .i64 ((rd_T55 l2 x36_2).f1.f1))) (fun _ hk => hk.2) (.int .i64 ((rd_T55 l2 x36_2).f2))) (fun _ hk => hk.2) (.int .i64 ((rd_T55 l2 x36_2).f3))) (fun _ h_ => h_.1)))) gb515 (Nat.le_of_eq hg.symm)) hb); replace HO_509002 := Aside0.mk (Kd.V_below (Kd.V_elderB (mV (by exact (Kd.V_mono (Kd.V_far (p := ⟨gb514, 4, none⟩) (Kd.V_far (p := ⟨gb514, 3, none⟩) (Kd.V_far (p := ⟨gb514, 2, none⟩) (Kd.V_far (p := ⟨gb514, 1, none⟩) (Kd.V_far (p := ⟨gb514, 0, none⟩) (Kd.V_mono HO_509002.out (fun k_ hk => (⟨hk, hk.2⟩ : _ ∧ k_ ≠ gb514))) (fun _ hk => hk.2) (.int .u8 ((rd_T55 l2 x36_2).f0))) (fun _ hk => hk.2) (.int .i64 ((rd_T55 l2 x36_2).f1.f0))) (fun _ hk => hk.2) (.int .i64 ((rd_T55 l2 x36_2).f1.f1))) (fun _ hk => hk.2) (.int .i64 ((rd_T55 l2 x36_2).f2))) (fun _ hk => hk.2) (.int .i64 ((rd_T55 l2 x36_2).f3))) (fun _ h_ => h_.1)))) gb515 (Nat.le_of_eq hg.symm)) hb); have BK515 := Aside0.mk (hbox); have GW515 := gW hg HB; have GE515 := GW515; replace HB := tW HB hb; have NB508_515 := gL hg BK508; have NB515_508 := gG hg BK508; replace BK508 := tB BK508 hb; have NB509_515 := gL hg BK509; have NB515_509 := gG hg BK509; replace BK509 := tB BK509 hb; have NB514_515 := Aside0.mk ((by rw [hg]; exact Nat.ne_of_lt (blk_lt (g := gb514) (o := .cells #[.int .u8 ((rd_T55 l2 x36_2).f0), .int .i64 ((rd_T55 l2 x36_2).f1.f0), .int .i64 ((rd_T55 l2 x36_2).f1.f1), .int .i64 ((rd_T55 l2 x36_2).f2), .int .i64 ((rd_T55 l2 x36_2).f3)] 55 (0, 0)) (by (with_reducible repeat (first | refine blk_drewN ?_ _ | refine blk_drew ?_ | refine blk_alloc ?_ _)); refine blk_put (cs := #[.int .u8 ((rd_T55 l2 x36_2).f0), .int .i64 ((rd_T55 l2 x36_2).f1.f0), .int .i64 ((rd_T55 l2 x36_2).f1.f1), .int .i64 ((rd_T55 l2 x36_2).f2), .int .i64 0]) ?_ 4 _ rfl; (with_reducible repeat (first | refine blk_drewN ?_ _ | refine blk_drew ?_ | refine blk_alloc ?_ _)); refine blk_put (cs := #[.int .u8 ((rd_T55 l2 x36_2).f0), .int .i64 ((rd_T55 l2 x36_2).f1.f0), .int .i64 ((rd_T55 l2 x36_2).f1.f1), .int .i64 0, .int .i64 0]) ?_ 3 _ rfl; (with_reducible repeat (first | refine blk_drewN ?_ _ | refine blk_drew ?_ | refine blk_alloc ?_ _)); refine blk_put (cs := #[.int .u8 ((rd_T55 l2 x36_2).f0), .int .i64 ((rd_T55 l2 x36_2).f1.f0), .int .i64 0, .int .i64 0, .int .i64 0]) ?_ 2 _ rfl; (with_reducible repeat (first | refine blk_drewN ?_ _ | refine blk_drew ?_ | refine blk_alloc ?_ _)); refine blk_put (cs := #[.int .u8 ((rd_T55 l2 x36_2).f0), .int .i64 0, .int .i64 0, .int .i64 0, .int .i64 0]) ?_ 1 _ rfl; (with_reducible repeat (first | refine blk_drewN ?_ _ | refine blk_drew ?_ | refine blk_alloc ?_ _)); refine blk_put (cs := #[.int .u8 0, .int .i64 0, .int .i64 0, .int .i64 0, .int .i64 0]) ?_ 0 _ rfl; (with_reducible repeat (first | refine blk_drewN ?_ _ | refine blk_drew ?_ | refine blk_alloc ?_ _)); exact BK514.out)) : gb514 ≠ gb515)); have NB515_514 := Aside0.mk ((by rw [hg]; exact Nat.ne_of_gt (blk_lt (g := gb514) (o := .cells #[.int .u8 ((rd_T55 l2 x36_2).f0), .int .i64 ((rd_T55 l2 x36_2).f1.f0), .int .i64 ((rd_T55 l2 x36_2).f1.f1), .int .i64 ((rd_T55 l2 x36_2).f2), .int .i64 ((rd_T55 l2 x36_2).f3)] 55 (0, 0)) (by (with_reducible repeat (first | refine blk_drewN ?_ _ | refine blk_drew ?_ | refine blk_alloc ?_ _)); refine blk_put (cs := #[.int .u8 ((rd_T55 l2 x36_2).f0), .int .i64 ((rd_T55 l2 x36_2).f1.f0), .int .i64 ((rd_T55 l2 x36_2).f1.f1), .int .i64 ((rd_T55 l2 x36_2).f2), .int .i64 0]) ?_ 4 _ rfl; (with_reducible repeat (first | refine blk_drewN ?_ _ | refine blk_drew ?_ | refine blk_alloc ?_ _)); refine blk_put (cs := #[.int .u8 ((rd_T55 l2 x36_2).f0), .int .i64 ((rd_T55 l2 x36_2).f1.f0), .int .i64 ((rd_T55 l2 x36_2).f1.f1), .int .i64 0, .int .i64 0]) ?_ 3 _ rfl; (with_reducible repeat (first | refine blk_drewN ?_ _ | refine blk_drew ?_ | refine blk_alloc ?_ _)); refine blk_put (cs := #[.int .u8 ((rd_T55 l2 x36_2).f0), .int .i64 ((rd_T55 l2 x36_2).f1.f0), .int .i64 0, .int .i64 0, .int .i64 0]) ?_ 2 _ rfl; (with_reducible repeat (first | refine blk_drewN ?_ _ | refine blk_drew ?_ | refine blk_alloc ?_ _)); refine blk_put (cs := #[.int .u8 ((rd_T55 l2 x36_2).f0), .int .i64 0, .int .i64 0, .int .i64 0, .int .i64 0]) ?_ 1 _ rfl; (with_reducible repeat (first | refine blk_drewN ?_ _ | refine blk_drew ?_ | refine blk_alloc ?_ _)); refine blk_put (cs := #[.int .u8 0, .int .i64 0, .int .i64 0, .int .i64 0, .int .i64 0]) ?_ 0 _ rfl; (with_reducible repeat (first | refine blk_drewN ?_ _ | refine blk_drew ?_ | refine blk_alloc ?_ _)); exact BK514.out)) : gb515 ≠ gb514)); replace BK514 := Aside0.mk (blk_below (g := gb514) (o := .cells #[.int .u8 ((rd_T55 l2 x36_2).f0), .int .i64 ((rd_T55 l2 x36_2).f1.f0), .int .i64 ((rd_T55 l2 x36_2).f1.f1), .int .i64 ((rd_T55 l2 x36_2).f2), .int .i64 ((rd_T55 l2 x36_2).f3)] 55 (0, 0)) (by (with_reducible repeat (first | refine blk_drewN ?_ _ | refine blk_drew ?_ | refine blk_alloc ?_ _)); refine blk_put (cs := #[.int .u8 ((rd_T55 l2 x36_2).f0), .int .i64 ((rd_T55 l2 x36_2).f1.f0), .int .i64 ((rd_T55 l2 x36_2).f1.f1), .int .i64 ((rd_T55 l2 x36_2).f2), .int .i64 0]) ?_ 4 _ rfl; (with_reducible repeat (first | refine blk_drewN ?_ _ | refine blk_drew ?_ | refine blk_alloc ?_ _)); refine blk_put (cs := #[.int .u8 ((rd_T55 l2 x36_2).f0), .int .i64 ((rd_T55 l2 x36_2).f1.f0), .int .i64 ((rd_T55 l2 x36_2).f1.f1), .int .i64 0, .int .i64 0]) ?_ 3 _ rfl; (with_reducible repeat (first | refine blk_drewN ?_ _ | refine blk_drew ?_ | refine blk_alloc ?_ _)); refine blk_put (cs := #[.int .u8 ((rd_T55 l2 x36_2).f0), .int .i64 ((rd_T55 l2 x36_2).f1.f0), .int .i64 0, .int .i64 0, .int .i64 0]) ?_ 2 _ rfl; (with_reducible repeat (first | refine blk_drewN ?_ _ | refine blk_drew ?_ | refine blk_alloc ?_ _)); refine blk_put (cs := #[.int .u8 ((rd_T55 l2 x36_2).f0), .int .i64 0, .int .i64 0, .int .i64 0, .int .i64 0]) ?_ 1 _ rfl; (with_reducible repeat (first | refine blk_drewN ?_ _ | refine blk_drew ?_ | refine blk_alloc ?_ _)); refine blk_put (cs := #[.int .u8 0, .int .i64 0, .int .i64 0, .int .i64 0, .int .i64 0]) ?_ 0 _ rfl; (with_reducible repeat (first | refine blk_drewN ?_ _ | refine blk_drew ?_ | refine blk_alloc ?_ _)); exact BK514.out) hb); clear hb hbox hg; obtain ⟨Ao40, co40, eo40⟩ := Kd.V_slice HO_509000.out; subst eo40; have hnb41 := NB515_508.out; have hnc41 := NB508_515.out; have hnb42 := NB515_509.out; have hnc42 := NB509_515.out; have hnb43 := NB515_514.out; have hnc43 := NB514_515.out; have hcz44_0 : w39.cell? ⟨gb515, 0, none⟩ = some (.slice none 0 0) := bt BK515 0; have hcz44_1 : w39.cell? ⟨gb515, 1, none⟩ = some (.slice none 0 0) := bt BK515 1; have hcz44_2 : w39.cell? ⟨gb515, 2, none⟩ = some (.slice none 0 0) := bt BK515 2; have hfz44_0 := blk_frozen BK515.out 0; have hfz44_1 := blk_frozen BK515.out 1; have hfz44_2 := blk_frozen BK515.out 2; obtain ⟨Ao45, co45, eo45⟩ := Kd.V_slice HO_509001.out; subst eo45; obtain ⟨Ao46, co46, eo46⟩ := Kd.V_slice HO_509002.out; subst eo46; have hcz47_0 : w39.cell? ⟨gb514, 0, none⟩ = some (.int .u8 ((rd_T55 l2 x36_2).f0)) := bt BK514 0; have hcz47_1 : w39.cell? ⟨gb514, 1, none⟩ = some (.int .i64 ((rd_T55 l2 x36_2).f1.f0)) := bt BK514 1; have hcz47_2 : w39.cell? ⟨gb514, 2, none⟩ = some (.int .i64 ((rd_T55 l2 x36_2).f1.f1)) := bt BK514 2; have hcz47_3 : w39.cell? ⟨gb514, 3, none⟩ = some (.int .i64 ((rd_T55 l2 x36_2).f2)) := bt BK514 3; have hcz47_4 : w39.cell? ⟨gb514, 4, none⟩ = some (.int .i64 ((rd_T55 l2 x36_2).f3)) := bt BK514 4; have hfz47_0 := blk_frozen BK514.out 0; have hfz47_1 := blk_frozen BK514.out 1; have hfz47_2 := blk_frozen BK514.out 2; have hfz47_3 := blk_frozen BK514.out 3; have hfz47_4 := blk_frozen BK514.out 4))
        (try simp only [Act.put, List.setIfInBounds_toArray, List.set_cons_zero, List.set_cons_succ])
        go_cut [11] (fun v11 wc => ∃ (kq : Nat) (x11_31 : Int) (x516000_31 : List (S32)) (x516001_31 : List (S34)) (x516002_31 : List (S51)) (u516000 : Value) (u516001 : Value) (u516002 : Value), v11 = .int .i64 x11_31 ∧ Aside0 (slotmeshlaw12_CellsOnce.j2 kq t510 x11_31 l2 (l2.length : Int) x36_2 x509000_2 x509001_2 x509002_2 a1_0 a1_1 x516000_31 x516001_31 x516002_31 = some r) ∧ Aside0 (kq ≤ k2) ∧ Aside0 (Kd.V k32 32 wc w.heap.size (fun k_ => ((P0_0_ k_ ∨ P0_1_ k_ ∨ P0_2_ k_) ∨ w.heap.size ≤ k_) ∧ some k_ ≠ (u516001 : Value).ownBlock ∧ some k_ ≠ (u516002 : Value).ownBlock ∧ k_ ≠ gb508 ∧ k_ ≠ gb509 ∧ k_ ≠ gb514 ∧ k_ ≠ gb515) (.slice Ao40 x509000_2.length co40) x509000_2) ∧ Aside0 (Kd.V k34 34 wc w.heap.size (fun k_ => ((P0_0_ k_ ∨ P0_1_ k_ ∨ P0_2_ k_) ∨ w.heap.size ≤ k_) ∧ some k_ ≠ (u516000 : Value).ownBlock ∧ some k_ ≠ (u516002 : Value).ownBlock ∧ k_ ≠ gb508 ∧ k_ ≠ gb509 ∧ k_ ≠ gb514 ∧ k_ ≠ gb515) (.slice Ao45 x509001_2.length co45) x509001_2) ∧ Aside0 (Kd.V k51 51 wc w.heap.size (fun k_ => ((P0_0_ k_ ∨ P0_1_ k_ ∨ P0_2_ k_) ∨ w.heap.size ≤ k_) ∧ some k_ ≠ (u516000 : Value).ownBlock ∧ some k_ ≠ (u516001 : Value).ownBlock ∧ k_ ≠ gb508 ∧ k_ ≠ gb509 ∧ k_ ≠ gb514 ∧ k_ ≠ gb515) (.slice Ao46 x509002_2.length co46) x509002_2) ∧ Aside0 (Kd.R k32 32 wc w.heap.size (fun k_ => (w.heap.size ≤ k_)) u516000 x516000_31) ∧ Aside0 (Kd.R k34 34 wc w.heap.size (fun k_ => (w.heap.size ≤ k_)) u516001 x516001_31) ∧ Aside0 (Kd.R k51 51 wc w.heap.size (fun k_ => (w.heap.size ≤ k_)) u516002 x516002_31) ∧ Aside0 (wc.heap[gb508]? = some (.cells #[(.slice Ao40 x509000_2.length co40), (.slice Ao45 x509001_2.length co45), (.slice Ao46 x509002_2.length co46)] 26 (0, 0))) ∧ Aside0 (wc.heap[gb509]? = some (.cells #[.int .i64 a1_0, .int .i64 a1_1] 28 (0, 0))) ∧ Aside0 (wc.heap[gb514]? = some (.cells #[.int .u8 ((rd_T55 l2 x36_2).f0), .int .i64 ((rd_T55 l2 x36_2).f1.f0), .int .i64 ((rd_T55 l2 x36_2).f1.f1), .int .i64 ((rd_T55 l2 x36_2).f2), .int .i64 ((rd_T55 l2 x36_2).f3)] 55 (0, 0))) ∧ Aside0 (wc.heap[gb515]? = some (.cells #[u516000, u516001, u516002] 26 (0, 0))) ∧ Aside0 (Below w.heap.size w wc))
        case first =>
         have H := HC32.out
         clear HC32
         by_cases c48 : (Int.tmod ((rd_T55 l2 x36_2).f0) 4) = 0
         ·rw [if_pos c48] at H
          have c48b0 : ((Int.tmod ((rd_T55 l2 x36_2).f0) 4) == 0) = true := beq_iff_eq.mpr c48
          have c48b1 : ((Int.tmod ((rd_T55 l2 x36_2).f0) 4) != 0) = false := bne_eq_false_iff_eq.mpr c48
          clear c48
          (first | rw [c48b0] | (simp only [i64_w, i32_w]; rw [c48b0]) | skip)
          replace H := Option.bind_eq_some_iff.mp H
          obtain ⟨⟨t516, t519, t522, t525⟩, A490, H⟩ := H
          replace H : (slotmeshlaw12_CellsOnce.j2 k2 t510 t525 l2 (l2.length : Int) x36_2 x509000_2 x509001_2 x509002_2 a1_0 a1_1 t516 t519 t522) = some r := H
          have A49 := Aside0.mk A490
          clear A490
          have H' := Aside0.mk H
          clear H
          have hnb50 := NB508_509.out
          have hnc50 := NB509_508.out
          have hnb51 := NB508_514.out
          have hnc51 := NB514_508.out
          have hnb52 := NB508_515.out
          have hnc52 := NB515_508.out
          have hcz53_0 : w39.cell? ⟨gb508, 0, none⟩ = some (.slice Ao40 x509000_2.length co40) := bt BK508 0
          have hcz53_1 : w39.cell? ⟨gb508, 1, none⟩ = some (.slice Ao45 x509001_2.length co45) := bt BK508 1
          have hcz53_2 : w39.cell? ⟨gb508, 2, none⟩ = some (.slice Ao46 x509002_2.length co46) := bt BK508 2
          have hfz53_0 := blk_frozen BK508.out 0
          have hfz53_1 := blk_frozen BK508.out 1
          have hfz53_2 := blk_frozen BK508.out 2
          have hnb54 := NB509_514.out
          have hnc54 := NB514_509.out
          have hnb55 := NB509_515.out
          have hnc55 := NB515_509.out
          have hcz56_0 : w39.cell? ⟨gb509, 0, none⟩ = some (.int .i64 a1_0) := bt BK509 0
          have hcz56_1 : w39.cell? ⟨gb509, 1, none⟩ = some (.int .i64 a1_1) := bt BK509 1
          have hfz56_0 := blk_frozen BK509.out 0
          have hfz56_1 := blk_frozen BK509.out 1
          have hnb57 := NB514_515.out
          have hnc57 := NB515_514.out
          have hcz58_0 : w39.cell? ⟨gb514, 0, none⟩ = some (.int .u8 ((rd_T55 l2 x36_2).f0)) := bt BK514 0
          have hcz58_1 : w39.cell? ⟨gb514, 1, none⟩ = some (.int .i64 ((rd_T55 l2 x36_2).f1.f0)) := bt BK514 1
          have hcz58_2 : w39.cell? ⟨gb514, 2, none⟩ = some (.int .i64 ((rd_T55 l2 x36_2).f1.f1)) := bt BK514 2
          have hcz58_3 : w39.cell? ⟨gb514, 3, none⟩ = some (.int .i64 ((rd_T55 l2 x36_2).f2)) := bt BK514 3
          have hcz58_4 : w39.cell? ⟨gb514, 4, none⟩ = some (.int .i64 ((rd_T55 l2 x36_2).f3)) := bt BK514 4
          have hfz58_0 := blk_frozen BK514.out 0
          have hfz58_1 := blk_frozen BK514.out 1
          have hfz58_2 := blk_frozen BK514.out 2
          have hfz58_3 := blk_frozen BK514.out 3
          have hfz58_4 := blk_frozen BK514.out 4
          go_wp2_with (first | ((with_reducible refine gate_callee (f := 12) rfl ?_); refine gC (some 60) Try.func12 #[.agg #[.slice Ao40 x509000_2.length co40, .slice Ao45 x509001_2.length co45, .slice Ao46 x509002_2.length co46], .agg #[.int .i64 a1_0, .int .i64 a1_1], .agg #[.int .i64 ((rd_T55 l2 x36_2).f1.f0), .int .i64 ((rd_T55 l2 x36_2).f1.f1), .int .i64 ((rd_T55 l2 x36_2).f2), .int .i64 ((rd_T55 l2 x36_2).f3)]] ?_; (with_reducible refine (cells_AddUse.calls _ _ x509000_2 _ _ x509001_2 _ _ x509002_2 a1_0 a1_1 ((rd_T55 l2 x36_2).f1.f0) ((rd_T55 l2 x36_2).f1.f1) ((rd_T55 l2 x36_2).f2) ((rd_T55 l2 x36_2).f3) t516 t519 t522 t525 _ ?side1 ?side2 ?side3 ?side4 ?side5 ?side6 A49.out).mono ?_); (case side1 => refine (Kd.V_reads' (e := 32) (base := w.heap.size) (ok := fun k_ => (((((P0_0_ k_ ∨ P0_1_ k_ ∨ P0_2_ k_) ∨ w.heap.size ≤ k_) ∧ (k_ ≠ gb508 ∧ k_ ≠ gb509)) ∧ k_ ≠ gb514) ∧ k_ ≠ gb515)) (n := x509000_2.length) (c := co40) ?_).2.2; exact (mV (by exact (Kd.V_mono (Kd.V_far (p := ⟨gb515, 2, none⟩) (Kd.V_far (p := ⟨gb515, 1, none⟩) (Kd.V_far (p := ⟨gb515, 0, none⟩) (Kd.V_mono HO_509000.out (fun k_ hk => (⟨hk, hk.2⟩ : _ ∧ k_ ≠ gb515))) (fun _ hk => hk.2) (.slice Ao40 x509000_2.length co40)) (fun _ hk => hk.2) (.slice Ao45 x509001_2.length co45)) (fun _ hk => hk.2) (.slice Ao46 x509002_2.length co46)) (fun _ h_ => h_.1))))); (case side2 => exact (Kd.V_reads' HO_509000.out).2.1); (case side3 => refine (Kd.V_reads' (e := 34) (base := w.heap.size) (ok := fun k_ => (((((P0_0_ k_ ∨ P0_1_ k_ ∨ P0_2_ k_) ∨ w.heap.size ≤ k_) ∧ (k_ ≠ gb508 ∧ k_ ≠ gb509)) ∧ k_ ≠ gb514) ∧ k_ ≠ gb515)) (n := x509001_2.length) (c := co45) ?_).2.2; exact (mV (by exact (Kd.V_mono (Kd.V_far (p := ⟨gb515, 2, none⟩) (Kd.V_far (p := ⟨gb515, 1, none⟩) (Kd.V_far (p := ⟨gb515, 0, none⟩) (Kd.V_mono HO_509001.out (fun k_ hk => (⟨hk, hk.2⟩ : _ ∧ k_ ≠ gb515))) (fun _ hk => hk.2) (.slice Ao40 x509000_2.length co40)) (fun _ hk => hk.2) (.slice Ao45 x509001_2.length co45)) (fun _ hk => hk.2) (.slice Ao46 x509002_2.length co46)) (fun _ h_ => h_.1))))); (case side4 => exact (Kd.V_reads' HO_509001.out).2.1); (case side5 => refine (Kd.V_reads' (e := 51) (base := w.heap.size) (ok := fun k_ => (((((P0_0_ k_ ∨ P0_1_ k_ ∨ P0_2_ k_) ∨ w.heap.size ≤ k_) ∧ (k_ ≠ gb508 ∧ k_ ≠ gb509)) ∧ k_ ≠ gb514) ∧ k_ ≠ gb515)) (n := x509002_2.length) (c := co46) ?_).2.2; exact (mV (by exact (Kd.V_mono (Kd.V_far (p := ⟨gb515, 2, none⟩) (Kd.V_far (p := ⟨gb515, 1, none⟩) (Kd.V_far (p := ⟨gb515, 0, none⟩) (Kd.V_mono HO_509002.out (fun k_ hk => (⟨hk, hk.2⟩ : _ ∧ k_ ≠ gb515))) (fun _ hk => hk.2) (.slice Ao40 x509000_2.length co40)) (fun _ hk => hk.2) (.slice Ao45 x509001_2.length co45)) (fun _ hk => hk.2) (.slice Ao46 x509002_2.length co46)) (fun _ h_ => h_.1))))); (case side6 => exact (Kd.V_reads' HO_509002.out).2.1); rintro e w59 ⟨v517, v520, v523, rfl, ho0, ho1, ho2, hb⟩; refine ⟨_, rfl, ?_⟩; replace HO_509000 := Aside0.mk (Kd.V_mono (Kd.V_told (Kd.V_told (Kd.V_told (Kd.V_old (mV (by exact (Kd.V_mono (Kd.V_far (p := ⟨gb515, 2, none⟩) (Kd.V_far (p := ⟨gb515, 1, none⟩) (Kd.V_far (p := ⟨gb515, 0, none⟩) (Kd.V_mono HO_509000.out (fun k_ hk => (⟨hk, hk.2⟩ : _ ∧ k_ ≠ gb515))) (fun _ hk => hk.2) (.slice Ao40 x509000_2.length co40)) (fun _ hk => hk.2) (.slice Ao45 x509001_2.length co45)) (fun _ hk => hk.2) (.slice Ao46 x509002_2.length co46)) (fun _ h_ => h_.1)))) hb) (Kd.R_base ho0)) (Kd.R_base ho1)) (Kd.R_base ho2)) (fun _ h_ => h_.1)); replace HO_509001 := Aside0.mk (Kd.V_mono (Kd.V_told (Kd.V_told (Kd.V_told (Kd.V_old (mV (by exact (Kd.V_mono (Kd.V_far (p := ⟨gb515, 2, none⟩) (Kd.V_far (p := ⟨gb515, 1, none⟩) (Kd.V_far (p := ⟨gb515, 0, none⟩) (Kd.V_mono HO_509001.out (fun k_ hk => (⟨hk, hk.2⟩ : _ ∧ k_ ≠ gb515))) (fun _ hk => hk.2) (.slice Ao40 x509000_2.length co40)) (fun _ hk => hk.2) (.slice Ao45 x509001_2.length co45)) (fun _ hk => hk.2) (.slice Ao46 x509002_2.length co46)) (fun _ h_ => h_.1)))) hb) (Kd.R_base ho0)) (Kd.R_base ho1)) (Kd.R_base ho2)) (fun _ h_ => h_.1)); replace HO_509002 := Aside0.mk (Kd.V_mono (Kd.V_told (Kd.V_told (Kd.V_told (Kd.V_old (mV (by exact (Kd.V_mono (Kd.V_far (p := ⟨gb515, 2, none⟩) (Kd.V_far (p := ⟨gb515, 1, none⟩) (Kd.V_far (p := ⟨gb515, 0, none⟩) (Kd.V_mono HO_509002.out (fun k_ hk => (⟨hk, hk.2⟩ : _ ∧ k_ ≠ gb515))) (fun _ hk => hk.2) (.slice Ao40 x509000_2.length co40)) (fun _ hk => hk.2) (.slice Ao45 x509001_2.length co45)) (fun _ hk => hk.2) (.slice Ao46 x509002_2.length co46)) (fun _ h_ => h_.1)))) hb) (Kd.R_base ho0)) (Kd.R_base ho1)) (Kd.R_base ho2)) (fun _ h_ => h_.1)); have HO518 := Aside0.mk (Kd.R_lower (Kd.R_newM (M := fun k_ => (w.heap.size ≤ k_)) ho0 (below_size (sW HB)) (fun k_ h_ => h_)) (below_size (sW HB))); have HO521 := Aside0.mk (Kd.R_lower (Kd.R_newM (M := fun k_ => (w.heap.size ≤ k_)) ho1 (below_size (sW HB)) (fun k_ h_ => h_)) (below_size (sW HB))); have HO524 := Aside0.mk (Kd.R_lower (Kd.R_newM (M := fun k_ => (w.heap.size ≤ k_)) ho2 (below_size (sW HB)) (fun k_ h_ => h_)) (below_size (sW HB))); replace BK508 := tB BK508 hb; replace BK509 := tB BK509 hb; replace BK514 := tB BK514 hb; replace BK515 := Aside0.mk (blk_below (g := gb515) (o := .cells #[.slice Ao40 x509000_2.length co40, .slice Ao45 x509001_2.length co45, .slice Ao46 x509002_2.length co46] 26 (0, 0)) (by (with_reducible repeat (first | refine blk_drewN ?_ _ | refine blk_drew ?_ | refine blk_alloc ?_ _)); refine blk_put (cs := #[.slice Ao40 x509000_2.length co40, .slice Ao45 x509001_2.length co45, .slice none 0 0]) ?_ 2 _ rfl; (with_reducible repeat (first | refine blk_drewN ?_ _ | refine blk_drew ?_ | refine blk_alloc ?_ _)); refine blk_put (cs := #[.slice Ao40 x509000_2.length co40, .slice none 0 0, .slice none 0 0]) ?_ 1 _ rfl; (with_reducible repeat (first | refine blk_drewN ?_ _ | refine blk_drew ?_ | refine blk_alloc ?_ _)); refine blk_put (cs := #[.slice none 0 0, .slice none 0 0, .slice none 0 0]) ?_ 0 _ rfl; (with_reducible repeat (first | refine blk_drewN ?_ _ | refine blk_drew ?_ | refine blk_alloc ?_ _)); exact BK515.out) hb); replace HB := tW HB hb; (try clear hb); (try clear hb2); (try clear hk); (try clear hi); (try clear ho0); (try clear ho1); (try clear ho2); obtain ⟨Ao60, co60, eo60⟩ := Kd.R_slice HO518.out; subst eo60; have hcz61_0 : w59.cell? ⟨gb515, 0, none⟩ = some (.slice Ao40 x509000_2.length co40) := bt BK515 0; have hcz61_1 : w59.cell? ⟨gb515, 1, none⟩ = some (.slice Ao45 x509001_2.length co45) := bt BK515 1; have hcz61_2 : w59.cell? ⟨gb515, 2, none⟩ = some (.slice Ao46 x509002_2.length co46) := bt BK515 2; have hfz61_0 := blk_frozen BK515.out 0; have hfz61_1 := blk_frozen BK515.out 1; have hfz61_2 := blk_frozen BK515.out 2; obtain ⟨Ao62, co62, eo62⟩ := Kd.R_slice HO521.out; subst eo62; obtain ⟨Ao63, co63, eo63⟩ := Kd.R_slice HO524.out; subst eo63))
          go_meet
          case rel => exact ⟨_, (t525), (t516), (t519), (t522), (.slice Ao60 t516.length co60), (.slice Ao62 t519.length co62), (.slice Ao63 t522.length co63), aR, H', ⟨by have := HJ4.out; have := HK2.out; first | omega | exact Nat.le_refl _⟩, ⟨mV (by exact Kd.V_mono (Kd.V_far (p := ⟨gb515, 2, none⟩) (Kd.V_far (p := ⟨gb515, 1, none⟩) (Kd.V_far (p := ⟨gb515, 0, none⟩) (Kd.V_mono HO_509000.out (fun k_ hk => (⟨hk, hk.1.1.1.2⟩ : _ ∧ k_ ≠ gb515))) (fun _ hk => hk.2) (.slice Ao60 t516.length co60)) (fun _ hk => hk.2) (.slice Ao62 t519.length co62)) (fun _ hk => hk.2) (.slice Ao63 t522.length co63)) (fun _ hk => ⟨hk.1.1.1.1.1.1.1, ⟨hk.1.1.2, ⟨hk.1.2, ⟨hk.1.1.1.1.1.1.2.1, ⟨hk.1.1.1.1.1.1.2.2, ⟨hk.1.1.1.1.1.2, hk.1.1.1.1.2⟩⟩⟩⟩⟩⟩))⟩, ⟨mV (by exact Kd.V_mono (Kd.V_far (p := ⟨gb515, 2, none⟩) (Kd.V_far (p := ⟨gb515, 1, none⟩) (Kd.V_far (p := ⟨gb515, 0, none⟩) (Kd.V_mono HO_509001.out (fun k_ hk => (⟨hk, hk.1.1.1.2⟩ : _ ∧ k_ ≠ gb515))) (fun _ hk => hk.2) (.slice Ao60 t516.length co60)) (fun _ hk => hk.2) (.slice Ao62 t519.length co62)) (fun _ hk => hk.2) (.slice Ao63 t522.length co63)) (fun _ hk => ⟨hk.1.1.1.1.1.1.1, ⟨hk.1.1.1.2, ⟨hk.1.2, ⟨hk.1.1.1.1.1.1.2.1, ⟨hk.1.1.1.1.1.1.2.2, ⟨hk.1.1.1.1.1.2, hk.1.1.1.1.2⟩⟩⟩⟩⟩⟩))⟩, ⟨mV (by exact Kd.V_mono (Kd.V_far (p := ⟨gb515, 2, none⟩) (Kd.V_far (p := ⟨gb515, 1, none⟩) (Kd.V_far (p := ⟨gb515, 0, none⟩) (Kd.V_mono HO_509002.out (fun k_ hk => (⟨hk, hk.1.1.1.2⟩ : _ ∧ k_ ≠ gb515))) (fun _ hk => hk.2) (.slice Ao60 t516.length co60)) (fun _ hk => hk.2) (.slice Ao62 t519.length co62)) (fun _ hk => hk.2) (.slice Ao63 t522.length co63)) (fun _ hk => ⟨hk.1.1.1.1.1.1.1, ⟨hk.1.1.1.2, ⟨hk.1.1.2, ⟨hk.1.1.1.1.1.1.2.1, ⟨hk.1.1.1.1.1.1.2.2, ⟨hk.1.1.1.1.1.2, hk.1.1.1.1.2⟩⟩⟩⟩⟩⟩))⟩, ⟨mR (by exact Kd.R_mono (Kd.R_far (p := ⟨gb515, 2, none⟩) (Kd.R_far (p := ⟨gb515, 1, none⟩) (Kd.R_far (p := ⟨gb515, 0, none⟩) (Kd.R_types HO518.out BK515.out (by decide)) (fun _ hk => hk.2) (.slice Ao60 t516.length co60)) (fun _ hk => hk.2) (.slice Ao62 t519.length co62)) (fun _ hk => hk.2) (.slice Ao63 t522.length co63)) (fun _ hk => hk.1.1))⟩, ⟨mR (by exact Kd.R_mono (Kd.R_far (p := ⟨gb515, 2, none⟩) (Kd.R_far (p := ⟨gb515, 1, none⟩) (Kd.R_far (p := ⟨gb515, 0, none⟩) (Kd.R_types HO521.out BK515.out (by decide)) (fun _ hk => hk.2) (.slice Ao60 t516.length co60)) (fun _ hk => hk.2) (.slice Ao62 t519.length co62)) (fun _ hk => hk.2) (.slice Ao63 t522.length co63)) (fun _ hk => hk.1.1))⟩, ⟨mR (by exact Kd.R_mono (Kd.R_far (p := ⟨gb515, 2, none⟩) (Kd.R_far (p := ⟨gb515, 1, none⟩) (Kd.R_far (p := ⟨gb515, 0, none⟩) (Kd.R_types HO524.out BK515.out (by decide)) (fun _ hk => hk.2) (.slice Ao60 t516.length co60)) (fun _ hk => hk.2) (.slice Ao62 t519.length co62)) (fun _ hk => hk.2) (.slice Ao63 t522.length co63)) (fun _ hk => hk.1.1))⟩, ⟨sB BK508⟩, ⟨sB BK509⟩, ⟨sB BK514⟩, ⟨by (with_reducible repeat (first | refine blk_drewN ?_ _ | refine blk_drew ?_ | refine blk_alloc ?_ _)); refine blk_put (cs := #[.slice Ao60 t516.length co60, .slice Ao62 t519.length co62, .slice Ao46 x509002_2.length co46]) ?_ 2 _ rfl; (with_reducible repeat (first | refine blk_drewN ?_ _ | refine blk_drew ?_ | refine blk_alloc ?_ _)); refine blk_put (cs := #[.slice Ao60 t516.length co60, .slice Ao45 x509001_2.length co45, .slice Ao46 x509002_2.length co46]) ?_ 1 _ rfl; (with_reducible repeat (first | refine blk_drewN ?_ _ | refine blk_drew ?_ | refine blk_alloc ?_ _)); refine blk_put (cs := #[.slice Ao40 x509000_2.length co40, .slice Ao45 x509001_2.length co45, .slice Ao46 x509002_2.length co46]) ?_ 0 _ rfl; (with_reducible repeat (first | refine blk_drewN ?_ _ | refine blk_drew ?_ | refine blk_alloc ?_ _)); exact BK515.out⟩, ⟨sW HB⟩⟩
         rw [if_neg c48] at H
         have c48b0 : ((Int.tmod ((rd_T55 l2 x36_2).f0) 4) == 0) = false := beq_eq_false_iff_ne.mpr c48
         have c48b1 : ((Int.tmod ((rd_T55 l2 x36_2).f0) 4) != 0) = true := bne_iff_ne.mpr c48
         (first | rw [c48b0] | (simp only [i64_w, i32_w]; rw [c48b0]) | skip)
         by_cases c64 : (Int.tmod ((rd_T55 l2 x36_2).f0) 4) = 1
         ·rw [if_pos c64] at H
          have c64b0 : ((Int.tmod ((rd_T55 l2 x36_2).f0) 4) == 1) = true := beq_iff_eq.mpr c64
          have c64b1 : ((Int.tmod ((rd_T55 l2 x36_2).f0) 4) != 1) = false := bne_eq_false_iff_eq.mpr c64
          clear c64
          replace H := Option.bind_eq_some_iff.mp H
          obtain ⟨⟨t526, t529, t532, t535⟩, A650, H⟩ := H
          replace H : (slotmeshlaw12_CellsOnce.j2 k2 t510 t535 l2 (l2.length : Int) x36_2 x509000_2 x509001_2 x509002_2 a1_0 a1_1 t526 t529 t532) = some r := H
          have A65 := Aside0.mk A650
          clear A650
          have H' := Aside0.mk H
          clear H
          have hnb66 := NB508_509.out
          have hnc66 := NB509_508.out
          have hnb67 := NB508_514.out
          have hnc67 := NB514_508.out
          have hnb68 := NB508_515.out
          have hnc68 := NB515_508.out
          have hcz69_0 : w39.cell? ⟨gb508, 0, none⟩ = some (.slice Ao40 x509000_2.length co40) := bt BK508 0
          have hcz69_1 : w39.cell? ⟨gb508, 1, none⟩ = some (.slice Ao45 x509001_2.length co45) := bt BK508 1
          have hcz69_2 : w39.cell? ⟨gb508, 2, none⟩ = some (.slice Ao46 x509002_2.length co46) := bt BK508 2
          have hfz69_0 := blk_frozen BK508.out 0
          have hfz69_1 := blk_frozen BK508.out 1
          have hfz69_2 := blk_frozen BK508.out 2
          have hnb70 := NB509_514.out
          have hnc70 := NB514_509.out
          have hnb71 := NB509_515.out
          have hnc71 := NB515_509.out
          have hcz72_0 : w39.cell? ⟨gb509, 0, none⟩ = some (.int .i64 a1_0) := bt BK509 0
          have hcz72_1 : w39.cell? ⟨gb509, 1, none⟩ = some (.int .i64 a1_1) := bt BK509 1
          have hfz72_0 := blk_frozen BK509.out 0
          have hfz72_1 := blk_frozen BK509.out 1
          have hnb73 := NB514_515.out
          have hnc73 := NB515_514.out
          have hcz74_0 : w39.cell? ⟨gb514, 0, none⟩ = some (.int .u8 ((rd_T55 l2 x36_2).f0)) := bt BK514 0
          have hcz74_1 : w39.cell? ⟨gb514, 1, none⟩ = some (.int .i64 ((rd_T55 l2 x36_2).f1.f0)) := bt BK514 1
          have hcz74_2 : w39.cell? ⟨gb514, 2, none⟩ = some (.int .i64 ((rd_T55 l2 x36_2).f1.f1)) := bt BK514 2
          have hcz74_3 : w39.cell? ⟨gb514, 3, none⟩ = some (.int .i64 ((rd_T55 l2 x36_2).f2)) := bt BK514 3
          have hcz74_4 : w39.cell? ⟨gb514, 4, none⟩ = some (.int .i64 ((rd_T55 l2 x36_2).f3)) := bt BK514 4
          have hfz74_0 := blk_frozen BK514.out 0
          have hfz74_1 := blk_frozen BK514.out 1
          have hfz74_2 := blk_frozen BK514.out 2
          have hfz74_3 := blk_frozen BK514.out 3
          have hfz74_4 := blk_frozen BK514.out 4
          go_wp2_with (first | ((with_reducible refine gate_callee (f := 14) rfl ?_); refine gC (some 77) Try.func14 #[.agg #[.slice Ao40 x509000_2.length co40, .slice Ao45 x509001_2.length co45, .slice Ao46 x509002_2.length co46], .agg #[.int .i64 a1_0, .int .i64 a1_1], .agg #[.int .i64 ((rd_T55 l2 x36_2).f1.f0), .int .i64 ((rd_T55 l2 x36_2).f1.f1), .int .i64 ((rd_T55 l2 x36_2).f2), .int .i64 ((rd_T55 l2 x36_2).f3), .int .i64 ((rd_T55 l2 x36_2).f3)]] ?_; (with_reducible refine (cells_AddGrant.calls _ _ x509000_2 _ _ x509001_2 _ _ x509002_2 a1_0 a1_1 ((rd_T55 l2 x36_2).f1.f0) ((rd_T55 l2 x36_2).f1.f1) ((rd_T55 l2 x36_2).f2) ((rd_T55 l2 x36_2).f3) ((rd_T55 l2 x36_2).f3) t526 t529 t532 t535 _ ?side1 ?side2 ?side3 ?side4 ?side5 ?side6 A65.out).mono ?_); (case side1 => refine (Kd.V_reads' (e := 32) (base := w.heap.size) (ok := fun k_ => (((((P0_0_ k_ ∨ P0_1_ k_ ∨ P0_2_ k_) ∨ w.heap.size ≤ k_) ∧ (k_ ≠ gb508 ∧ k_ ≠ gb509)) ∧ k_ ≠ gb514) ∧ k_ ≠ gb515)) (n := x509000_2.length) (c := co40) ?_).2.2; exact (mV (by exact (Kd.V_mono (Kd.V_far (p := ⟨gb515, 2, none⟩) (Kd.V_far (p := ⟨gb515, 1, none⟩) (Kd.V_far (p := ⟨gb515, 0, none⟩) (Kd.V_mono HO_509000.out (fun k_ hk => (⟨hk, hk.2⟩ : _ ∧ k_ ≠ gb515))) (fun _ hk => hk.2) (.slice Ao40 x509000_2.length co40)) (fun _ hk => hk.2) (.slice Ao45 x509001_2.length co45)) (fun _ hk => hk.2) (.slice Ao46 x509002_2.length co46)) (fun _ h_ => h_.1))))); (case side2 => exact (Kd.V_reads' HO_509000.out).2.1); (case side3 => refine (Kd.V_reads' (e := 34) (base := w.heap.size) (ok := fun k_ => (((((P0_0_ k_ ∨ P0_1_ k_ ∨ P0_2_ k_) ∨ w.heap.size ≤ k_) ∧ (k_ ≠ gb508 ∧ k_ ≠ gb509)) ∧ k_ ≠ gb514) ∧ k_ ≠ gb515)) (n := x509001_2.length) (c := co45) ?_).2.2; exact (mV (by exact (Kd.V_mono (Kd.V_far (p := ⟨gb515, 2, none⟩) (Kd.V_far (p := ⟨gb515, 1, none⟩) (Kd.V_far (p := ⟨gb515, 0, none⟩) (Kd.V_mono HO_509001.out (fun k_ hk => (⟨hk, hk.2⟩ : _ ∧ k_ ≠ gb515))) (fun _ hk => hk.2) (.slice Ao40 x509000_2.length co40)) (fun _ hk => hk.2) (.slice Ao45 x509001_2.length co45)) (fun _ hk => hk.2) (.slice Ao46 x509002_2.length co46)) (fun _ h_ => h_.1))))); (case side4 => exact (Kd.V_reads' HO_509001.out).2.1); (case side5 => refine (Kd.V_reads' (e := 51) (base := w.heap.size) (ok := fun k_ => (((((P0_0_ k_ ∨ P0_1_ k_ ∨ P0_2_ k_) ∨ w.heap.size ≤ k_) ∧ (k_ ≠ gb508 ∧ k_ ≠ gb509)) ∧ k_ ≠ gb514) ∧ k_ ≠ gb515)) (n := x509002_2.length) (c := co46) ?_).2.2; exact (mV (by exact (Kd.V_mono (Kd.V_far (p := ⟨gb515, 2, none⟩) (Kd.V_far (p := ⟨gb515, 1, none⟩) (Kd.V_far (p := ⟨gb515, 0, none⟩) (Kd.V_mono HO_509002.out (fun k_ hk => (⟨hk, hk.2⟩ : _ ∧ k_ ≠ gb515))) (fun _ hk => hk.2) (.slice Ao40 x509000_2.length co40)) (fun _ hk => hk.2) (.slice Ao45 x509001_2.length co45)) (fun _ hk => hk.2) (.slice Ao46 x509002_2.length co46)) (fun _ h_ => h_.1))))); (case side6 => exact (Kd.V_reads' HO_509002.out).2.1); rintro e w75 ⟨v527, v530, v533, rfl, ho0, ho1, ho2, hb⟩; refine ⟨_, rfl, ?_⟩; replace HO_509000 := Aside0.mk (Kd.V_mono (Kd.V_told (Kd.V_told (Kd.V_told (Kd.V_old (mV (by exact (Kd.V_mono (Kd.V_far (p := ⟨gb515, 2, none⟩) (Kd.V_far (p := ⟨gb515, 1, none⟩) (Kd.V_far (p := ⟨gb515, 0, none⟩) (Kd.V_mono HO_509000.out (fun k_ hk => (⟨hk, hk.2⟩ : _ ∧ k_ ≠ gb515))) (fun _ hk => hk.2) (.slice Ao40 x509000_2.length co40)) (fun _ hk => hk.2) (.slice Ao45 x509001_2.length co45)) (fun _ hk => hk.2) (.slice Ao46 x509002_2.length co46)) (fun _ h_ => h_.1)))) hb) (Kd.R_base ho0)) (Kd.R_base ho1)) (Kd.R_base ho2)) (fun _ h_ => h_.1)); replace HO_509001 := Aside0.mk (Kd.V_mono (Kd.V_told (Kd.V_told (Kd.V_told (Kd.V_old (mV (by exact (Kd.V_mono (Kd.V_far (p := ⟨gb515, 2, none⟩) (Kd.V_far (p := ⟨gb515, 1, none⟩) (Kd.V_far (p := ⟨gb515, 0, none⟩) (Kd.V_mono HO_509001.out (fun k_ hk => (⟨hk, hk.2⟩ : _ ∧ k_ ≠ gb515))) (fun _ hk => hk.2) (.slice Ao40 x509000_2.length co40)) (fun _ hk => hk.2) (.slice Ao45 x509001_2.length co45)) (fun _ hk => hk.2) (.slice Ao46 x509002_2.length co46)) (fun _ h_ => h_.1)))) hb) (Kd.R_base ho0)) (Kd.R_base ho1)) (Kd.R_base ho2)) (fun _ h_ => h_.1)); replace HO_509002 := Aside0.mk (Kd.V_mono (Kd.V_told (Kd.V_told (Kd.V_told (Kd.V_old (mV (by exact (Kd.V_mono (Kd.V_far (p := ⟨gb515, 2, none⟩) (Kd.V_far (p := ⟨gb515, 1, none⟩) (Kd.V_far (p := ⟨gb515, 0, none⟩) (Kd.V_mono HO_509002.out (fun k_ hk => (⟨hk, hk.2⟩ : _ ∧ k_ ≠ gb515))) (fun _ hk => hk.2) (.slice Ao40 x509000_2.length co40)) (fun _ hk => hk.2) (.slice Ao45 x509001_2.length co45)) (fun _ hk => hk.2) (.slice Ao46 x509002_2.length co46)) (fun _ h_ => h_.1)))) hb) (Kd.R_base ho0)) (Kd.R_base ho1)) (Kd.R_base ho2)) (fun _ h_ => h_.1)); have HO528 := Aside0.mk (Kd.R_lower (Kd.R_newM (M := fun k_ => (w.heap.size ≤ k_)) ho0 (below_size (sW HB)) (fun k_ h_ => h_)) (below_size (sW HB))); have HO531 := Aside0.mk (Kd.R_lower (Kd.R_newM (M := fun k_ => (w.heap.size ≤ k_)) ho1 (below_size (sW HB)) (fun k_ h_ => h_)) (below_size (sW HB))); have HO534 := Aside0.mk (Kd.R_lower (Kd.R_newM (M := fun k_ => (w.heap.size ≤ k_)) ho2 (below_size (sW HB)) (fun k_ h_ => h_)) (below_size (sW HB))); replace BK508 := tB BK508 hb; replace BK509 := tB BK509 hb; replace BK514 := tB BK514 hb; replace BK515 := Aside0.mk (blk_below (g := gb515) (o := .cells #[.slice Ao40 x509000_2.length co40, .slice Ao45 x509001_2.length co45, .slice Ao46 x509002_2.length co46] 26 (0, 0)) (by (with_reducible repeat (first | refine blk_drewN ?_ _ | refine blk_drew ?_ | refine blk_alloc ?_ _)); refine blk_put (cs := #[.slice Ao40 x509000_2.length co40, .slice Ao45 x509001_2.length co45, .slice none 0 0]) ?_ 2 _ rfl; (with_reducible repeat (first | refine blk_drewN ?_ _ | refine blk_drew ?_ | refine blk_alloc ?_ _)); refine blk_put (cs := #[.slice Ao40 x509000_2.length co40, .slice none 0 0, .slice none 0 0]) ?_ 1 _ rfl; (with_reducible repeat (first | refine blk_drewN ?_ _ | refine blk_drew ?_ | refine blk_alloc ?_ _)); refine blk_put (cs := #[.slice none 0 0, .slice none 0 0, .slice none 0 0]) ?_ 0 _ rfl; (with_reducible repeat (first | refine blk_drewN ?_ _ | refine blk_drew ?_ | refine blk_alloc ?_ _)); exact BK515.out) hb); replace HB := tW HB hb; (try clear hb); (try clear hb2); (try clear hk); (try clear hi); (try clear ho0); (try clear ho1); (try clear ho2); obtain ⟨Ao76, co76, eo76⟩ := Kd.R_slice HO528.out; subst eo76; have hcz77_0 : w75.cell? ⟨gb515, 0, none⟩ = some (.slice Ao40 x509000_2.length co40) := bt BK515 0; have hcz77_1 : w75.cell? ⟨gb515, 1, none⟩ = some (.slice Ao45 x509001_2.length co45) := bt BK515 1; have hcz77_2 : w75.cell? ⟨gb515, 2, none⟩ = some (.slice Ao46 x509002_2.length co46) := bt BK515 2; have hfz77_0 := blk_frozen BK515.out 0; have hfz77_1 := blk_frozen BK515.out 1; have hfz77_2 := blk_frozen BK515.out 2; obtain ⟨Ao78, co78, eo78⟩ := Kd.R_slice HO531.out; subst eo78; obtain ⟨Ao79, co79, eo79⟩ := Kd.R_slice HO534.out; subst eo79))
          go_meet
          case rel => exact ⟨_, (t535), (t526), (t529), (t532), (.slice Ao76 t526.length co76), (.slice Ao78 t529.length co78), (.slice Ao79 t532.length co79), aR, H', ⟨by have := HJ4.out; have := HK2.out; first | omega | exact Nat.le_refl _⟩, ⟨mV (by exact Kd.V_mono (Kd.V_far (p := ⟨gb515, 2, none⟩) (Kd.V_far (p := ⟨gb515, 1, none⟩) (Kd.V_far (p := ⟨gb515, 0, none⟩) (Kd.V_mono HO_509000.out (fun k_ hk => (⟨hk, hk.1.1.1.2⟩ : _ ∧ k_ ≠ gb515))) (fun _ hk => hk.2) (.slice Ao76 t526.length co76)) (fun _ hk => hk.2) (.slice Ao78 t529.length co78)) (fun _ hk => hk.2) (.slice Ao79 t532.length co79)) (fun _ hk => ⟨hk.1.1.1.1.1.1.1, ⟨hk.1.1.2, ⟨hk.1.2, ⟨hk.1.1.1.1.1.1.2.1, ⟨hk.1.1.1.1.1.1.2.2, ⟨hk.1.1.1.1.1.2, hk.1.1.1.1.2⟩⟩⟩⟩⟩⟩))⟩, ⟨mV (by exact Kd.V_mono (Kd.V_far (p := ⟨gb515, 2, none⟩) (Kd.V_far (p := ⟨gb515, 1, none⟩) (Kd.V_far (p := ⟨gb515, 0, none⟩) (Kd.V_mono HO_509001.out (fun k_ hk => (⟨hk, hk.1.1.1.2⟩ : _ ∧ k_ ≠ gb515))) (fun _ hk => hk.2) (.slice Ao76 t526.length co76)) (fun _ hk => hk.2) (.slice Ao78 t529.length co78)) (fun _ hk => hk.2) (.slice Ao79 t532.length co79)) (fun _ hk => ⟨hk.1.1.1.1.1.1.1, ⟨hk.1.1.1.2, ⟨hk.1.2, ⟨hk.1.1.1.1.1.1.2.1, ⟨hk.1.1.1.1.1.1.2.2, ⟨hk.1.1.1.1.1.2, hk.1.1.1.1.2⟩⟩⟩⟩⟩⟩))⟩, ⟨mV (by exact Kd.V_mono (Kd.V_far (p := ⟨gb515, 2, none⟩) (Kd.V_far (p := ⟨gb515, 1, none⟩) (Kd.V_far (p := ⟨gb515, 0, none⟩) (Kd.V_mono HO_509002.out (fun k_ hk => (⟨hk, hk.1.1.1.2⟩ : _ ∧ k_ ≠ gb515))) (fun _ hk => hk.2) (.slice Ao76 t526.length co76)) (fun _ hk => hk.2) (.slice Ao78 t529.length co78)) (fun _ hk => hk.2) (.slice Ao79 t532.length co79)) (fun _ hk => ⟨hk.1.1.1.1.1.1.1, ⟨hk.1.1.1.2, ⟨hk.1.1.2, ⟨hk.1.1.1.1.1.1.2.1, ⟨hk.1.1.1.1.1.1.2.2, ⟨hk.1.1.1.1.1.2, hk.1.1.1.1.2⟩⟩⟩⟩⟩⟩))⟩, ⟨mR (by exact Kd.R_mono (Kd.R_far (p := ⟨gb515, 2, none⟩) (Kd.R_far (p := ⟨gb515, 1, none⟩) (Kd.R_far (p := ⟨gb515, 0, none⟩) (Kd.R_types HO528.out BK515.out (by decide)) (fun _ hk => hk.2) (.slice Ao76 t526.length co76)) (fun _ hk => hk.2) (.slice Ao78 t529.length co78)) (fun _ hk => hk.2) (.slice Ao79 t532.length co79)) (fun _ hk => hk.1.1))⟩, ⟨mR (by exact Kd.R_mono (Kd.R_far (p := ⟨gb515, 2, none⟩) (Kd.R_far (p := ⟨gb515, 1, none⟩) (Kd.R_far (p := ⟨gb515, 0, none⟩) (Kd.R_types HO531.out BK515.out (by decide)) (fun _ hk => hk.2) (.slice Ao76 t526.length co76)) (fun _ hk => hk.2) (.slice Ao78 t529.length co78)) (fun _ hk => hk.2) (.slice Ao79 t532.length co79)) (fun _ hk => hk.1.1))⟩, ⟨mR (by exact Kd.R_mono (Kd.R_far (p := ⟨gb515, 2, none⟩) (Kd.R_far (p := ⟨gb515, 1, none⟩) (Kd.R_far (p := ⟨gb515, 0, none⟩) (Kd.R_types HO534.out BK515.out (by decide)) (fun _ hk => hk.2) (.slice Ao76 t526.length co76)) (fun _ hk => hk.2) (.slice Ao78 t529.length co78)) (fun _ hk => hk.2) (.slice Ao79 t532.length co79)) (fun _ hk => hk.1.1))⟩, ⟨sB BK508⟩, ⟨sB BK509⟩, ⟨sB BK514⟩, ⟨by (with_reducible repeat (first | refine blk_drewN ?_ _ | refine blk_drew ?_ | refine blk_alloc ?_ _)); refine blk_put (cs := #[.slice Ao76 t526.length co76, .slice Ao78 t529.length co78, .slice Ao46 x509002_2.length co46]) ?_ 2 _ rfl; (with_reducible repeat (first | refine blk_drewN ?_ _ | refine blk_drew ?_ | refine blk_alloc ?_ _)); refine blk_put (cs := #[.slice Ao76 t526.length co76, .slice Ao45 x509001_2.length co45, .slice Ao46 x509002_2.length co46]) ?_ 1 _ rfl; (with_reducible repeat (first | refine blk_drewN ?_ _ | refine blk_drew ?_ | refine blk_alloc ?_ _)); refine blk_put (cs := #[.slice Ao40 x509000_2.length co40, .slice Ao45 x509001_2.length co45, .slice Ao46 x509002_2.length co46]) ?_ 0 _ rfl; (with_reducible repeat (first | refine blk_drewN ?_ _ | refine blk_drew ?_ | refine blk_alloc ?_ _)); exact BK515.out⟩, ⟨sW HB⟩⟩
         rw [if_neg c64] at H
         have c64b0 : ((Int.tmod ((rd_T55 l2 x36_2).f0) 4) == 1) = false := beq_eq_false_iff_ne.mpr c64
         have c64b1 : ((Int.tmod ((rd_T55 l2 x36_2).f0) 4) != 1) = true := bne_iff_ne.mpr c64
         by_cases c80 : (Int.tmod ((rd_T55 l2 x36_2).f0) 4) = 2
         ·rw [if_pos c80] at H
          have c80b0 : ((Int.tmod ((rd_T55 l2 x36_2).f0) 4) == 2) = true := beq_iff_eq.mpr c80
          have c80b1 : ((Int.tmod ((rd_T55 l2 x36_2).f0) 4) != 2) = false := bne_eq_false_iff_eq.mpr c80
          clear c80
          replace H := Option.bind_eq_some_iff.mp H
          obtain ⟨⟨t536, t539, t542⟩, A810, H⟩ := H
          replace H : (slotmeshlaw12_CellsOnce.j2 k2 t510 0 l2 (l2.length : Int) x36_2 x509000_2 x509001_2 x509002_2 a1_0 a1_1 t536 t539 t542) = some r := H
          have A81 := Aside0.mk A810
          clear A810
          have H' := Aside0.mk H
          clear H
          have hnb82 := NB508_509.out
          have hnc82 := NB509_508.out
          have hnb83 := NB508_514.out
          have hnc83 := NB514_508.out
          have hnb84 := NB508_515.out
          have hnc84 := NB515_508.out
          have hcz85_0 : w39.cell? ⟨gb508, 0, none⟩ = some (.slice Ao40 x509000_2.length co40) := bt BK508 0
          have hcz85_1 : w39.cell? ⟨gb508, 1, none⟩ = some (.slice Ao45 x509001_2.length co45) := bt BK508 1
          have hcz85_2 : w39.cell? ⟨gb508, 2, none⟩ = some (.slice Ao46 x509002_2.length co46) := bt BK508 2
          have hfz85_0 := blk_frozen BK508.out 0
          have hfz85_1 := blk_frozen BK508.out 1
          have hfz85_2 := blk_frozen BK508.out 2
          have hnb86 := NB514_509.out
          have hnc86 := NB509_514.out
          have hnb87 := NB514_515.out
          have hnc87 := NB515_514.out
          have hcz88_0 : w39.cell? ⟨gb514, 0, none⟩ = some (.int .u8 ((rd_T55 l2 x36_2).f0)) := bt BK514 0
          have hcz88_1 : w39.cell? ⟨gb514, 1, none⟩ = some (.int .i64 ((rd_T55 l2 x36_2).f1.f0)) := bt BK514 1
          have hcz88_2 : w39.cell? ⟨gb514, 2, none⟩ = some (.int .i64 ((rd_T55 l2 x36_2).f1.f1)) := bt BK514 2
          have hcz88_3 : w39.cell? ⟨gb514, 3, none⟩ = some (.int .i64 ((rd_T55 l2 x36_2).f2)) := bt BK514 3
          have hcz88_4 : w39.cell? ⟨gb514, 4, none⟩ = some (.int .i64 ((rd_T55 l2 x36_2).f3)) := bt BK514 4
          have hfz88_0 := blk_frozen BK514.out 0
          have hfz88_1 := blk_frozen BK514.out 1
          have hfz88_2 := blk_frozen BK514.out 2
          have hfz88_3 := blk_frozen BK514.out 3
          have hfz88_4 := blk_frozen BK514.out 4
          go_wp2_with (first | ((with_reducible refine gate_callee (f := 21) rfl ?_); refine gC (some 85) Try.func21 #[.agg #[.slice Ao40 x509000_2.length co40, .slice Ao45 x509001_2.length co45, .slice Ao46 x509002_2.length co46], .agg #[.int .i64 ((rd_T55 l2 x36_2).f1.f0), .int .i64 ((rd_T55 l2 x36_2).f1.f1)]] ?_; (with_reducible refine (cells_Drop.calls _ _ x509000_2 _ _ x509001_2 _ _ x509002_2 ((rd_T55 l2 x36_2).f1.f0) ((rd_T55 l2 x36_2).f1.f1) t536 t539 t542 _ ?side1 ?side2 ?side3 ?side4 ?side5 ?side6 A81.out).mono ?_); (case side1 => refine (Kd.V_reads' (e := 32) (base := w.heap.size) (ok := fun k_ => (((((P0_0_ k_ ∨ P0_1_ k_ ∨ P0_2_ k_) ∨ w.heap.size ≤ k_) ∧ (k_ ≠ gb508 ∧ k_ ≠ gb509)) ∧ k_ ≠ gb514) ∧ k_ ≠ gb515)) (n := x509000_2.length) (c := co40) ?_).2.2; exact (mV (by exact (Kd.V_mono (Kd.V_far (p := ⟨gb515, 2, none⟩) (Kd.V_far (p := ⟨gb515, 1, none⟩) (Kd.V_far (p := ⟨gb515, 0, none⟩) (Kd.V_mono HO_509000.out (fun k_ hk => (⟨hk, hk.2⟩ : _ ∧ k_ ≠ gb515))) (fun _ hk => hk.2) (.slice Ao40 x509000_2.length co40)) (fun _ hk => hk.2) (.slice Ao45 x509001_2.length co45)) (fun _ hk => hk.2) (.slice Ao46 x509002_2.length co46)) (fun _ h_ => h_.1))))); (case side2 => exact (Kd.V_reads' HO_509000.out).2.1); (case side3 => refine (Kd.V_reads' (e := 34) (base := w.heap.size) (ok := fun k_ => (((((P0_0_ k_ ∨ P0_1_ k_ ∨ P0_2_ k_) ∨ w.heap.size ≤ k_) ∧ (k_ ≠ gb508 ∧ k_ ≠ gb509)) ∧ k_ ≠ gb514) ∧ k_ ≠ gb515)) (n := x509001_2.length) (c := co45) ?_).2.2; exact (mV (by exact (Kd.V_mono (Kd.V_far (p := ⟨gb515, 2, none⟩) (Kd.V_far (p := ⟨gb515, 1, none⟩) (Kd.V_far (p := ⟨gb515, 0, none⟩) (Kd.V_mono HO_509001.out (fun k_ hk => (⟨hk, hk.2⟩ : _ ∧ k_ ≠ gb515))) (fun _ hk => hk.2) (.slice Ao40 x509000_2.length co40)) (fun _ hk => hk.2) (.slice Ao45 x509001_2.length co45)) (fun _ hk => hk.2) (.slice Ao46 x509002_2.length co46)) (fun _ h_ => h_.1))))); (case side4 => exact (Kd.V_reads' HO_509001.out).2.1); (case side5 => refine (Kd.V_reads' (e := 51) (base := w.heap.size) (ok := fun k_ => (((((P0_0_ k_ ∨ P0_1_ k_ ∨ P0_2_ k_) ∨ w.heap.size ≤ k_) ∧ (k_ ≠ gb508 ∧ k_ ≠ gb509)) ∧ k_ ≠ gb514) ∧ k_ ≠ gb515)) (n := x509002_2.length) (c := co46) ?_).2.2; exact (mV (by exact (Kd.V_mono (Kd.V_far (p := ⟨gb515, 2, none⟩) (Kd.V_far (p := ⟨gb515, 1, none⟩) (Kd.V_far (p := ⟨gb515, 0, none⟩) (Kd.V_mono HO_509002.out (fun k_ hk => (⟨hk, hk.2⟩ : _ ∧ k_ ≠ gb515))) (fun _ hk => hk.2) (.slice Ao40 x509000_2.length co40)) (fun _ hk => hk.2) (.slice Ao45 x509001_2.length co45)) (fun _ hk => hk.2) (.slice Ao46 x509002_2.length co46)) (fun _ h_ => h_.1))))); (case side6 => exact (Kd.V_reads' HO_509002.out).2.1); rintro e w89 ⟨v537, v540, v543, rfl, ho0, ho1, ho2, hb⟩; refine ⟨_, rfl, ?_⟩; replace HO_509000 := Aside0.mk (Kd.V_mono (Kd.V_told (Kd.V_told (Kd.V_told (Kd.V_old (mV (by exact (Kd.V_mono (Kd.V_far (p := ⟨gb515, 2, none⟩) (Kd.V_far (p := ⟨gb515, 1, none⟩) (Kd.V_far (p := ⟨gb515, 0, none⟩) (Kd.V_mono HO_509000.out (fun k_ hk => (⟨hk, hk.2⟩ : _ ∧ k_ ≠ gb515))) (fun _ hk => hk.2) (.slice Ao40 x509000_2.length co40)) (fun _ hk => hk.2) (.slice Ao45 x509001_2.length co45)) (fun _ hk => hk.2) (.slice Ao46 x509002_2.length co46)) (fun _ h_ => h_.1)))) hb) (Kd.R_base ho0)) (Kd.R_base ho1)) (Kd.R_base ho2)) (fun _ h_ => h_.1)); replace HO_509001 := Aside0.mk (Kd.V_mono (Kd.V_told (Kd.V_told (Kd.V_told (Kd.V_old (mV (by exact (Kd.V_mono (Kd.V_far (p := ⟨gb515, 2, none⟩) (Kd.V_far (p := ⟨gb515, 1, none⟩) (Kd.V_far (p := ⟨gb515, 0, none⟩) (Kd.V_mono HO_509001.out (fun k_ hk => (⟨hk, hk.2⟩ : _ ∧ k_ ≠ gb515))) (fun _ hk => hk.2) (.slice Ao40 x509000_2.length co40)) (fun _ hk => hk.2) (.slice Ao45 x509001_2.length co45)) (fun _ hk => hk.2) (.slice Ao46 x509002_2.length co46)) (fun _ h_ => h_.1)))) hb) (Kd.R_base ho0)) (Kd.R_base ho1)) (Kd.R_base ho2)) (fun _ h_ => h_.1)); replace HO_509002 := Aside0.mk (Kd.V_mono (Kd.V_told (Kd.V_told (Kd.V_told (Kd.V_old (mV (by exact (Kd.V_mono (Kd.V_far (p := ⟨gb515, 2, none⟩) (Kd.V_far (p := ⟨gb515, 1, none⟩) (Kd.V_far (p := ⟨gb515, 0, none⟩) (Kd.V_mono HO_509002.out (fun k_ hk => (⟨hk, hk.2⟩ : _ ∧ k_ ≠ gb515))) (fun _ hk => hk.2) (.slice Ao40 x509000_2.length co40)) (fun _ hk => hk.2) (.slice Ao45 x509001_2.length co45)) (fun _ hk => hk.2) (.slice Ao46 x509002_2.length co46)) (fun _ h_ => h_.1)))) hb) (Kd.R_base ho0)) (Kd.R_base ho1)) (Kd.R_base ho2)) (fun _ h_ => h_.1)); have HO538 := Aside0.mk (Kd.R_lower (Kd.R_newM (M := fun k_ => (w.heap.size ≤ k_)) ho0 (below_size (sW HB)) (fun k_ h_ => h_)) (below_size (sW HB))); have HO541 := Aside0.mk (Kd.R_lower (Kd.R_newM (M := fun k_ => (w.heap.size ≤ k_)) ho1 (below_size (sW HB)) (fun k_ h_ => h_)) (below_size (sW HB))); have HO544 := Aside0.mk (Kd.R_lower (Kd.R_newM (M := fun k_ => (w.heap.size ≤ k_)) ho2 (below_size (sW HB)) (fun k_ h_ => h_)) (below_size (sW HB))); replace BK508 := tB BK508 hb; replace BK509 := tB BK509 hb; replace BK514 := tB BK514 hb; replace BK515 := Aside0.mk (blk_below (g := gb515) (o := .cells #[.slice Ao40 x509000_2.length co40, .slice Ao45 x509001_2.length co45, .slice Ao46 x509002_2.length co46] 26 (0, 0)) (by (with_reducible repeat (first | refine blk_drewN ?_ _ | refine blk_drew ?_ | refine blk_alloc ?_ _)); refine blk_put (cs := #[.slice Ao40 x509000_2.length co40, .slice Ao45 x509001_2.length co45, .slice none 0 0]) ?_ 2 _ rfl; (with_reducible repeat (first | refine blk_drewN ?_ _ | refine blk_drew ?_ | refine blk_alloc ?_ _)); refine blk_put (cs := #[.slice Ao40 x509000_2.length co40, .slice none 0 0, .slice none 0 0]) ?_ 1 _ rfl; (with_reducible repeat (first | refine blk_drewN ?_ _ | refine blk_drew ?_ | refine blk_alloc ?_ _)); refine blk_put (cs := #[.slice none 0 0, .slice none 0 0, .slice none 0 0]) ?_ 0 _ rfl; (with_reducible repeat (first | refine blk_drewN ?_ _ | refine blk_drew ?_ | refine blk_alloc ?_ _)); exact BK515.out) hb); replace HB := tW HB hb; (try clear hb); (try clear hb2); (try clear hk); (try clear hi); (try clear ho0); (try clear ho1); (try clear ho2); obtain ⟨Ao90, co90, eo90⟩ := Kd.R_slice HO538.out; subst eo90; have hnb91 := NB515_509.out; have hnc91 := NB509_515.out; have hcz92_0 : w89.cell? ⟨gb515, 0, none⟩ = some (.slice Ao40 x509000_2.length co40) := bt BK515 0; have hcz92_1 : w89.cell? ⟨gb515, 1, none⟩ = some (.slice Ao45 x509001_2.length co45) := bt BK515 1; have hcz92_2 : w89.cell? ⟨gb515, 2, none⟩ = some (.slice Ao46 x509002_2.length co46) := bt BK515 2; have hfz92_0 := blk_frozen BK515.out 0; have hfz92_1 := blk_frozen BK515.out 1; have hfz92_2 := blk_frozen BK515.out 2; obtain ⟨Ao93, co93, eo93⟩ := Kd.R_slice HO541.out; subst eo93; obtain ⟨Ao94, co94, eo94⟩ := Kd.R_slice HO544.out; subst eo94))
          go_meet
          case rel => exact ⟨_, (0), (t536), (t539), (t542), (.slice Ao90 t536.length co90), (.slice Ao93 t539.length co93), (.slice Ao94 t542.length co94), aR, H', ⟨by have := HJ4.out; have := HK2.out; first | omega | exact Nat.le_refl _⟩, ⟨mV (by exact Kd.V_mono (Kd.V_far (p := ⟨gb515, 2, none⟩) (Kd.V_far (p := ⟨gb515, 1, none⟩) (Kd.V_far (p := ⟨gb515, 0, none⟩) (Kd.V_mono HO_509000.out (fun k_ hk => (⟨hk, hk.1.1.1.2⟩ : _ ∧ k_ ≠ gb515))) (fun _ hk => hk.2) (.slice Ao90 t536.length co90)) (fun _ hk => hk.2) (.slice Ao93 t539.length co93)) (fun _ hk => hk.2) (.slice Ao94 t542.length co94)) (fun _ hk => ⟨hk.1.1.1.1.1.1.1, ⟨hk.1.1.2, ⟨hk.1.2, ⟨hk.1.1.1.1.1.1.2.1, ⟨hk.1.1.1.1.1.1.2.2, ⟨hk.1.1.1.1.1.2, hk.1.1.1.1.2⟩⟩⟩⟩⟩⟩))⟩, ⟨mV (by exact Kd.V_mono (Kd.V_far (p := ⟨gb515, 2, none⟩) (Kd.V_far (p := ⟨gb515, 1, none⟩) (Kd.V_far (p := ⟨gb515, 0, none⟩) (Kd.V_mono HO_509001.out (fun k_ hk => (⟨hk, hk.1.1.1.2⟩ : _ ∧ k_ ≠ gb515))) (fun _ hk => hk.2) (.slice Ao90 t536.length co90)) (fun _ hk => hk.2) (.slice Ao93 t539.length co93)) (fun _ hk => hk.2) (.slice Ao94 t542.length co94)) (fun _ hk => ⟨hk.1.1.1.1.1.1.1, ⟨hk.1.1.1.2, ⟨hk.1.2, ⟨hk.1.1.1.1.1.1.2.1, ⟨hk.1.1.1.1.1.1.2.2, ⟨hk.1.1.1.1.1.2, hk.1.1.1.1.2⟩⟩⟩⟩⟩⟩))⟩, ⟨mV (by exact Kd.V_mono (Kd.V_far (p := ⟨gb515, 2, none⟩) (Kd.V_far (p := ⟨gb515, 1, none⟩) (Kd.V_far (p := ⟨gb515, 0, none⟩) (Kd.V_mono HO_509002.out (fun k_ hk => (⟨hk, hk.1.1.1.2⟩ : _ ∧ k_ ≠ gb515))) (fun _ hk => hk.2) (.slice Ao90 t536.length co90)) (fun _ hk => hk.2) (.slice Ao93 t539.length co93)) (fun _ hk => hk.2) (.slice Ao94 t542.length co94)) (fun _ hk => ⟨hk.1.1.1.1.1.1.1, ⟨hk.1.1.1.2, ⟨hk.1.1.2, ⟨hk.1.1.1.1.1.1.2.1, ⟨hk.1.1.1.1.1.1.2.2, ⟨hk.1.1.1.1.1.2, hk.1.1.1.1.2⟩⟩⟩⟩⟩⟩))⟩, ⟨mR (by exact Kd.R_mono (Kd.R_far (p := ⟨gb515, 2, none⟩) (Kd.R_far (p := ⟨gb515, 1, none⟩) (Kd.R_far (p := ⟨gb515, 0, none⟩) (Kd.R_types HO538.out BK515.out (by decide)) (fun _ hk => hk.2) (.slice Ao90 t536.length co90)) (fun _ hk => hk.2) (.slice Ao93 t539.length co93)) (fun _ hk => hk.2) (.slice Ao94 t542.length co94)) (fun _ hk => hk.1.1))⟩, ⟨mR (by exact Kd.R_mono (Kd.R_far (p := ⟨gb515, 2, none⟩) (Kd.R_far (p := ⟨gb515, 1, none⟩) (Kd.R_far (p := ⟨gb515, 0, none⟩) (Kd.R_types HO541.out BK515.out (by decide)) (fun _ hk => hk.2) (.slice Ao90 t536.length co90)) (fun _ hk => hk.2) (.slice Ao93 t539.length co93)) (fun _ hk => hk.2) (.slice Ao94 t542.length co94)) (fun _ hk => hk.1.1))⟩, ⟨mR (by exact Kd.R_mono (Kd.R_far (p := ⟨gb515, 2, none⟩) (Kd.R_far (p := ⟨gb515, 1, none⟩) (Kd.R_far (p := ⟨gb515, 0, none⟩) (Kd.R_types HO544.out BK515.out (by decide)) (fun _ hk => hk.2) (.slice Ao90 t536.length co90)) (fun _ hk => hk.2) (.slice Ao93 t539.length co93)) (fun _ hk => hk.2) (.slice Ao94 t542.length co94)) (fun _ hk => hk.1.1))⟩, ⟨sB BK508⟩, ⟨sB BK509⟩, ⟨sB BK514⟩, ⟨by (with_reducible repeat (first | refine blk_drewN ?_ _ | refine blk_drew ?_ | refine blk_alloc ?_ _)); refine blk_put (cs := #[.slice Ao90 t536.length co90, .slice Ao93 t539.length co93, .slice Ao46 x509002_2.length co46]) ?_ 2 _ rfl; (with_reducible repeat (first | refine blk_drewN ?_ _ | refine blk_drew ?_ | refine blk_alloc ?_ _)); refine blk_put (cs := #[.slice Ao90 t536.length co90, .slice Ao45 x509001_2.length co45, .slice Ao46 x509002_2.length co46]) ?_ 1 _ rfl; (with_reducible repeat (first | refine blk_drewN ?_ _ | refine blk_drew ?_ | refine blk_alloc ?_ _)); refine blk_put (cs := #[.slice Ao40 x509000_2.length co40, .slice Ao45 x509001_2.length co45, .slice Ao46 x509002_2.length co46]) ?_ 0 _ rfl; (with_reducible repeat (first | refine blk_drewN ?_ _ | refine blk_drew ?_ | refine blk_alloc ?_ _)); exact BK515.out⟩, ⟨sW HB⟩⟩
         rw [if_neg c80] at H
         have c80b0 : ((Int.tmod ((rd_T55 l2 x36_2).f0) 4) == 2) = false := beq_eq_false_iff_ne.mpr c80
         have c80b1 : ((Int.tmod ((rd_T55 l2 x36_2).f0) 4) != 2) = true := bne_iff_ne.mpr c80
         replace H := Option.bind_eq_some_iff.mp H
         obtain ⟨⟨t545, t548, t551⟩, A950, H⟩ := H
         replace H : (slotmeshlaw12_CellsOnce.j2 k2 t510 0 l2 (l2.length : Int) x36_2 x509000_2 x509001_2 x509002_2 a1_0 a1_1 t545 t548 t551) = some r := H
         have A95 := Aside0.mk A950
         clear A950
         have H' := Aside0.mk H
         clear H
         have hnb96 := NB508_509.out
         have hnc96 := NB509_508.out
         have hnb97 := NB508_514.out
         have hnc97 := NB514_508.out
         have hnb98 := NB508_515.out
         have hnc98 := NB515_508.out
         have hcz99_0 : w39.cell? ⟨gb508, 0, none⟩ = some (.slice Ao40 x509000_2.length co40) := bt BK508 0
         have hcz99_1 : w39.cell? ⟨gb508, 1, none⟩ = some (.slice Ao45 x509001_2.length co45) := bt BK508 1
         have hcz99_2 : w39.cell? ⟨gb508, 2, none⟩ = some (.slice Ao46 x509002_2.length co46) := bt BK508 2
         have hfz99_0 := blk_frozen BK508.out 0
         have hfz99_1 := blk_frozen BK508.out 1
         have hfz99_2 := blk_frozen BK508.out 2
         have hnb100 := NB514_509.out
         have hnc100 := NB509_514.out
         have hnb101 := NB514_515.out
         have hnc101 := NB515_514.out
         have hcz102_0 : w39.cell? ⟨gb514, 0, none⟩ = some (.int .u8 ((rd_T55 l2 x36_2).f0)) := bt BK514 0
         have hcz102_1 : w39.cell? ⟨gb514, 1, none⟩ = some (.int .i64 ((rd_T55 l2 x36_2).f1.f0)) := bt BK514 1
         have hcz102_2 : w39.cell? ⟨gb514, 2, none⟩ = some (.int .i64 ((rd_T55 l2 x36_2).f1.f1)) := bt BK514 2
         have hcz102_3 : w39.cell? ⟨gb514, 3, none⟩ = some (.int .i64 ((rd_T55 l2 x36_2).f2)) := bt BK514 3
         have hcz102_4 : w39.cell? ⟨gb514, 4, none⟩ = some (.int .i64 ((rd_T55 l2 x36_2).f3)) := bt BK514 4
         have hfz102_0 := blk_frozen BK514.out 0
         have hfz102_1 := blk_frozen BK514.out 1
         have hfz102_2 := blk_frozen BK514.out 2
         have hfz102_3 := blk_frozen BK514.out 3
         have hfz102_4 := blk_frozen BK514.out 4
         go_wp2_with (first | ((with_reducible refine gate_callee (f := 23) rfl ?_); refine gC (some 47) Try.func23 #[.agg #[.slice Ao40 x509000_2.length co40, .slice Ao45 x509001_2.length co45, .slice Ao46 x509002_2.length co46], .int .i64 ((rd_T55 l2 x36_2).f3)] ?_; (with_reducible refine (cells_Expire.calls _ _ x509000_2 _ _ x509001_2 _ _ x509002_2 ((rd_T55 l2 x36_2).f3) t545 t548 t551 _ ?side1 ?side2 ?side3 ?side4 ?side5 ?side6 A95.out).mono ?_); (case side1 => refine (Kd.V_reads' (e := 32) (base := w.heap.size) (ok := fun k_ => (((((P0_0_ k_ ∨ P0_1_ k_ ∨ P0_2_ k_) ∨ w.heap.size ≤ k_) ∧ (k_ ≠ gb508 ∧ k_ ≠ gb509)) ∧ k_ ≠ gb514) ∧ k_ ≠ gb515)) (n := x509000_2.length) (c := co40) ?_).2.2; exact (mV (by exact (Kd.V_mono (Kd.V_far (p := ⟨gb515, 2, none⟩) (Kd.V_far (p := ⟨gb515, 1, none⟩) (Kd.V_far (p := ⟨gb515, 0, none⟩) (Kd.V_mono HO_509000.out (fun k_ hk => (⟨hk, hk.2⟩ : _ ∧ k_ ≠ gb515))) (fun _ hk => hk.2) (.slice Ao40 x509000_2.length co40)) (fun _ hk => hk.2) (.slice Ao45 x509001_2.length co45)) (fun _ hk => hk.2) (.slice Ao46 x509002_2.length co46)) (fun _ h_ => h_.1))))); (case side2 => exact (Kd.V_reads' HO_509000.out).2.1); (case side3 => refine (Kd.V_reads' (e := 34) (base := w.heap.size) (ok := fun k_ => (((((P0_0_ k_ ∨ P0_1_ k_ ∨ P0_2_ k_) ∨ w.heap.size ≤ k_) ∧ (k_ ≠ gb508 ∧ k_ ≠ gb509)) ∧ k_ ≠ gb514) ∧ k_ ≠ gb515)) (n := x509001_2.length) (c := co45) ?_).2.2; exact (mV (by exact (Kd.V_mono (Kd.V_far (p := ⟨gb515, 2, none⟩) (Kd.V_far (p := ⟨gb515, 1, none⟩) (Kd.V_far (p := ⟨gb515, 0, none⟩) (Kd.V_mono HO_509001.out (fun k_ hk => (⟨hk, hk.2⟩ : _ ∧ k_ ≠ gb515))) (fun _ hk => hk.2) (.slice Ao40 x509000_2.length co40)) (fun _ hk => hk.2) (.slice Ao45 x509001_2.length co45)) (fun _ hk => hk.2) (.slice Ao46 x509002_2.length co46)) (fun _ h_ => h_.1))))); (case side4 => exact (Kd.V_reads' HO_509001.out).2.1); (case side5 => refine (Kd.V_reads' (e := 51) (base := w.heap.size) (ok := fun k_ => (((((P0_0_ k_ ∨ P0_1_ k_ ∨ P0_2_ k_) ∨ w.heap.size ≤ k_) ∧ (k_ ≠ gb508 ∧ k_ ≠ gb509)) ∧ k_ ≠ gb514) ∧ k_ ≠ gb515)) (n := x509002_2.length) (c := co46) ?_).2.2; exact (mV (by exact (Kd.V_mono (Kd.V_far (p := ⟨gb515, 2, none⟩) (Kd.V_far (p := ⟨gb515, 1, none⟩) (Kd.V_far (p := ⟨gb515, 0, none⟩) (Kd.V_mono HO_509002.out (fun k_ hk => (⟨hk, hk.2⟩ : _ ∧ k_ ≠ gb515))) (fun _ hk => hk.2) (.slice Ao40 x509000_2.length co40)) (fun _ hk => hk.2) (.slice Ao45 x509001_2.length co45)) (fun _ hk => hk.2) (.slice Ao46 x509002_2.length co46)) (fun _ h_ => h_.1))))); (case side6 => exact (Kd.V_reads' HO_509002.out).2.1); rintro e w103 ⟨v546, v549, v552, rfl, ho0, ho1, ho2, hb⟩; refine ⟨_, rfl, ?_⟩; replace HO_509000 := Aside0.mk (Kd.V_mono (Kd.V_told (Kd.V_told (Kd.V_told (Kd.V_old (mV (by exact (Kd.V_mono (Kd.V_far (p := ⟨gb515, 2, none⟩) (Kd.V_far (p := ⟨gb515, 1, none⟩) (Kd.V_far (p := ⟨gb515, 0, none⟩) (Kd.V_mono HO_509000.out (fun k_ hk => (⟨hk, hk.2⟩ : _ ∧ k_ ≠ gb515))) (fun _ hk => hk.2) (.slice Ao40 x509000_2.length co40)) (fun _ hk => hk.2) (.slice Ao45 x509001_2.length co45)) (fun _ hk => hk.2) (.slice Ao46 x509002_2.length co46)) (fun _ h_ => h_.1)))) hb) (Kd.R_base ho0)) (Kd.R_base ho1)) (Kd.R_base ho2)) (fun _ h_ => h_.1)); replace HO_509001 := Aside0.mk (Kd.V_mono (Kd.V_told (Kd.V_told (Kd.V_told (Kd.V_old (mV (by exact (Kd.V_mono (Kd.V_far (p := ⟨gb515, 2, none⟩) (Kd.V_far (p := ⟨gb515, 1, none⟩) (Kd.V_far (p := ⟨gb515, 0, none⟩) (Kd.V_mono HO_509001.out (fun k_ hk => (⟨hk, hk.2⟩ : _ ∧ k_ ≠ gb515))) (fun _ hk => hk.2) (.slice Ao40 x509000_2.length co40)) (fun _ hk => hk.2) (.slice Ao45 x509001_2.length co45)) (fun _ hk => hk.2) (.slice Ao46 x509002_2.length co46)) (fun _ h_ => h_.1)))) hb) (Kd.R_base ho0)) (Kd.R_base ho1)) (Kd.R_base ho2)) (fun _ h_ => h_.1)); replace HO_509002 := Aside0.mk (Kd.V_mono (Kd.V_told (Kd.V_told (Kd.V_told (Kd.V_old (mV (by exact (Kd.V_mono (Kd.V_far (p := ⟨gb515, 2, none⟩) (Kd.V_far (p := ⟨gb515, 1, none⟩) (Kd.V_far (p := ⟨gb515, 0, none⟩) (Kd.V_mono HO_509002.out (fun k_ hk => (⟨hk, hk.2⟩ : _ ∧ k_ ≠ gb515))) (fun _ hk => hk.2) (.slice Ao40 x509000_2.length co40)) (fun _ hk => hk.2) (.slice Ao45 x509001_2.length co45)) (fun _ hk => hk.2) (.slice Ao46 x509002_2.length co46)) (fun _ h_ => h_.1)))) hb) (Kd.R_base ho0)) (Kd.R_base ho1)) (Kd.R_base ho2)) (fun _ h_ => h_.1)); have HO547 := Aside0.mk (Kd.R_lower (Kd.R_newM (M := fun k_ => (w.heap.size ≤ k_)) ho0 (below_size (sW HB)) (fun k_ h_ => h_)) (below_size (sW HB))); have HO550 := Aside0.mk (Kd.R_lower (Kd.R_newM (M := fun k_ => (w.heap.size ≤ k_)) ho1 (below_size (sW HB)) (fun k_ h_ => h_)) (below_size (sW HB))); have HO553 := Aside0.mk (Kd.R_lower (Kd.R_newM (M := fun k_ => (w.heap.size ≤ k_)) ho2 (below_size (sW HB)) (fun k_ h_ => h_)) (below_size (sW HB))); replace BK508 := tB BK508 hb; replace BK509 := tB BK509 hb; replace BK514 := tB BK514 hb; replace BK515 := Aside0.mk (blk_below (g := gb515) (o := .cells #[.slice Ao40 x509000_2.length co40, .slice Ao45 x509001_2.length co45, .slice Ao46 x509002_2.length co46] 26 (0, 0)) (by (with_reducible repeat (first | refine blk_drewN ?_ _ | refine blk_drew ?_ | refine blk_alloc ?_ _)); refine blk_put (cs := #[.slice Ao40 x509000_2.length co40, .slice Ao45 x509001_2.length co45, .slice none 0 0]) ?_ 2 _ rfl; (with_reducible repeat (first | refine blk_drewN ?_ _ | refine blk_drew ?_ | refine blk_alloc ?_ _)); refine blk_put (cs := #[.slice Ao40 x509000_2.length co40, .slice none 0 0, .slice none 0 0]) ?_ 1 _ rfl; (with_reducible repeat (first | refine blk_drewN ?_ _ | refine blk_drew ?_ | refine blk_alloc ?_ _)); refine blk_put (cs := #[.slice none 0 0, .slice none 0 0, .slice none 0 0]) ?_ 0 _ rfl; (with_reducible repeat (first | refine blk_drewN ?_ _ | refine blk_drew ?_ | refine blk_alloc ?_ _)); exact BK515.out) hb); replace HB := tW HB hb; (try clear hb); (try clear hb2); (try clear hk); (try clear hi); (try clear ho0); (try clear ho1); (try clear ho2); obtain ⟨Ao104, co104, eo104⟩ := Kd.R_slice HO547.out; subst eo104; have hnb105 := NB515_509.out; have hnc105 := NB509_515.out; have hcz106_0 : w103.cell? ⟨gb515, 0, none⟩ = some (.slice Ao40 x509000_2.length co40) := bt BK515 0; have hcz106_1 : w103.cell? ⟨gb515, 1, none⟩ = some (.slice Ao45 x509001_2.length co45) := bt BK515 1; have hcz106_2 : w103.cell? ⟨gb515, 2, none⟩ = some (.slice Ao46 x509002_2.length co46) := bt BK515 2; have hfz106_0 := blk_frozen BK515.out 0; have hfz106_1 := blk_frozen BK515.out 1; have hfz106_2 := blk_frozen BK515.out 2; obtain ⟨Ao107, co107, eo107⟩ := Kd.R_slice HO550.out; subst eo107; obtain ⟨Ao108, co108, eo108⟩ := Kd.R_slice HO553.out; subst eo108))
         go_meet
         case rel => exact ⟨_, (0), (t545), (t548), (t551), (.slice Ao104 t545.length co104), (.slice Ao107 t548.length co107), (.slice Ao108 t551.length co108), aR, H', ⟨by have := HJ4.out; have := HK2.out; first | omega | exact Nat.le_refl _⟩, ⟨mV (by exact Kd.V_mono (Kd.V_far (p := ⟨gb515, 2, none⟩) (Kd.V_far (p := ⟨gb515, 1, none⟩) (Kd.V_far (p := ⟨gb515, 0, none⟩) (Kd.V_mono HO_509000.out (fun k_ hk => (⟨hk, hk.1.1.1.2⟩ : _ ∧ k_ ≠ gb515))) (fun _ hk => hk.2) (.slice Ao104 t545.length co104)) (fun _ hk => hk.2) (.slice Ao107 t548.length co107)) (fun _ hk => hk.2) (.slice Ao108 t551.length co108)) (fun _ hk => ⟨hk.1.1.1.1.1.1.1, ⟨hk.1.1.2, ⟨hk.1.2, ⟨hk.1.1.1.1.1.1.2.1, ⟨hk.1.1.1.1.1.1.2.2, ⟨hk.1.1.1.1.1.2, hk.1.1.1.1.2⟩⟩⟩⟩⟩⟩))⟩, ⟨mV (by exact Kd.V_mono (Kd.V_far (p := ⟨gb515, 2, none⟩) (Kd.V_far (p := ⟨gb515, 1, none⟩) (Kd.V_far (p := ⟨gb515, 0, none⟩) (Kd.V_mono HO_509001.out (fun k_ hk => (⟨hk, hk.1.1.1.2⟩ : _ ∧ k_ ≠ gb515))) (fun _ hk => hk.2) (.slice Ao104 t545.length co104)) (fun _ hk => hk.2) (.slice Ao107 t548.length co107)) (fun _ hk => hk.2) (.slice Ao108 t551.length co108)) (fun _ hk => ⟨hk.1.1.1.1.1.1.1, ⟨hk.1.1.1.2, ⟨hk.1.2, ⟨hk.1.1.1.1.1.1.2.1, ⟨hk.1.1.1.1.1.1.2.2, ⟨hk.1.1.1.1.1.2, hk.1.1.1.1.2⟩⟩⟩⟩⟩⟩))⟩, ⟨mV (by exact Kd.V_mono (Kd.V_far (p := ⟨gb515, 2, none⟩) (Kd.V_far (p := ⟨gb515, 1, none⟩) (Kd.V_far (p := ⟨gb515, 0, none⟩) (Kd.V_mono HO_509002.out (fun k_ hk => (⟨hk, hk.1.1.1.2⟩ : _ ∧ k_ ≠ gb515))) (fun _ hk => hk.2) (.slice Ao104 t545.length co104)) (fun _ hk => hk.2) (.slice Ao107 t548.length co107)) (fun _ hk => hk.2) (.slice Ao108 t551.length co108)) (fun _ hk => ⟨hk.1.1.1.1.1.1.1, ⟨hk.1.1.1.2, ⟨hk.1.1.2, ⟨hk.1.1.1.1.1.1.2.1, ⟨hk.1.1.1.1.1.1.2.2, ⟨hk.1.1.1.1.1.2, hk.1.1.1.1.2⟩⟩⟩⟩⟩⟩))⟩, ⟨mR (by exact Kd.R_mono (Kd.R_far (p := ⟨gb515, 2, none⟩) (Kd.R_far (p := ⟨gb515, 1, none⟩) (Kd.R_far (p := ⟨gb515, 0, none⟩) (Kd.R_types HO547.out BK515.out (by decide)) (fun _ hk => hk.2) (.slice Ao104 t545.length co104)) (fun _ hk => hk.2) (.slice Ao107 t548.length co107)) (fun _ hk => hk.2) (.slice Ao108 t551.length co108)) (fun _ hk => hk.1.1))⟩, ⟨mR (by exact Kd.R_mono (Kd.R_far (p := ⟨gb515, 2, none⟩) (Kd.R_far (p := ⟨gb515, 1, none⟩) (Kd.R_far (p := ⟨gb515, 0, none⟩) (Kd.R_types HO550.out BK515.out (by decide)) (fun _ hk => hk.2) (.slice Ao104 t545.length co104)) (fun _ hk => hk.2) (.slice Ao107 t548.length co107)) (fun _ hk => hk.2) (.slice Ao108 t551.length co108)) (fun _ hk => hk.1.1))⟩, ⟨mR (by exact Kd.R_mono (Kd.R_far (p := ⟨gb515, 2, none⟩) (Kd.R_far (p := ⟨gb515, 1, none⟩) (Kd.R_far (p := ⟨gb515, 0, none⟩) (Kd.R_types HO553.out BK515.out (by decide)) (fun _ hk => hk.2) (.slice Ao104 t545.length co104)) (fun _ hk => hk.2) (.slice Ao107 t548.length co107)) (fun _ hk => hk.2) (.slice Ao108 t551.length co108)) (fun _ hk => hk.1.1))⟩, ⟨sB BK508⟩, ⟨sB BK509⟩, ⟨sB BK514⟩, ⟨by (with_reducible repeat (first | refine blk_drewN ?_ _ | refine blk_drew ?_ | refine blk_alloc ?_ _)); refine blk_put (cs := #[.slice Ao104 t545.length co104, .slice Ao107 t548.length co107, .slice Ao46 x509002_2.length co46]) ?_ 2 _ rfl; (with_reducible repeat (first | refine blk_drewN ?_ _ | refine blk_drew ?_ | refine blk_alloc ?_ _)); refine blk_put (cs := #[.slice Ao104 t545.length co104, .slice Ao45 x509001_2.length co45, .slice Ao46 x509002_2.length co46]) ?_ 1 _ rfl; (with_reducible repeat (first | refine blk_drewN ?_ _ | refine blk_drew ?_ | refine blk_alloc ?_ _)); refine blk_put (cs := #[.slice Ao40 x509000_2.length co40, .slice Ao45 x509001_2.length co45, .slice Ao46 x509002_2.length co46]) ?_ 0 _ rfl; (with_reducible repeat (first | refine blk_drewN ?_ _ | refine blk_drew ?_ | refine blk_alloc ?_ _)); exact BK515.out⟩, ⟨sW HB⟩⟩
        case rest =>
         clear HC32
         try clear c1
         try clear c2
         try clear p2
         try clear c3
         try clear c4
         try clear c5
         try clear p5
         try clear q5
         try clear hx5
         try clear c6
         try clear c7
         try clear c8
         try clear c9
         try clear c10
         try clear c11
         try clear c12
         try clear c13
         try clear c14
         try clear c19
         try clear c21
         try clear c23
         try clear c25
         try clear c28
         try clear c29
         try clear c29b0
         try clear c30
         try clear c30b0
         try clear c31
         try clear c31b0
         try clear c34
         try clear c35
         try clear c37
         try clear c41
         try clear c42
         try clear c43
         try clear c48
         try clear c48b0
         try clear c48b1
         try clear c50
         try clear c51
         try clear p51
         try clear q51
         try clear hx51
         try clear c52
         try clear c54
         try clear c55
         try clear c57
         try clear c64
         try clear c64b0
         try clear c64b1
         try clear c66
         try clear c67
         try clear c68
         try clear c70
         try clear c71
         try clear c73
         try clear c80
         try clear c80b0
         try clear c80b1
         try clear c82
         try clear c83
         try clear c84
         try clear c86
         try clear c87
         try clear c91
         try clear c96
         try clear c97
         try clear c98
         try clear c100
         try clear c101
         try clear c105
         try clear hcz102_0 hcz102_1 hcz102_2 hcz102_3 hcz102_4 hfz102_0 hfz102_1 hfz102_2 hfz102_3 hfz102_4
         try clear hcz106_0 hcz106_1 hcz106_2 hfz106_0 hfz106_1 hfz106_2
         try clear hcz14_0 hcz14_1 hcz14_2 hfz14_0 hfz14_1 hfz14_2
         try clear hcz16_0 hcz16_1 hcz16_2 hfz16_0 hfz16_1 hfz16_2
         try clear hcz17_0 hcz17_1 hfz17_0 hfz17_1
         try clear hcz20_0 hcz20_1 hcz20_2 hfz20_0 hfz20_1 hfz20_2
         try clear hcz22_0 hcz22_1 hcz22_2 hfz22_0 hfz22_1 hfz22_2
         try clear hcz23_0 hcz23_1 hfz23_0 hfz23_1
         try clear hcz26_0 hcz26_1 hcz26_2 hfz26_0 hfz26_1 hfz26_2
         try clear hcz36_0 hcz36_1 hcz36_2 hcz36_3 hcz36_4 hfz36_0 hfz36_1 hfz36_2 hfz36_3 hfz36_4
         try clear hcz38_0 hcz38_1 hcz38_2 hfz38_0 hfz38_1 hfz38_2
         try clear hcz44_0 hcz44_1 hcz44_2 hfz44_0 hfz44_1 hfz44_2
         try clear hcz47_0 hcz47_1 hcz47_2 hcz47_3 hcz47_4 hfz47_0 hfz47_1 hfz47_2 hfz47_3 hfz47_4
         try clear hcz53_0 hcz53_1 hcz53_2 hfz53_0 hfz53_1 hfz53_2
         try clear hcz56_0 hcz56_1 hfz56_0 hfz56_1
         try clear hcz58_0 hcz58_1 hcz58_2 hcz58_3 hcz58_4 hfz58_0 hfz58_1 hfz58_2 hfz58_3 hfz58_4
         try clear hcz61_0 hcz61_1 hcz61_2 hfz61_0 hfz61_1 hfz61_2
         try clear hcz69_0 hcz69_1 hcz69_2 hfz69_0 hfz69_1 hfz69_2
         try clear hcz72_0 hcz72_1 hfz72_0 hfz72_1
         try clear hcz74_0 hcz74_1 hcz74_2 hcz74_3 hcz74_4 hfz74_0 hfz74_1 hfz74_2 hfz74_3 hfz74_4
         try clear hcz77_0 hcz77_1 hcz77_2 hfz77_0 hfz77_1 hfz77_2
         try clear hcz85_0 hcz85_1 hcz85_2 hfz85_0 hfz85_1 hfz85_2
         try clear hcz88_0 hcz88_1 hcz88_2 hcz88_3 hcz88_4 hfz88_0 hfz88_1 hfz88_2 hfz88_3 hfz88_4
         try clear hcz92_0 hcz92_1 hcz92_2 hfz92_0 hfz92_1 hfz92_2
         try clear hcz99_0 hcz99_1 hcz99_2 hfz99_0 hfz99_1 hfz99_2
         try clear hx513_0
         try clear hx513_1
         try clear hx513_2
         try clear hx513_3
         try clear hx513_4
         try clear p2
         try clear p513
         try clear q513
         obtain ⟨kq, x11_31, x516000_31, x516001_31, x516002_31, u516000, u516001, u516002, rfl, HA, HJ31, HO_509000, HO_509001, HO_509002, HO_516000, HO_516001, HO_516002, BK508, BK509, BK514, BK515, HB⟩ := hcut
         cases kq with
         | zero => exact absurd HA.out (by simp [slotmeshlaw12_CellsOnce.j2])
         | succ kj31 =>
          have H := HA.out
          clear HA
          simp only [slotmeshlaw12_CellsOnce.j2] at H
          have HC109 := Aside0.mk H
          clear H
          go_upto_if 87 with (fail)
          go_cut [] (fun wc => ∃ (kq : Nat) (x509000_108 : List (S32)) (x509001_108 : List (S34)) (x509002_108 : List (S51)) (u509000 : Value) (u509001 : Value) (u509002 : Value), Aside0 (slotmeshlaw12_CellsOnce.j3 kq t510 l2 (l2.length : Int) x36_2 x509000_108 x509001_108 x509002_108 a1_0 a1_1 = some r) ∧ Aside0 (kq ≤ kj31) ∧ Aside0 (Kd.V k32 32 wc w.heap.size (fun k_ => ((P0_0_ k_ ∨ P0_1_ k_ ∨ P0_2_ k_) ∨ w.heap.size ≤ k_) ∧ some k_ ≠ (u516001 : Value).ownBlock ∧ some k_ ≠ (u516002 : Value).ownBlock ∧ k_ ≠ gb508 ∧ k_ ≠ gb509 ∧ k_ ≠ gb514 ∧ k_ ≠ gb515) u509000 x509000_108) ∧ Aside0 (Kd.V k34 34 wc w.heap.size (fun k_ => ((P0_0_ k_ ∨ P0_1_ k_ ∨ P0_2_ k_) ∨ w.heap.size ≤ k_) ∧ some k_ ≠ (u516000 : Value).ownBlock ∧ some k_ ≠ (u516002 : Value).ownBlock ∧ k_ ≠ gb508 ∧ k_ ≠ gb509 ∧ k_ ≠ gb514 ∧ k_ ≠ gb515) u509001 x509001_108) ∧ Aside0 (Kd.V k51 51 wc w.heap.size (fun k_ => ((P0_0_ k_ ∨ P0_1_ k_ ∨ P0_2_ k_) ∨ w.heap.size ≤ k_) ∧ some k_ ≠ (u516000 : Value).ownBlock ∧ some k_ ≠ (u516001 : Value).ownBlock ∧ k_ ≠ gb508 ∧ k_ ≠ gb509 ∧ k_ ≠ gb514 ∧ k_ ≠ gb515) u509002 x509002_108) ∧ Aside0 (Kd.R k32 32 wc w.heap.size (fun k_ => (w.heap.size ≤ k_)) u516000 x516000_31) ∧ Aside0 (Kd.R k34 34 wc w.heap.size (fun k_ => (w.heap.size ≤ k_)) u516001 x516001_31) ∧ Aside0 (Kd.R k51 51 wc w.heap.size (fun k_ => (w.heap.size ≤ k_)) u516002 x516002_31) ∧ Aside0 (wc.heap[gb508]? = some (.cells #[u509000, u509001, u509002] 26 (0, 0))) ∧ Aside0 (wc.heap[gb509]? = some (.cells #[.int .i64 a1_0, .int .i64 a1_1] 28 (0, 0))) ∧ Aside0 (wc.heap[gb514]? = some (.cells #[.int .u8 ((rd_T55 l2 x36_2).f0), .int .i64 ((rd_T55 l2 x36_2).f1.f0), .int .i64 ((rd_T55 l2 x36_2).f1.f1), .int .i64 ((rd_T55 l2 x36_2).f2), .int .i64 ((rd_T55 l2 x36_2).f3)] 55 (0, 0))) ∧ Aside0 (wc.heap[gb515]? = some (.cells #[u516000, u516001, u516002] 26 (0, 0))) ∧ Aside0 (Below w.heap.size w wc))
          case first =>
           have H := HC109.out
           clear HC109
           by_cases c110 : x11_31 = 0
           ·rw [if_pos c110] at H
            have c110b0 : (x11_31 == 0) = true := beq_iff_eq.mpr c110
            have c110b1 : (x11_31 != 0) = false := bne_eq_false_iff_eq.mpr c110
            clear c110
            (first | rw [c110b0] | (simp only [i64_w, i32_w]; rw [c110b0]) | skip)
            have H' := Aside0.mk H
            clear H
            have hnb111 := NB515_508.out
            have hnc111 := NB508_515.out
            have hnb112 := NB515_509.out
            have hnc112 := NB509_515.out
            have hnb113 := NB515_514.out
            have hnc113 := NB514_515.out
            have hcz114_0 : wc.cell? ⟨gb515, 0, none⟩ = some (u516000) := bt BK515 0
            have hcz114_1 : wc.cell? ⟨gb515, 1, none⟩ = some (u516001) := bt BK515 1
            have hcz114_2 : wc.cell? ⟨gb515, 2, none⟩ = some (u516002) := bt BK515 2
            have hfz114_0 := blk_frozen BK515.out 0
            have hfz114_1 := blk_frozen BK515.out 1
            have hfz114_2 := blk_frozen BK515.out 2
            obtain ⟨Ao115, co115, eo115⟩ := Kd.R_slice HO_516000.out
            subst eo115
            have hnb116 := NB508_509.out
            have hnc116 := NB509_508.out
            have hnb117 := NB508_514.out
            have hnc117 := NB514_508.out
            have hcz118_0 : wc.cell? ⟨gb508, 0, none⟩ = some (.slice Ao40 x509000_2.length co40) := bt BK508 0
            have hcz118_1 : wc.cell? ⟨gb508, 1, none⟩ = some (.slice Ao45 x509001_2.length co45) := bt BK508 1
            have hcz118_2 : wc.cell? ⟨gb508, 2, none⟩ = some (.slice Ao46 x509002_2.length co46) := bt BK508 2
            have hfz118_0 := blk_frozen BK508.out 0
            have hfz118_1 := blk_frozen BK508.out 1
            have hfz118_2 := blk_frozen BK508.out 2
            obtain ⟨Ao119, co119, eo119⟩ := Kd.R_slice HO_516001.out
            subst eo119
            obtain ⟨Ao120, co120, eo120⟩ := Kd.R_slice HO_516002.out
            subst eo120
            go_wp2
            go_meet
            case rel => exact ⟨_, (x516000_31), (x516001_31), (x516002_31), (.slice Ao115 x516000_31.length co115), (.slice Ao119 x516001_31.length co119), (.slice Ao120 x516002_31.length co120), H', ⟨by have := HJ4.out; have := HK2.out; have := HJ31.out; first | omega | exact Nat.le_refl _⟩, ⟨Kd.V_mono (Kd.R_V (ok := (fun k_ => (w.heap.size ≤ k_) ∧ some k_ ≠ (.slice Ao119 x516001_31.length co119 : Value).ownBlock ∧ some k_ ≠ (.slice Ao120 x516002_31.length co120 : Value).ownBlock ∧ k_ ≠ gb508 ∧ k_ ≠ gb509 ∧ k_ ≠ gb514 ∧ k_ ≠ gb515)) (mR (by exact Kd.R_mono (Kd.R_far (p := ⟨gb508, 2, none⟩) (Kd.R_far (p := ⟨gb508, 1, none⟩) (Kd.R_far (p := ⟨gb508, 0, none⟩) (Kd.R_types (Kd.R_types (Kd.R_types (Kd.R_types (Kd.R_types (Kd.R_apart' (Kd.R_apart' HO_516000.out (Kd.R_typed HO_516001.out) (by decide)) (Kd.R_typed HO_516002.out) (by decide)) BK508.out (by decide)) BK509.out (by decide)) BK514.out (by decide)) BK515.out (by decide)) BK508.out (by decide)) (fun _ hk => hk.2) (.slice Ao115 x516000_31.length co115)) (fun _ hk => hk.2) (.slice Ao119 x516001_31.length co119)) (fun _ hk => hk.2) (.slice Ao120 x516002_31.length co120)) (fun _ hk => ⟨hk.1.1.1.1.1.1.1, ⟨hk.1.1.1.1.1.1.2, ⟨hk.1.1.1.1.1.2, ⟨hk.1.1.1.1.2, ⟨hk.1.1.1.2, ⟨hk.1.1.2, hk.1.2⟩⟩⟩⟩⟩⟩)))) (fun k_ hk => by first | exact ⟨(.inr (hk.1)), hk.2⟩ | exact (.inr (hk)))⟩, ⟨Kd.V_mono (Kd.R_V (ok := (fun k_ => (w.heap.size ≤ k_) ∧ some k_ ≠ (.slice Ao115 x516000_31.length co115 : Value).ownBlock ∧ some k_ ≠ (.slice Ao120 x516002_31.length co120 : Value).ownBlock ∧ k_ ≠ gb508 ∧ k_ ≠ gb509 ∧ k_ ≠ gb514 ∧ k_ ≠ gb515)) (mR (by exact Kd.R_mono (Kd.R_far (p := ⟨gb508, 2, none⟩) (Kd.R_far (p := ⟨gb508, 1, none⟩) (Kd.R_far (p := ⟨gb508, 0, none⟩) (Kd.R_types (Kd.R_types (Kd.R_types (Kd.R_types (Kd.R_types (Kd.R_apart' (Kd.R_apart' HO_516001.out (Kd.R_typed HO_516000.out) (by decide)) (Kd.R_typed HO_516002.out) (by decide)) BK508.out (by decide)) BK509.out (by decide)) BK514.out (by decide)) BK515.out (by decide)) BK508.out (by decide)) (fun _ hk => hk.2) (.slice Ao115 x516000_31.length co115)) (fun _ hk => hk.2) (.slice Ao119 x516001_31.length co119)) (fun _ hk => hk.2) (.slice Ao120 x516002_31.length co120)) (fun _ hk => ⟨hk.1.1.1.1.1.1.1, ⟨hk.1.1.1.1.1.1.2, ⟨hk.1.1.1.1.1.2, ⟨hk.1.1.1.1.2, ⟨hk.1.1.1.2, ⟨hk.1.1.2, hk.1.2⟩⟩⟩⟩⟩⟩)))) (fun k_ hk => by first | exact ⟨(.inr (hk.1)), hk.2⟩ | exact (.inr (hk)))⟩, ⟨Kd.V_mono (Kd.R_V (ok := (fun k_ => (w.heap.size ≤ k_) ∧ some k_ ≠ (.slice Ao115 x516000_31.length co115 : Value).ownBlock ∧ some k_ ≠ (.slice Ao119 x516001_31.length co119 : Value).ownBlock ∧ k_ ≠ gb508 ∧ k_ ≠ gb509 ∧ k_ ≠ gb514 ∧ k_ ≠ gb515)) (mR (by exact Kd.R_mono (Kd.R_far (p := ⟨gb508, 2, none⟩) (Kd.R_far (p := ⟨gb508, 1, none⟩) (Kd.R_far (p := ⟨gb508, 0, none⟩) (Kd.R_types (Kd.R_types (Kd.R_types (Kd.R_types (Kd.R_types (Kd.R_apart' (Kd.R_apart' HO_516002.out (Kd.R_typed HO_516000.out) (by decide)) (Kd.R_typed HO_516001.out) (by decide)) BK508.out (by decide)) BK509.out (by decide)) BK514.out (by decide)) BK515.out (by decide)) BK508.out (by decide)) (fun _ hk => hk.2) (.slice Ao115 x516000_31.length co115)) (fun _ hk => hk.2) (.slice Ao119 x516001_31.length co119)) (fun _ hk => hk.2) (.slice Ao120 x516002_31.length co120)) (fun _ hk => ⟨hk.1.1.1.1.1.1.1, ⟨hk.1.1.1.1.1.1.2, ⟨hk.1.1.1.1.1.2, ⟨hk.1.1.1.1.2, ⟨hk.1.1.1.2, ⟨hk.1.1.2, hk.1.2⟩⟩⟩⟩⟩⟩)))) (fun k_ hk => by first | exact ⟨(.inr (hk.1)), hk.2⟩ | exact (.inr (hk)))⟩, ⟨mR (by exact Kd.R_mono (Kd.R_far (p := ⟨gb508, 2, none⟩) (Kd.R_far (p := ⟨gb508, 1, none⟩) (Kd.R_far (p := ⟨gb508, 0, none⟩) (Kd.R_types HO_516000.out BK508.out (by decide)) (fun _ hk => hk.2) (.slice Ao115 x516000_31.length co115)) (fun _ hk => hk.2) (.slice Ao119 x516001_31.length co119)) (fun _ hk => hk.2) (.slice Ao120 x516002_31.length co120)) (fun _ hk => hk.1))⟩, ⟨mR (by exact Kd.R_mono (Kd.R_far (p := ⟨gb508, 2, none⟩) (Kd.R_far (p := ⟨gb508, 1, none⟩) (Kd.R_far (p := ⟨gb508, 0, none⟩) (Kd.R_types HO_516001.out BK508.out (by decide)) (fun _ hk => hk.2) (.slice Ao115 x516000_31.length co115)) (fun _ hk => hk.2) (.slice Ao119 x516001_31.length co119)) (fun _ hk => hk.2) (.slice Ao120 x516002_31.length co120)) (fun _ hk => hk.1))⟩, ⟨mR (by exact Kd.R_mono (Kd.R_far (p := ⟨gb508, 2, none⟩) (Kd.R_far (p := ⟨gb508, 1, none⟩) (Kd.R_far (p := ⟨gb508, 0, none⟩) (Kd.R_types HO_516002.out BK508.out (by decide)) (fun _ hk => hk.2) (.slice Ao115 x516000_31.length co115)) (fun _ hk => hk.2) (.slice Ao119 x516001_31.length co119)) (fun _ hk => hk.2) (.slice Ao120 x516002_31.length co120)) (fun _ hk => hk.1))⟩, ⟨by (with_reducible repeat (first | refine blk_drewN ?_ _ | refine blk_drew ?_ | refine blk_alloc ?_ _)); refine blk_put (cs := #[.slice Ao115 x516000_31.length co115, .slice Ao119 x516001_31.length co119, .slice Ao46 x509002_2.length co46]) ?_ 2 _ rfl; (with_reducible repeat (first | refine blk_drewN ?_ _ | refine blk_drew ?_ | refine blk_alloc ?_ _)); refine blk_put (cs := #[.slice Ao115 x516000_31.length co115, .slice Ao45 x509001_2.length co45, .slice Ao46 x509002_2.length co46]) ?_ 1 _ rfl; (with_reducible repeat (first | refine blk_drewN ?_ _ | refine blk_drew ?_ | refine blk_alloc ?_ _)); refine blk_put (cs := #[.slice Ao40 x509000_2.length co40, .slice Ao45 x509001_2.length co45, .slice Ao46 x509002_2.length co46]) ?_ 0 _ rfl; (with_reducible repeat (first | refine blk_drewN ?_ _ | refine blk_drew ?_ | refine blk_alloc ?_ _)); exact BK508.out⟩, ⟨sB BK509⟩, ⟨sB BK514⟩, ⟨sB BK515⟩, ⟨sW HB⟩⟩
           rw [if_neg c110] at H
           have c110b0 : (x11_31 == 0) = false := beq_eq_false_iff_ne.mpr c110
           have c110b1 : (x11_31 != 0) = true := bne_iff_ne.mpr c110
           (first | rw [c110b0] | (simp only [i64_w, i32_w]; rw [c110b0]) | skip)
           have H' := Aside0.mk H
           clear H
           go_wp2
           go_meet
           case rel => exact ⟨_, (x509000_2), (x509001_2), (x509002_2), (.slice Ao40 x509000_2.length co40), (.slice Ao45 x509001_2.length co45), (.slice Ao46 x509002_2.length co46), H', ⟨by have := HJ4.out; have := HK2.out; have := HJ31.out; first | omega | exact Nat.le_refl _⟩, ⟨sV HO_509000⟩, ⟨sV HO_509001⟩, ⟨sV HO_509002⟩, ⟨sR HO_516000⟩, ⟨sR HO_516001⟩, ⟨sR HO_516002⟩, ⟨sB BK508⟩, ⟨sB BK509⟩, ⟨sB BK514⟩, ⟨sB BK515⟩, ⟨sW HB⟩⟩
          case rest =>
           clear HC109
           try clear c1
           try clear c2
           try clear p2
           try clear c3
           try clear c4
           try clear c5
           try clear p5
           try clear q5
           try clear hx5
           try clear c6
           try clear c7
           try clear c8
           try clear c9
           try clear c10
           try clear c11
           try clear c12
           try clear c13
           try clear c14
           try clear c19
           try clear c21
           try clear c23
           try clear c25
           try clear c28
           try clear c29
           try clear c29b0
           try clear c30
           try clear c30b0
           try clear c31
           try clear c31b0
           try clear c34
           try clear c35
           try clear c37
           try clear c41
           try clear c42
           try clear c43
           try clear c48
           try clear c48b0
           try clear c48b1
           try clear c50
           try clear c51
           try clear p51
           try clear q51
           try clear hx51
           try clear c52
           try clear c54
           try clear c55
           try clear c57
           try clear c64
           try clear c64b0
           try clear c64b1
           try clear c66
           try clear c67
           try clear c68
           try clear c70
           try clear c71
           try clear c73
           try clear c80
           try clear c80b0
           try clear c80b1
           try clear c82
           try clear c83
           try clear c84
           try clear c86
           try clear c87
           try clear c91
           try clear c96
           try clear c97
           try clear c98
           try clear c100
           try clear c101
           try clear c105
           try clear c110
           try clear c110b0
           try clear c110b1
           try clear c111
           try clear c112
           try clear c113
           try clear c116
           try clear c117
           try clear hcz102_0 hcz102_1 hcz102_2 hcz102_3 hcz102_4 hfz102_0 hfz102_1 hfz102_2 hfz102_3 hfz102_4
           try clear hcz106_0 hcz106_1 hcz106_2 hfz106_0 hfz106_1 hfz106_2
           try clear hcz114_0 hcz114_1 hcz114_2 hfz114_0 hfz114_1 hfz114_2
           try clear hcz118_0 hcz118_1 hcz118_2 hfz118_0 hfz118_1 hfz118_2
           try clear hcz14_0 hcz14_1 hcz14_2 hfz14_0 hfz14_1 hfz14_2
           try clear hcz16_0 hcz16_1 hcz16_2 hfz16_0 hfz16_1 hfz16_2
           try clear hcz17_0 hcz17_1 hfz17_0 hfz17_1
           try clear hcz20_0 hcz20_1 hcz20_2 hfz20_0 hfz20_1 hfz20_2
           try clear hcz22_0 hcz22_1 hcz22_2 hfz22_0 hfz22_1 hfz22_2
           try clear hcz23_0 hcz23_1 hfz23_0 hfz23_1
           try clear hcz26_0 hcz26_1 hcz26_2 hfz26_0 hfz26_1 hfz26_2
           try clear hcz36_0 hcz36_1 hcz36_2 hcz36_3 hcz36_4 hfz36_0 hfz36_1 hfz36_2 hfz36_3 hfz36_4
           try clear hcz38_0 hcz38_1 hcz38_2 hfz38_0 hfz38_1 hfz38_2
           try clear hcz44_0 hcz44_1 hcz44_2 hfz44_0 hfz44_1 hfz44_2
           try clear hcz47_0 hcz47_1 hcz47_2 hcz47_3 hcz47_4 hfz47_0 hfz47_1 hfz47_2 hfz47_3 hfz47_4
           try clear hcz53_0 hcz53_1 hcz53_2 hfz53_0 hfz53_1 hfz53_2
           try clear hcz56_0 hcz56_1 hfz56_0 hfz56_1
           try clear hcz58_0 hcz58_1 hcz58_2 hcz58_3 hcz58_4 hfz58_0 hfz58_1 hfz58_2 hfz58_3 hfz58_4
           try clear hcz61_0 hcz61_1 hcz61_2 hfz61_0 hfz61_1 hfz61_2
           try clear hcz69_0 hcz69_1 hcz69_2 hfz69_0 hfz69_1 hfz69_2
           try clear hcz72_0 hcz72_1 hfz72_0 hfz72_1
           try clear hcz74_0 hcz74_1 hcz74_2 hcz74_3 hcz74_4 hfz74_0 hfz74_1 hfz74_2 hfz74_3 hfz74_4
           try clear hcz77_0 hcz77_1 hcz77_2 hfz77_0 hfz77_1 hfz77_2
           try clear hcz85_0 hcz85_1 hcz85_2 hfz85_0 hfz85_1 hfz85_2
           try clear hcz88_0 hcz88_1 hcz88_2 hcz88_3 hcz88_4 hfz88_0 hfz88_1 hfz88_2 hfz88_3 hfz88_4
           try clear hcz92_0 hcz92_1 hcz92_2 hfz92_0 hfz92_1 hfz92_2
           try clear hcz99_0 hcz99_1 hcz99_2 hfz99_0 hfz99_1 hfz99_2
           try clear hx513_0
           try clear hx513_1
           try clear hx513_2
           try clear hx513_3
           try clear hx513_4
           try clear p2
           try clear p5
           try clear p51
           try clear p513
           try clear q5
           try clear q51
           try clear q513
           obtain ⟨kq, x509000_108, x509001_108, x509002_108, u509000, u509001, u509002, HA, HJ108, HO_509000, HO_509001, HO_509002, HO_516000, HO_516001, HO_516002, BK508, BK509, BK514, BK515, HB⟩ := hcut
           cases kq with
           | zero => exact absurd HA.out (by simp [slotmeshlaw12_CellsOnce.j3])
           | succ kj108 =>
            have H := HA.out
            clear HA
            simp only [slotmeshlaw12_CellsOnce.j3] at H
            have H' := Aside0.mk H
            clear H
            have hnb121 := NB509_508.out
            have hnc121 := NB508_509.out
            have hnb122 := NB509_514.out
            have hnc122 := NB514_509.out
            have hnb123 := NB509_515.out
            have hnc123 := NB515_509.out
            have hcz124_0 : wc.cell? ⟨gb509, 0, none⟩ = some (.int .i64 a1_0) := bt BK509 0
            have hcz124_1 : wc.cell? ⟨gb509, 1, none⟩ = some (.int .i64 a1_1) := bt BK509 1
            have hfz124_0 := blk_frozen BK509.out 0
            have hfz124_1 := blk_frozen BK509.out 1
            go_wp2
            go_loopg [91] kj108 (fun kq v91 w' => ∃ (x91_5 : Int), v91 = .int .i64 x91_5 ∧ Aside0 (slotmeshlaw12_CellsOnce.l1 kq t510 l2 (l2.length : Int) x36_2 a1_1 x91_5 x509000_108 x509001_108 x509002_108 a1_0 a1_1 = some r) ∧ Aside0 (kq ≤ kj108) ∧ Aside0 (Kd.V k32 32 w' w.heap.size (fun k_ => ((P0_0_ k_ ∨ P0_1_ k_ ∨ P0_2_ k_) ∨ w.heap.size ≤ k_) ∧ some k_ ≠ (u516001 : Value).ownBlock ∧ some k_ ≠ (u516002 : Value).ownBlock ∧ k_ ≠ gb508 ∧ k_ ≠ gb509 ∧ k_ ≠ gb514 ∧ k_ ≠ gb515) u509000 x509000_108) ∧ Aside0 (Kd.V k34 34 w' w.heap.size (fun k_ => ((P0_0_ k_ ∨ P0_1_ k_ ∨ P0_2_ k_) ∨ w.heap.size ≤ k_) ∧ some k_ ≠ (u516000 : Value).ownBlock ∧ some k_ ≠ (u516002 : Value).ownBlock ∧ k_ ≠ gb508 ∧ k_ ≠ gb509 ∧ k_ ≠ gb514 ∧ k_ ≠ gb515) u509001 x509001_108) ∧ Aside0 (Kd.V k51 51 w' w.heap.size (fun k_ => ((P0_0_ k_ ∨ P0_1_ k_ ∨ P0_2_ k_) ∨ w.heap.size ≤ k_) ∧ some k_ ≠ (u516000 : Value).ownBlock ∧ some k_ ≠ (u516001 : Value).ownBlock ∧ k_ ≠ gb508 ∧ k_ ≠ gb509 ∧ k_ ≠ gb514 ∧ k_ ≠ gb515) u509002 x509002_108) ∧ Aside0 (Kd.R k32 32 w' w.heap.size (fun k_ => (w.heap.size ≤ k_)) u516000 x516000_31) ∧ Aside0 (Kd.R k34 34 w' w.heap.size (fun k_ => (w.heap.size ≤ k_)) u516001 x516001_31) ∧ Aside0 (Kd.R k51 51 w' w.heap.size (fun k_ => (w.heap.size ≤ k_)) u516002 x516002_31) ∧ Aside0 (w'.heap[gb508]? = some (.cells #[u509000, u509001, u509002] 26 (0, 0))) ∧ Aside0 (w'.heap[gb509]? = some (.cells #[.int .i64 a1_0, .int .i64 a1_1] 28 (0, 0))) ∧ Aside0 (w'.heap[gb514]? = some (.cells #[.int .u8 ((rd_T55 l2 x36_2).f0), .int .i64 ((rd_T55 l2 x36_2).f1.f0), .int .i64 ((rd_T55 l2 x36_2).f1.f1), .int .i64 ((rd_T55 l2 x36_2).f2), .int .i64 ((rd_T55 l2 x36_2).f3)] 55 (0, 0))) ∧ Aside0 (w'.heap[gb515]? = some (.cells #[u516000, u516001, u516002] 26 (0, 0))) ∧ Aside0 (Below w.heap.size w w'))
            case atStart => exact ⟨(0), aR, H', ⟨Nat.le_refl _⟩, ⟨sV HO_509000⟩, ⟨sV HO_509001⟩, ⟨sV HO_509002⟩, ⟨sR HO_516000⟩, ⟨sR HO_516001⟩, ⟨sR HO_516002⟩, ⟨sB BK508⟩, ⟨sB BK509⟩, ⟨sB BK514⟩, ⟨sB BK515⟩, ⟨sW HB⟩⟩
            case round =>
             clear H'
             try clear c1
             try clear c2
             try clear p2
             try clear c3
             try clear c4
             try clear c5
             try clear p5
             try clear q5
             try clear hx5
             try clear c6
             try clear c7
             try clear c8
             try clear c9
             try clear c10
             try clear c11
             try clear c12
             try clear c13
             try clear c14
             try clear c19
             try clear c21
             try clear c23
             try clear c25
             try clear c28
             try clear c29
             try clear c29b0
             try clear c30
             try clear c30b0
             try clear c31
             try clear c31b0
             try clear c34
             try clear c35
             try clear c37
             try clear c41
             try clear c42
             try clear c43
             try clear c48
             try clear c48b0
             try clear c48b1
             try clear c50
             try clear c51
             try clear p51
             try clear q51
             try clear hx51
             try clear c52
             try clear c54
             try clear c55
             try clear c57
             try clear c64
             try clear c64b0
             try clear c64b1
             try clear c66
             try clear c67
             try clear c68
             try clear c70
             try clear c71
             try clear c73
             try clear c80
             try clear c80b0
             try clear c80b1
             try clear c82
             try clear c83
             try clear c84
             try clear c86
             try clear c87
             try clear c91
             try clear c96
             try clear c97
             try clear c98
             try clear c100
             try clear c101
             try clear c105
             try clear c110
             try clear c110b0
             try clear c110b1
             try clear c111
             try clear c112
             try clear c113
             try clear c116
             try clear c117
             try clear c121
             try clear c122
             try clear c123
             try clear hcz102_0 hcz102_1 hcz102_2 hcz102_3 hcz102_4 hfz102_0 hfz102_1 hfz102_2 hfz102_3 hfz102_4
             try clear hcz106_0 hcz106_1 hcz106_2 hfz106_0 hfz106_1 hfz106_2
             try clear hcz114_0 hcz114_1 hcz114_2 hfz114_0 hfz114_1 hfz114_2
             try clear hcz118_0 hcz118_1 hcz118_2 hfz118_0 hfz118_1 hfz118_2
             try clear hcz124_0 hcz124_1 hfz124_0 hfz124_1
             try clear hcz14_0 hcz14_1 hcz14_2 hfz14_0 hfz14_1 hfz14_2
             try clear hcz16_0 hcz16_1 hcz16_2 hfz16_0 hfz16_1 hfz16_2
             try clear hcz17_0 hcz17_1 hfz17_0 hfz17_1
             try clear hcz20_0 hcz20_1 hcz20_2 hfz20_0 hfz20_1 hfz20_2
             try clear hcz22_0 hcz22_1 hcz22_2 hfz22_0 hfz22_1 hfz22_2
             try clear hcz23_0 hcz23_1 hfz23_0 hfz23_1
             try clear hcz26_0 hcz26_1 hcz26_2 hfz26_0 hfz26_1 hfz26_2
             try clear hcz36_0 hcz36_1 hcz36_2 hcz36_3 hcz36_4 hfz36_0 hfz36_1 hfz36_2 hfz36_3 hfz36_4
             try clear hcz38_0 hcz38_1 hcz38_2 hfz38_0 hfz38_1 hfz38_2
             try clear hcz44_0 hcz44_1 hcz44_2 hfz44_0 hfz44_1 hfz44_2
             try clear hcz47_0 hcz47_1 hcz47_2 hcz47_3 hcz47_4 hfz47_0 hfz47_1 hfz47_2 hfz47_3 hfz47_4
             try clear hcz53_0 hcz53_1 hcz53_2 hfz53_0 hfz53_1 hfz53_2
             try clear hcz56_0 hcz56_1 hfz56_0 hfz56_1
             try clear hcz58_0 hcz58_1 hcz58_2 hcz58_3 hcz58_4 hfz58_0 hfz58_1 hfz58_2 hfz58_3 hfz58_4
             try clear hcz61_0 hcz61_1 hcz61_2 hfz61_0 hfz61_1 hfz61_2
             try clear hcz69_0 hcz69_1 hcz69_2 hfz69_0 hfz69_1 hfz69_2
             try clear hcz72_0 hcz72_1 hfz72_0 hfz72_1
             try clear hcz74_0 hcz74_1 hcz74_2 hcz74_3 hcz74_4 hfz74_0 hfz74_1 hfz74_2 hfz74_3 hfz74_4
             try clear hcz77_0 hcz77_1 hcz77_2 hfz77_0 hfz77_1 hfz77_2
             try clear hcz85_0 hcz85_1 hcz85_2 hfz85_0 hfz85_1 hfz85_2
             try clear hcz88_0 hcz88_1 hcz88_2 hcz88_3 hcz88_4 hfz88_0 hfz88_1 hfz88_2 hfz88_3 hfz88_4
             try clear hcz92_0 hcz92_1 hcz92_2 hfz92_0 hfz92_1 hfz92_2
             try clear hcz99_0 hcz99_1 hcz99_2 hfz99_0 hfz99_1 hfz99_2
             try clear hx513_0
             try clear hx513_1
             try clear hx513_2
             try clear hx513_3
             try clear hx513_4
             try clear p2
             try clear p5
             try clear p51
             try clear p513
             try clear q5
             try clear q51
             try clear q513
             obtain ⟨x91_5, rfl, HA, HK5, HO_509000, HO_509001, HO_509002, HO_516000, HO_516001, HO_516002, BK508, BK509, BK514, BK515, HB⟩ := hrel
             cases gk with
             | zero => exact absurd HA.out (by simp [slotmeshlaw12_CellsOnce.l1])
             | succ k5 =>
              have H := HA.out
              clear HA
              simp only [slotmeshlaw12_CellsOnce.l1] at H
              by_cases c125 : x91_5 < a1_1
              ·rw [if_pos c125] at H
               have c125b0 : decide (x91_5 < a1_1) = true := decide_eq_true c125
               clear c125
               have H' := Aside0.mk H
               clear H
               have hnb126 := NB508_509.out
               have hnc126 := NB509_508.out
               have hnb127 := NB508_514.out
               have hnc127 := NB514_508.out
               have hnb128 := NB508_515.out
               have hnc128 := NB515_508.out
               have hcz129_0 : wr.cell? ⟨gb508, 0, none⟩ = some (u509000) := bt BK508 0
               have hcz129_1 : wr.cell? ⟨gb508, 1, none⟩ = some (u509001) := bt BK508 1
               have hcz129_2 : wr.cell? ⟨gb508, 2, none⟩ = some (u509002) := bt BK508 2
               have hfz129_0 := blk_frozen BK508.out 0
               have hfz129_1 := blk_frozen BK508.out 1
               have hfz129_2 := blk_frozen BK508.out 2
               obtain ⟨Ao130, co130, eo130⟩ := Kd.V_slice HO_509000.out
               subst eo130
               go_wp2
               go_loopg [13, 97] k5 (fun kq v13 v97 w' => ∃ (x13_6 : Int) (x97_6 : Int), v13 = .int .i64 x13_6 ∧ v97 = .int .i64 x97_6 ∧ Aside0 (slotmeshlaw12_CellsOnce.l2 kq t510 x91_5 x13_6 l2 (l2.length : Int) x36_2 a1_1 x91_5 x509000_108 (x509000_108.length : Int) x97_6 x509000_108 x509001_108 x509002_108 a1_0 a1_1 = some r) ∧ Aside0 (kq ≤ k5) ∧ Aside0 (Kd.V k32 32 w' w.heap.size (fun k_ => ((P0_0_ k_ ∨ P0_1_ k_ ∨ P0_2_ k_) ∨ w.heap.size ≤ k_) ∧ some k_ ≠ (u516001 : Value).ownBlock ∧ some k_ ≠ (u516002 : Value).ownBlock ∧ k_ ≠ gb508 ∧ k_ ≠ gb509 ∧ k_ ≠ gb514 ∧ k_ ≠ gb515) (.slice Ao130 x509000_108.length co130) x509000_108) ∧ Aside0 (Kd.V k32 32 w' w.heap.size (fun k_ => ((P0_0_ k_ ∨ P0_1_ k_ ∨ P0_2_ k_) ∨ w.heap.size ≤ k_) ∧ some k_ ≠ (u516001 : Value).ownBlock ∧ some k_ ≠ (u516002 : Value).ownBlock ∧ k_ ≠ gb508 ∧ k_ ≠ gb509 ∧ k_ ≠ gb514 ∧ k_ ≠ gb515) (.slice Ao130 x509000_108.length co130) x509000_108) ∧ Aside0 (Kd.V k34 34 w' w.heap.size (fun k_ => ((P0_0_ k_ ∨ P0_1_ k_ ∨ P0_2_ k_) ∨ w.heap.size ≤ k_) ∧ some k_ ≠ (u516000 : Value).ownBlock ∧ some k_ ≠ (u516002 : Value).ownBlock ∧ k_ ≠ gb508 ∧ k_ ≠ gb509 ∧ k_ ≠ gb514 ∧ k_ ≠ gb515) u509001 x509001_108) ∧ Aside0 (Kd.V k51 51 w' w.heap.size (fun k_ => ((P0_0_ k_ ∨ P0_1_ k_ ∨ P0_2_ k_) ∨ w.heap.size ≤ k_) ∧ some k_ ≠ (u516000 : Value).ownBlock ∧ some k_ ≠ (u516001 : Value).ownBlock ∧ k_ ≠ gb508 ∧ k_ ≠ gb509 ∧ k_ ≠ gb514 ∧ k_ ≠ gb515) u509002 x509002_108) ∧ Aside0 (Kd.R k32 32 w' w.heap.size (fun k_ => (w.heap.size ≤ k_)) u516000 x516000_31) ∧ Aside0 (Kd.R k34 34 w' w.heap.size (fun k_ => (w.heap.size ≤ k_)) u516001 x516001_31) ∧ Aside0 (Kd.R k51 51 w' w.heap.size (fun k_ => (w.heap.size ≤ k_)) u516002 x516002_31) ∧ Aside0 (w'.heap[gb508]? = some (.cells #[(.slice Ao130 x509000_108.length co130), u509001, u509002] 26 (0, 0))) ∧ Aside0 (w'.heap[gb509]? = some (.cells #[.int .i64 a1_0, .int .i64 a1_1] 28 (0, 0))) ∧ Aside0 (w'.heap[gb514]? = some (.cells #[.int .u8 ((rd_T55 l2 x36_2).f0), .int .i64 ((rd_T55 l2 x36_2).f1.f0), .int .i64 ((rd_T55 l2 x36_2).f1.f1), .int .i64 ((rd_T55 l2 x36_2).f2), .int .i64 ((rd_T55 l2 x36_2).f3)] 55 (0, 0))) ∧ Aside0 (w'.heap[gb515]? = some (.cells #[u516000, u516001, u516002] 26 (0, 0))) ∧ Aside0 (Below w.heap.size w w'))
               case atStart => exact ⟨(0), (0), aR, aR, H', ⟨Nat.le_refl _⟩, ⟨sV HO_509000⟩, ⟨sV HO_509000⟩, ⟨sV HO_509001⟩, ⟨sV HO_509002⟩, ⟨sR HO_516000⟩, ⟨sR HO_516001⟩, ⟨sR HO_516002⟩, ⟨sB BK508⟩, ⟨sB BK509⟩, ⟨sB BK514⟩, ⟨sB BK515⟩, ⟨sW HB⟩⟩
               case round =>
                clear H'
                try clear c1
                try clear c2
                try clear p2
                try clear c3
                try clear c4
                try clear c5
                try clear p5
                try clear q5
                try clear hx5
                try clear c6
                try clear c7
                try clear c8
                try clear c9
                try clear c10
                try clear c11
                try clear c12
                try clear c13
                try clear c14
                try clear c19
                try clear c21
                try clear c23
                try clear c25
                try clear c28
                try clear c29
                try clear c29b0
                try clear c30
                try clear c30b0
                try clear c31
                try clear c31b0
                try clear c34
                try clear c35
                try clear c37
                try clear c41
                try clear c42
                try clear c43
                try clear c48
                try clear c48b0
                try clear c48b1
                try clear c50
                try clear c51
                try clear p51
                try clear q51
                try clear hx51
                try clear c52
                try clear c54
                try clear c55
                try clear c57
                try clear c64
                try clear c64b0
                try clear c64b1
                try clear c66
                try clear c67
                try clear c68
                try clear c70
                try clear c71
                try clear c73
                try clear c80
                try clear c80b0
                try clear c80b1
                try clear c82
                try clear c83
                try clear c84
                try clear c86
                try clear c87
                try clear c91
                try clear c96
                try clear c97
                try clear c98
                try clear c100
                try clear c101
                try clear c105
                try clear c110
                try clear c110b0
                try clear c110b1
                try clear c111
                try clear c112
                try clear c113
                try clear c116
                try clear c117
                try clear c121
                try clear c122
                try clear c123
                try clear c125
                try clear c125b0
                try clear c126
                try clear c127
                try clear c128
                try clear hcz102_0 hcz102_1 hcz102_2 hcz102_3 hcz102_4 hfz102_0 hfz102_1 hfz102_2 hfz102_3 hfz102_4
                try clear hcz106_0 hcz106_1 hcz106_2 hfz106_0 hfz106_1 hfz106_2
                try clear hcz114_0 hcz114_1 hcz114_2 hfz114_0 hfz114_1 hfz114_2
                try clear hcz118_0 hcz118_1 hcz118_2 hfz118_0 hfz118_1 hfz118_2
                try clear hcz124_0 hcz124_1 hfz124_0 hfz124_1
                try clear hcz129_0 hcz129_1 hcz129_2 hfz129_0 hfz129_1 hfz129_2
                try clear hcz14_0 hcz14_1 hcz14_2 hfz14_0 hfz14_1 hfz14_2
                try clear hcz16_0 hcz16_1 hcz16_2 hfz16_0 hfz16_1 hfz16_2
                try clear hcz17_0 hcz17_1 hfz17_0 hfz17_1
                try clear hcz20_0 hcz20_1 hcz20_2 hfz20_0 hfz20_1 hfz20_2
                try clear hcz22_0 hcz22_1 hcz22_2 hfz22_0 hfz22_1 hfz22_2
                try clear hcz23_0 hcz23_1 hfz23_0 hfz23_1
                try clear hcz26_0 hcz26_1 hcz26_2 hfz26_0 hfz26_1 hfz26_2
                try clear hcz36_0 hcz36_1 hcz36_2 hcz36_3 hcz36_4 hfz36_0 hfz36_1 hfz36_2 hfz36_3 hfz36_4
                try clear hcz38_0 hcz38_1 hcz38_2 hfz38_0 hfz38_1 hfz38_2
                try clear hcz44_0 hcz44_1 hcz44_2 hfz44_0 hfz44_1 hfz44_2
                try clear hcz47_0 hcz47_1 hcz47_2 hcz47_3 hcz47_4 hfz47_0 hfz47_1 hfz47_2 hfz47_3 hfz47_4
                try clear hcz53_0 hcz53_1 hcz53_2 hfz53_0 hfz53_1 hfz53_2
                try clear hcz56_0 hcz56_1 hfz56_0 hfz56_1
                try clear hcz58_0 hcz58_1 hcz58_2 hcz58_3 hcz58_4 hfz58_0 hfz58_1 hfz58_2 hfz58_3 hfz58_4
                try clear hcz61_0 hcz61_1 hcz61_2 hfz61_0 hfz61_1 hfz61_2
                try clear hcz69_0 hcz69_1 hcz69_2 hfz69_0 hfz69_1 hfz69_2
                try clear hcz72_0 hcz72_1 hfz72_0 hfz72_1
                try clear hcz74_0 hcz74_1 hcz74_2 hcz74_3 hcz74_4 hfz74_0 hfz74_1 hfz74_2 hfz74_3 hfz74_4
                try clear hcz77_0 hcz77_1 hcz77_2 hfz77_0 hfz77_1 hfz77_2
                try clear hcz85_0 hcz85_1 hcz85_2 hfz85_0 hfz85_1 hfz85_2
                try clear hcz88_0 hcz88_1 hcz88_2 hcz88_3 hcz88_4 hfz88_0 hfz88_1 hfz88_2 hfz88_3 hfz88_4
                try clear hcz92_0 hcz92_1 hcz92_2 hfz92_0 hfz92_1 hfz92_2
                try clear hcz99_0 hcz99_1 hcz99_2 hfz99_0 hfz99_1 hfz99_2
                try clear hx513_0
                try clear hx513_1
                try clear hx513_2
                try clear hx513_3
                try clear hx513_4
                try clear p2
                try clear p5
                try clear p51
                try clear p513
                try clear q5
                try clear q51
                try clear q513
                obtain ⟨x13_6, x97_6, rfl, rfl, HA, HK6, HO_95, HO_509000, HO_509001, HO_509002, HO_516000, HO_516001, HO_516002, BK508, BK509, BK514, BK515, HB⟩ := hrel
                cases gk with
                | zero => exact absurd HA.out (by simp [slotmeshlaw12_CellsOnce.l2])
                | succ k6 =>
                 have H := HA.out
                 clear HA
                 simp only [slotmeshlaw12_CellsOnce.l2] at H
                 by_cases c131 : x97_6 < (x509000_108.length : Int)
                 ·rw [if_pos c131] at H
                  have c131b0 : decide (x97_6 < (x509000_108.length : Int)) = true := decide_eq_true c131
                  clear c131
                  by_cases c132 : 0 ≤ x97_6
                  ·rw [if_pos c132] at H
                   have c132b0 : decide (0 ≤ x97_6) = true := decide_eq_true c132
                   clear c132
                   by_cases c133 : x97_6 < (x509000_108.length : Int)
                   ·rw [if_pos c133] at H
                    have c133b0 : decide (x97_6 < (x509000_108.length : Int)) = true := decide_eq_true c133
                    clear c133
                    by_cases c134 : ((rd_T32 x509000_108 x97_6).f0.f0) = x91_5
                    ·rw [if_pos c134] at H
                     have c134b0 : (((rd_T32 x509000_108 x97_6).f0.f0) == x91_5) = true := beq_iff_eq.mpr c134
                     have c134b1 : (((rd_T32 x509000_108 x97_6).f0.f0) != x91_5) = false := bne_eq_false_iff_eq.mpr c134
                     clear c134
                     have H' := Aside0.mk H
                     clear H
                     have p554 : 0 ≤ (x97_6 : Int) := dA
                     have q554 : x97_6 < (x509000_108.length : Int) := dA
                     obtain ⟨ad554, e554, hx554_0, hx554_1, hx554_2, hx554_3⟩ := at_T32 (Kd.V_reads' HO_95.out).2.2 x97_6 p554 q554
                     cases e554
                     replace p554 := eq_true p554
                     replace q554 := eq_true q554
                     go_wp2_with (first | ((with_reducible refine gate_dst (N := 15) rfl ?_); (try (refine gate_guard (by rfl) ?_; dsimp only)); refine bE (N := 15) (cs := #[.int .i64 0, .int .i64 0, .int .i64 0, .int .i64 0]) (t := 32) ?_; intro gb555 hg w135 hbox hb; replace HO_95 := Aside0.mk (Kd.V_below (Kd.V_elderB (sV HO_95) gb555 (Nat.le_of_eq hg.symm)) hb); replace HO_509000 := Aside0.mk (Kd.V_below (Kd.V_elderB (sV HO_509000) gb555 (Nat.le_of_eq hg.symm)) hb); replace HO_509001 := Aside0.mk (Kd.V_below (Kd.V_elderB (sV HO_509001) gb555 (Nat.le_of_eq hg.symm)) hb); replace HO_509002 := Aside0.mk (Kd.V_below (Kd.V_elderB (sV HO_509002) gb555 (Nat.le_of_eq hg.symm)) hb); replace HO_516000 := Aside0.mk (Kd.R_below (Kd.R_elderB (sR HO_516000) gb555 (Nat.le_of_eq hg.symm)) hb); replace HO_516001 := tR HO_516001 hb; replace HO_516002 := tR HO_516002 hb; have BK555 := Aside0.mk (hbox); have GW555 := gW hg HB; have GE555 := GW555; replace HB := tW HB hb; have NB508_555 := gL hg BK508; have NB555_508 := gG hg BK508; replace BK508 := tB BK508 hb; have NB509_555 := gL hg BK509; have NB555_509 := gG hg BK509; replace BK509 := tB BK509 hb; have NB514_555 := gL hg BK514; have NB555_514 := gG hg BK514; replace BK514 := tB BK514 hb; have NB515_555 := gL hg BK515; have NB555_515 := gG hg BK515; replace BK515 := tB BK515 hb; clear hb hbox hg; have hnb136 := NB555_508.out; have hnc136 := NB508_555.out; have hnb137 := NB555_509.out; have hnc137 := NB509_555.out; have hnb138 := NB555_514.out; have hnc138 := NB514_555.out; have hnb139 := NB555_515.out; have hnc139 := NB515_555.out; have hcz140_0 : w135.cell? ⟨gb555, 0, none⟩ = some (.int .i64 0) := bt BK555 0; have hcz140_1 : w135.cell? ⟨gb555, 1, none⟩ = some (.int .i64 0) := bt BK555 1; have hcz140_2 : w135.cell? ⟨gb555, 2, none⟩ = some (.int .i64 0) := bt BK555 2; have hcz140_3 : w135.cell? ⟨gb555, 3, none⟩ = some (.int .i64 0) := bt BK555 3; have hfz140_0 := blk_frozen BK555.out 0; have hfz140_1 := blk_frozen BK555.out 1; have hfz140_2 := blk_frozen BK555.out 2; have hfz140_3 := blk_frozen BK555.out 3))
                     go_roundg k6
                     case measure => have := HJ4.out; have := HK2.out; have := HJ31.out; have := HJ108.out; have := HK5.out; have := HK6.out; omega
                     case rel => exact ⟨(wrap64 (x13_6 + 1)), (wrap64 (x97_6 + 1)), aR, aR, H', ⟨by have := HJ4.out; have := HK2.out; have := HJ31.out; have := HJ108.out; have := HK5.out; have := HK6.out; omega⟩, ⟨mV (by exact Kd.V_mono (Kd.V_far (p := ⟨gb555, 3, none⟩) (Kd.V_far (p := ⟨gb555, 2, none⟩) (Kd.V_far (p := ⟨gb555, 1, none⟩) (Kd.V_far (p := ⟨gb555, 0, none⟩) (Kd.V_mono HO_95.out (fun k_ hk => (⟨hk, hk.2⟩ : _ ∧ k_ ≠ gb555))) (fun _ hk => hk.2) (.int .i64 ((rd_T32 x509000_108 x97_6).f0.f0))) (fun _ hk => hk.2) (.int .i64 ((rd_T32 x509000_108 x97_6).f0.f1))) (fun _ hk => hk.2) (.int .i64 ((rd_T32 x509000_108 x97_6).f1))) (fun _ hk => hk.2) (.int .i64 ((rd_T32 x509000_108 x97_6).f2))) (fun _ hk => ⟨hk.1.1.1, ⟨hk.1.1.2.1, ⟨hk.1.1.2.2.1, ⟨hk.1.1.2.2.2.1, ⟨hk.1.1.2.2.2.2.1, ⟨hk.1.1.2.2.2.2.2.1, hk.1.1.2.2.2.2.2.2⟩⟩⟩⟩⟩⟩))⟩, ⟨mV (by exact Kd.V_mono (Kd.V_far (p := ⟨gb555, 3, none⟩) (Kd.V_far (p := ⟨gb555, 2, none⟩) (Kd.V_far (p := ⟨gb555, 1, none⟩) (Kd.V_far (p := ⟨gb555, 0, none⟩) (Kd.V_mono HO_509000.out (fun k_ hk => (⟨hk, hk.2⟩ : _ ∧ k_ ≠ gb555))) (fun _ hk => hk.2) (.int .i64 ((rd_T32 x509000_108 x97_6).f0.f0))) (fun _ hk => hk.2) (.int .i64 ((rd_T32 x509000_108 x97_6).f0.f1))) (fun _ hk => hk.2) (.int .i64 ((rd_T32 x509000_108 x97_6).f1))) (fun _ hk => hk.2) (.int .i64 ((rd_T32 x509000_108 x97_6).f2))) (fun _ hk => ⟨hk.1.1.1, ⟨hk.1.1.2.1, ⟨hk.1.1.2.2.1, ⟨hk.1.1.2.2.2.1, ⟨hk.1.1.2.2.2.2.1, ⟨hk.1.1.2.2.2.2.2.1, hk.1.1.2.2.2.2.2.2⟩⟩⟩⟩⟩⟩))⟩, ⟨mV (by exact Kd.V_mono (Kd.V_far (p := ⟨gb555, 3, none⟩) (Kd.V_far (p := ⟨gb555, 2, none⟩) (Kd.V_far (p := ⟨gb555, 1, none⟩) (Kd.V_far (p := ⟨gb555, 0, none⟩) (Kd.V_mono HO_509001.out (fun k_ hk => (⟨hk, hk.2⟩ : _ ∧ k_ ≠ gb555))) (fun _ hk => hk.2) (.int .i64 ((rd_T32 x509000_108 x97_6).f0.f0))) (fun _ hk => hk.2) (.int .i64 ((rd_T32 x509000_108 x97_6).f0.f1))) (fun _ hk => hk.2) (.int .i64 ((rd_T32 x509000_108 x97_6).f1))) (fun _ hk => hk.2) (.int .i64 ((rd_T32 x509000_108 x97_6).f2))) (fun _ hk => ⟨hk.1.1.1, ⟨hk.1.1.2.1, ⟨hk.1.1.2.2.1, ⟨hk.1.1.2.2.2.1, ⟨hk.1.1.2.2.2.2.1, ⟨hk.1.1.2.2.2.2.2.1, hk.1.1.2.2.2.2.2.2⟩⟩⟩⟩⟩⟩))⟩, ⟨mV (by exact Kd.V_mono (Kd.V_far (p := ⟨gb555, 3, none⟩) (Kd.V_far (p := ⟨gb555, 2, none⟩) (Kd.V_far (p := ⟨gb555, 1, none⟩) (Kd.V_far (p := ⟨gb555, 0, none⟩) (Kd.V_mono HO_509002.out (fun k_ hk => (⟨hk, hk.2⟩ : _ ∧ k_ ≠ gb555))) (fun _ hk => hk.2) (.int .i64 ((rd_T32 x509000_108 x97_6).f0.f0))) (fun _ hk => hk.2) (.int .i64 ((rd_T32 x509000_108 x97_6).f0.f1))) (fun _ hk => hk.2) (.int .i64 ((rd_T32 x509000_108 x97_6).f1))) (fun _ hk => hk.2) (.int .i64 ((rd_T32 x509000_108 x97_6).f2))) (fun _ hk => ⟨hk.1.1.1, ⟨hk.1.1.2.1, ⟨hk.1.1.2.2.1, ⟨hk.1.1.2.2.2.1, ⟨hk.1.1.2.2.2.2.1, ⟨hk.1.1.2.2.2.2.2.1, hk.1.1.2.2.2.2.2.2⟩⟩⟩⟩⟩⟩))⟩, ⟨mR (by exact Kd.R_mono (Kd.R_far (p := ⟨gb555, 3, none⟩) (Kd.R_far (p := ⟨gb555, 2, none⟩) (Kd.R_far (p := ⟨gb555, 1, none⟩) (Kd.R_far (p := ⟨gb555, 0, none⟩) (Kd.R_mono HO_516000.out (fun k_ hk => (⟨hk, hk.2⟩ : _ ∧ k_ ≠ gb555))) (fun _ hk => hk.2) (.int .i64 ((rd_T32 x509000_108 x97_6).f0.f0))) (fun _ hk => hk.2) (.int .i64 ((rd_T32 x509000_108 x97_6).f0.f1))) (fun _ hk => hk.2) (.int .i64 ((rd_T32 x509000_108 x97_6).f1))) (fun _ hk => hk.2) (.int .i64 ((rd_T32 x509000_108 x97_6).f2))) (fun _ hk => hk.1.1))⟩, ⟨mR (by exact Kd.R_mono (Kd.R_far (p := ⟨gb555, 3, none⟩) (Kd.R_far (p := ⟨gb555, 2, none⟩) (Kd.R_far (p := ⟨gb555, 1, none⟩) (Kd.R_far (p := ⟨gb555, 0, none⟩) (Kd.R_types HO_516001.out BK555.out (by decide)) (fun _ hk => hk.2) (.int .i64 ((rd_T32 x509000_108 x97_6).f0.f0))) (fun _ hk => hk.2) (.int .i64 ((rd_T32 x509000_108 x97_6).f0.f1))) (fun _ hk => hk.2) (.int .i64 ((rd_T32 x509000_108 x97_6).f1))) (fun _ hk => hk.2) (.int .i64 ((rd_T32 x509000_108 x97_6).f2))) (fun _ hk => hk.1))⟩, ⟨mR (by exact Kd.R_mono (Kd.R_far (p := ⟨gb555, 3, none⟩) (Kd.R_far (p := ⟨gb555, 2, none⟩) (Kd.R_far (p := ⟨gb555, 1, none⟩) (Kd.R_far (p := ⟨gb555, 0, none⟩) (Kd.R_types HO_516002.out BK555.out (by decide)) (fun _ hk => hk.2) (.int .i64 ((rd_T32 x509000_108 x97_6).f0.f0))) (fun _ hk => hk.2) (.int .i64 ((rd_T32 x509000_108 x97_6).f0.f1))) (fun _ hk => hk.2) (.int .i64 ((rd_T32 x509000_108 x97_6).f1))) (fun _ hk => hk.2) (.int .i64 ((rd_T32 x509000_108 x97_6).f2))) (fun _ hk => hk.1))⟩, ⟨sB BK508⟩, ⟨sB BK509⟩, ⟨sB BK514⟩, ⟨sB BK515⟩, ⟨sW HB⟩⟩
                    rw [if_neg c134] at H
                    have c134b0 : (((rd_T32 x509000_108 x97_6).f0.f0) == x91_5) = false := beq_eq_false_iff_ne.mpr c134
                    have c134b1 : (((rd_T32 x509000_108 x97_6).f0.f0) != x91_5) = true := bne_iff_ne.mpr c134
                    have H' := Aside0.mk H
                    clear H
                    have p554 : 0 ≤ (x97_6 : Int) := dA
                    have q554 : x97_6 < (x509000_108.length : Int) := dA
                    obtain ⟨ad554, e554, hx554_0, hx554_1, hx554_2, hx554_3⟩ := at_T32 (Kd.V_reads' HO_95.out).2.2 x97_6 p554 q554
                    cases e554
                    replace p554 := eq_true p554
                    replace q554 := eq_true q554
                    go_wp2_with (first | ((with_reducible refine gate_dst (N := 15) rfl ?_); (try (refine gate_guard (by rfl) ?_; dsimp only)); refine bE (N := 15) (cs := #[.int .i64 0, .int .i64 0, .int .i64 0, .int .i64 0]) (t := 32) ?_; intro gb555 hg w141 hbox hb; replace HO_95 := Aside0.mk (Kd.V_below (Kd.V_elderB (sV HO_95) gb555 (Nat.le_of_eq hg.symm)) hb); replace HO_509000 := Aside0.mk (Kd.V_below (Kd.V_elderB (sV HO_509000) gb555 (Nat.le_of_eq hg.symm)) hb); replace HO_509001 := Aside0.mk (Kd.V_below (Kd.V_elderB (sV HO_509001) gb555 (Nat.le_of_eq hg.symm)) hb); replace HO_509002 := Aside0.mk (Kd.V_below (Kd.V_elderB (sV HO_509002) gb555 (Nat.le_of_eq hg.symm)) hb); replace HO_516000 := Aside0.mk (Kd.R_below (Kd.R_elderB (sR HO_516000) gb555 (Nat.le_of_eq hg.symm)) hb); replace HO_516001 := tR HO_516001 hb; replace HO_516002 := tR HO_516002 hb; have BK555 := Aside0.mk (hbox); have GW555 := gW hg HB; have GE555 := GW555; replace HB := tW HB hb; have NB508_555 := gL hg BK508; have NB555_508 := gG hg BK508; replace BK508 := tB BK508 hb; have NB509_555 := gL hg BK509; have NB555_509 := gG hg BK509; replace BK509 := tB BK509 hb; have NB514_555 := gL hg BK514; have NB555_514 := gG hg BK514; replace BK514 := tB BK514 hb; have NB515_555 := gL hg BK515; have NB555_515 := gG hg BK515; replace BK515 := tB BK515 hb; clear hb hbox hg; have hnb142 := NB555_508.out; have hnc142 := NB508_555.out; have hnb143 := NB555_509.out; have hnc143 := NB509_555.out; have hnb144 := NB555_514.out; have hnc144 := NB514_555.out; have hnb145 := NB555_515.out; have hnc145 := NB515_555.out; have hcz146_0 : w141.cell? ⟨gb555, 0, none⟩ = some (.int .i64 0) := bt BK555 0; have hcz146_1 : w141.cell? ⟨gb555, 1, none⟩ = some (.int .i64 0) := bt BK555 1; have hcz146_2 : w141.cell? ⟨gb555, 2, none⟩ = some (.int .i64 0) := bt BK555 2; have hcz146_3 : w141.cell? ⟨gb555, 3, none⟩ = some (.int .i64 0) := bt BK555 3; have hfz146_0 := blk_frozen BK555.out 0; have hfz146_1 := blk_frozen BK555.out 1; have hfz146_2 := blk_frozen BK555.out 2; have hfz146_3 := blk_frozen BK555.out 3))
                    go_roundg k6
                    case measure => have := HJ4.out; have := HK2.out; have := HJ31.out; have := HJ108.out; have := HK5.out; have := HK6.out; omega
                    case rel => exact ⟨(x13_6), (wrap64 (x97_6 + 1)), aR, aR, H', ⟨by have := HJ4.out; have := HK2.out; have := HJ31.out; have := HJ108.out; have := HK5.out; have := HK6.out; omega⟩, ⟨mV (by exact Kd.V_mono (Kd.V_far (p := ⟨gb555, 3, none⟩) (Kd.V_far (p := ⟨gb555, 2, none⟩) (Kd.V_far (p := ⟨gb555, 1, none⟩) (Kd.V_far (p := ⟨gb555, 0, none⟩) (Kd.V_mono HO_95.out (fun k_ hk => (⟨hk, hk.2⟩ : _ ∧ k_ ≠ gb555))) (fun _ hk => hk.2) (.int .i64 ((rd_T32 x509000_108 x97_6).f0.f0))) (fun _ hk => hk.2) (.int .i64 ((rd_T32 x509000_108 x97_6).f0.f1))) (fun _ hk => hk.2) (.int .i64 ((rd_T32 x509000_108 x97_6).f1))) (fun _ hk => hk.2) (.int .i64 ((rd_T32 x509000_108 x97_6).f2))) (fun _ hk => ⟨hk.1.1.1, ⟨hk.1.1.2.1, ⟨hk.1.1.2.2.1, ⟨hk.1.1.2.2.2.1, ⟨hk.1.1.2.2.2.2.1, ⟨hk.1.1.2.2.2.2.2.1, hk.1.1.2.2.2.2.2.2⟩⟩⟩⟩⟩⟩))⟩, ⟨mV (by exact Kd.V_mono (Kd.V_far (p := ⟨gb555, 3, none⟩) (Kd.V_far (p := ⟨gb555, 2, none⟩) (Kd.V_far (p := ⟨gb555, 1, none⟩) (Kd.V_far (p := ⟨gb555, 0, none⟩) (Kd.V_mono HO_509000.out (fun k_ hk => (⟨hk, hk.2⟩ : _ ∧ k_ ≠ gb555))) (fun _ hk => hk.2) (.int .i64 ((rd_T32 x509000_108 x97_6).f0.f0))) (fun _ hk => hk.2) (.int .i64 ((rd_T32 x509000_108 x97_6).f0.f1))) (fun _ hk => hk.2) (.int .i64 ((rd_T32 x509000_108 x97_6).f1))) (fun _ hk => hk.2) (.int .i64 ((rd_T32 x509000_108 x97_6).f2))) (fun _ hk => ⟨hk.1.1.1, ⟨hk.1.1.2.1, ⟨hk.1.1.2.2.1, ⟨hk.1.1.2.2.2.1, ⟨hk.1.1.2.2.2.2.1, ⟨hk.1.1.2.2.2.2.2.1, hk.1.1.2.2.2.2.2.2⟩⟩⟩⟩⟩⟩))⟩, ⟨mV (by exact Kd.V_mono (Kd.V_far (p := ⟨gb555, 3, none⟩) (Kd.V_far (p := ⟨gb555, 2, none⟩) (Kd.V_far (p := ⟨gb555, 1, none⟩) (Kd.V_far (p := ⟨gb555, 0, none⟩) (Kd.V_mono HO_509001.out (fun k_ hk => (⟨hk, hk.2⟩ : _ ∧ k_ ≠ gb555))) (fun _ hk => hk.2) (.int .i64 ((rd_T32 x509000_108 x97_6).f0.f0))) (fun _ hk => hk.2) (.int .i64 ((rd_T32 x509000_108 x97_6).f0.f1))) (fun _ hk => hk.2) (.int .i64 ((rd_T32 x509000_108 x97_6).f1))) (fun _ hk => hk.2) (.int .i64 ((rd_T32 x509000_108 x97_6).f2))) (fun _ hk => ⟨hk.1.1.1, ⟨hk.1.1.2.1, ⟨hk.1.1.2.2.1, ⟨hk.1.1.2.2.2.1, ⟨hk.1.1.2.2.2.2.1, ⟨hk.1.1.2.2.2.2.2.1, hk.1.1.2.2.2.2.2.2⟩⟩⟩⟩⟩⟩))⟩, ⟨mV (by exact Kd.V_mono (Kd.V_far (p := ⟨gb555, 3, none⟩) (Kd.V_far (p := ⟨gb555, 2, none⟩) (Kd.V_far (p := ⟨gb555, 1, none⟩) (Kd.V_far (p := ⟨gb555, 0, none⟩) (Kd.V_mono HO_509002.out (fun k_ hk => (⟨hk, hk.2⟩ : _ ∧ k_ ≠ gb555))) (fun _ hk => hk.2) (.int .i64 ((rd_T32 x509000_108 x97_6).f0.f0))) (fun _ hk => hk.2) (.int .i64 ((rd_T32 x509000_108 x97_6).f0.f1))) (fun _ hk => hk.2) (.int .i64 ((rd_T32 x509000_108 x97_6).f1))) (fun _ hk => hk.2) (.int .i64 ((rd_T32 x509000_108 x97_6).f2))) (fun _ hk => ⟨hk.1.1.1, ⟨hk.1.1.2.1, ⟨hk.1.1.2.2.1, ⟨hk.1.1.2.2.2.1, ⟨hk.1.1.2.2.2.2.1, ⟨hk.1.1.2.2.2.2.2.1, hk.1.1.2.2.2.2.2.2⟩⟩⟩⟩⟩⟩))⟩, ⟨mR (by exact Kd.R_mono (Kd.R_far (p := ⟨gb555, 3, none⟩) (Kd.R_far (p := ⟨gb555, 2, none⟩) (Kd.R_far (p := ⟨gb555, 1, none⟩) (Kd.R_far (p := ⟨gb555, 0, none⟩) (Kd.R_mono HO_516000.out (fun k_ hk => (⟨hk, hk.2⟩ : _ ∧ k_ ≠ gb555))) (fun _ hk => hk.2) (.int .i64 ((rd_T32 x509000_108 x97_6).f0.f0))) (fun _ hk => hk.2) (.int .i64 ((rd_T32 x509000_108 x97_6).f0.f1))) (fun _ hk => hk.2) (.int .i64 ((rd_T32 x509000_108 x97_6).f1))) (fun _ hk => hk.2) (.int .i64 ((rd_T32 x509000_108 x97_6).f2))) (fun _ hk => hk.1.1))⟩, ⟨mR (by exact Kd.R_mono (Kd.R_far (p := ⟨gb555, 3, none⟩) (Kd.R_far (p := ⟨gb555, 2, none⟩) (Kd.R_far (p := ⟨gb555, 1, none⟩) (Kd.R_far (p := ⟨gb555, 0, none⟩) (Kd.R_types HO_516001.out BK555.out (by decide)) (fun _ hk => hk.2) (.int .i64 ((rd_T32 x509000_108 x97_6).f0.f0))) (fun _ hk => hk.2) (.int .i64 ((rd_T32 x509000_108 x97_6).f0.f1))) (fun _ hk => hk.2) (.int .i64 ((rd_T32 x509000_108 x97_6).f1))) (fun _ hk => hk.2) (.int .i64 ((rd_T32 x509000_108 x97_6).f2))) (fun _ hk => hk.1))⟩, ⟨mR (by exact Kd.R_mono (Kd.R_far (p := ⟨gb555, 3, none⟩) (Kd.R_far (p := ⟨gb555, 2, none⟩) (Kd.R_far (p := ⟨gb555, 1, none⟩) (Kd.R_far (p := ⟨gb555, 0, none⟩) (Kd.R_types HO_516002.out BK555.out (by decide)) (fun _ hk => hk.2) (.int .i64 ((rd_T32 x509000_108 x97_6).f0.f0))) (fun _ hk => hk.2) (.int .i64 ((rd_T32 x509000_108 x97_6).f0.f1))) (fun _ hk => hk.2) (.int .i64 ((rd_T32 x509000_108 x97_6).f1))) (fun _ hk => hk.2) (.int .i64 ((rd_T32 x509000_108 x97_6).f2))) (fun _ hk => hk.1))⟩, ⟨sB BK508⟩, ⟨sB BK509⟩, ⟨sB BK514⟩, ⟨sB BK515⟩, ⟨sW HB⟩⟩
                   rw [if_neg c133] at H
                   exact absurd H (by simp)
                  rw [if_neg c132] at H
                  exact absurd H (by simp)
                 rw [if_neg c131] at H
                 have c131b0 : decide (x97_6 < (x509000_108.length : Int)) = false := decide_eq_false c131
                 clear c131
                 have H' := Aside0.mk H
                 clear H
                 have hnb147 := NB508_509.out
                 have hnc147 := NB509_508.out
                 have hnb148 := NB508_514.out
                 have hnc148 := NB514_508.out
                 have hnb149 := NB508_515.out
                 have hnc149 := NB515_508.out
                 have hcz150_0 : wr.cell? ⟨gb508, 0, none⟩ = some (.slice Ao130 x509000_108.length co130) := bt BK508 0
                 have hcz150_1 : wr.cell? ⟨gb508, 1, none⟩ = some (u509001) := bt BK508 1
                 have hcz150_2 : wr.cell? ⟨gb508, 2, none⟩ = some (u509002) := bt BK508 2
                 have hfz150_0 := blk_frozen BK508.out 0
                 have hfz150_1 := blk_frozen BK508.out 1
                 have hfz150_2 := blk_frozen BK508.out 2
                 obtain ⟨Ao151, co151, eo151⟩ := Kd.V_slice HO_509001.out
                 subst eo151
                 go_wp2
                 go_loopg [13, 112] k6 (fun kq v13 v112 w' => ∃ (x13_7 : Int) (x112_7 : Int), v13 = .int .i64 x13_7 ∧ v112 = .int .i64 x112_7 ∧ Aside0 (slotmeshlaw12_CellsOnce.l3 kq t510 x91_5 x13_7 l2 (l2.length : Int) x36_2 a1_1 x91_5 x509001_108 (x509001_108.length : Int) x112_7 x509000_108 x509001_108 x509002_108 a1_0 a1_1 = some r) ∧ Aside0 (kq ≤ k6) ∧ Aside0 (Kd.V k34 34 w' w.heap.size (fun k_ => ((P0_0_ k_ ∨ P0_1_ k_ ∨ P0_2_ k_) ∨ w.heap.size ≤ k_) ∧ some k_ ≠ (u516000 : Value).ownBlock ∧ some k_ ≠ (u516002 : Value).ownBlock ∧ k_ ≠ gb508 ∧ k_ ≠ gb509 ∧ k_ ≠ gb514 ∧ k_ ≠ gb515) (.slice Ao151 x509001_108.length co151) x509001_108) ∧ Aside0 (Kd.V k32 32 w' w.heap.size (fun k_ => ((P0_0_ k_ ∨ P0_1_ k_ ∨ P0_2_ k_) ∨ w.heap.size ≤ k_) ∧ some k_ ≠ (u516001 : Value).ownBlock ∧ some k_ ≠ (u516002 : Value).ownBlock ∧ k_ ≠ gb508 ∧ k_ ≠ gb509 ∧ k_ ≠ gb514 ∧ k_ ≠ gb515) (.slice Ao130 x509000_108.length co130) x509000_108) ∧ Aside0 (Kd.V k34 34 w' w.heap.size (fun k_ => ((P0_0_ k_ ∨ P0_1_ k_ ∨ P0_2_ k_) ∨ w.heap.size ≤ k_) ∧ some k_ ≠ (u516000 : Value).ownBlock ∧ some k_ ≠ (u516002 : Value).ownBlock ∧ k_ ≠ gb508 ∧ k_ ≠ gb509 ∧ k_ ≠ gb514 ∧ k_ ≠ gb515) (.slice Ao151 x509001_108.length co151) x509001_108) ∧ Aside0 (Kd.V k51 51 w' w.heap.size (fun k_ => ((P0_0_ k_ ∨ P0_1_ k_ ∨ P0_2_ k_) ∨ w.heap.size ≤ k_) ∧ some k_ ≠ (u516000 : Value).ownBlock ∧ some k_ ≠ (u516001 : Value).ownBlock ∧ k_ ≠ gb508 ∧ k_ ≠ gb509 ∧ k_ ≠ gb514 ∧ k_ ≠ gb515) u509002 x509002_108) ∧ Aside0 (Kd.R k32 32 w' w.heap.size (fun k_ => (w.heap.size ≤ k_)) u516000 x516000_31) ∧ Aside0 (Kd.R k34 34 w' w.heap.size (fun k_ => (w.heap.size ≤ k_)) u516001 x516001_31) ∧ Aside0 (Kd.R k51 51 w' w.heap.size (fun k_ => (w.heap.size ≤ k_)) u516002 x516002_31) ∧ Aside0 (w'.heap[gb508]? = some (.cells #[(.slice Ao130 x509000_108.length co130), (.slice Ao151 x509001_108.length co151), u509002] 26 (0, 0))) ∧ Aside0 (w'.heap[gb509]? = some (.cells #[.int .i64 a1_0, .int .i64 a1_1] 28 (0, 0))) ∧ Aside0 (w'.heap[gb514]? = some (.cells #[.int .u8 ((rd_T55 l2 x36_2).f0), .int .i64 ((rd_T55 l2 x36_2).f1.f0), .int .i64 ((rd_T55 l2 x36_2).f1.f1), .int .i64 ((rd_T55 l2 x36_2).f2), .int .i64 ((rd_T55 l2 x36_2).f3)] 55 (0, 0))) ∧ Aside0 (w'.heap[gb515]? = some (.cells #[u516000, u516001, u516002] 26 (0, 0))) ∧ Aside0 (Below w.heap.size w w'))
                 case atStart => exact ⟨(x13_6), (0), aR, aR, H', ⟨Nat.le_refl _⟩, ⟨sV HO_509001⟩, ⟨sV HO_509000⟩, ⟨sV HO_509001⟩, ⟨sV HO_509002⟩, ⟨sR HO_516000⟩, ⟨sR HO_516001⟩, ⟨sR HO_516002⟩, ⟨sB BK508⟩, ⟨sB BK509⟩, ⟨sB BK514⟩, ⟨sB BK515⟩, ⟨sW HB⟩⟩
                 case round =>
                  clear H'
                  try clear c1
                  try clear c2
                  try clear p2
                  try clear c3
                  try clear c4
                  try clear c5
                  try clear p5
                  try clear q5
                  try clear hx5
                  try clear c6
                  try clear p6
                  try clear c7
                  try clear c8
                  try clear c9
                  try clear c10
                  try clear c11
                  try clear c12
                  try clear c13
                  try clear c14
                  try clear c19
                  try clear c21
                  try clear c23
                  try clear c25
                  try clear c28
                  try clear c29
                  try clear c29b0
                  try clear c30
                  try clear c30b0
                  try clear c31
                  try clear c31b0
                  try clear c34
                  try clear c35
                  try clear c37
                  try clear c41
                  try clear c42
                  try clear c43
                  try clear c48
                  try clear c48b0
                  try clear c48b1
                  try clear c50
                  try clear c51
                  try clear p51
                  try clear q51
                  try clear hx51
                  try clear c52
                  try clear c54
                  try clear c55
                  try clear p55
                  try clear q55
                  try clear hx55
                  try clear c57
                  try clear c64
                  try clear c64b0
                  try clear c64b1
                  try clear p64
                  try clear c66
                  try clear c67
                  try clear c68
                  try clear c70
                  try clear c71
                  try clear c73
                  try clear c80
                  try clear c80b0
                  try clear c80b1
                  try clear c82
                  try clear c83
                  try clear c84
                  try clear c86
                  try clear c87
                  try clear c91
                  try clear c96
                  try clear c97
                  try clear c98
                  try clear c100
                  try clear c101
                  try clear c105
                  try clear c110
                  try clear c110b0
                  try clear c110b1
                  try clear c111
                  try clear c112
                  try clear c113
                  try clear c116
                  try clear c117
                  try clear c121
                  try clear c122
                  try clear c123
                  try clear c125
                  try clear c125b0
                  try clear c126
                  try clear c127
                  try clear c128
                  try clear c131
                  try clear c131b0
                  try clear c132
                  try clear c132b0
                  try clear c133
                  try clear c133b0
                  try clear c134
                  try clear c134b0
                  try clear c134b1
                  try clear c136
                  try clear c137
                  try clear c138
                  try clear c139
                  try clear c142
                  try clear c143
                  try clear c144
                  try clear c145
                  try clear c147
                  try clear c148
                  try clear c149
                  try clear hcz102_0 hcz102_1 hcz102_2 hcz102_3 hcz102_4 hfz102_0 hfz102_1 hfz102_2 hfz102_3 hfz102_4
                  try clear hcz106_0 hcz106_1 hcz106_2 hfz106_0 hfz106_1 hfz106_2
                  try clear hcz114_0 hcz114_1 hcz114_2 hfz114_0 hfz114_1 hfz114_2
                  try clear hcz118_0 hcz118_1 hcz118_2 hfz118_0 hfz118_1 hfz118_2
                  try clear hcz124_0 hcz124_1 hfz124_0 hfz124_1
                  try clear hcz129_0 hcz129_1 hcz129_2 hfz129_0 hfz129_1 hfz129_2
                  try clear hcz140_0 hcz140_1 hcz140_2 hcz140_3 hfz140_0 hfz140_1 hfz140_2 hfz140_3
                  try clear hcz146_0 hcz146_1 hcz146_2 hcz146_3 hfz146_0 hfz146_1 hfz146_2 hfz146_3
                  try clear hcz14_0 hcz14_1 hcz14_2 hfz14_0 hfz14_1 hfz14_2
                  try clear hcz150_0 hcz150_1 hcz150_2 hfz150_0 hfz150_1 hfz150_2
                  try clear hcz16_0 hcz16_1 hcz16_2 hfz16_0 hfz16_1 hfz16_2
                  try clear hcz17_0 hcz17_1 hfz17_0 hfz17_1
                  try clear hcz20_0 hcz20_1 hcz20_2 hfz20_0 hfz20_1 hfz20_2
                  try clear hcz22_0 hcz22_1 hcz22_2 hfz22_0 hfz22_1 hfz22_2
                  try clear hcz23_0 hcz23_1 hfz23_0 hfz23_1
                  try clear hcz26_0 hcz26_1 hcz26_2 hfz26_0 hfz26_1 hfz26_2
                  try clear hcz36_0 hcz36_1 hcz36_2 hcz36_3 hcz36_4 hfz36_0 hfz36_1 hfz36_2 hfz36_3 hfz36_4
                  try clear hcz38_0 hcz38_1 hcz38_2 hfz38_0 hfz38_1 hfz38_2
                  try clear hcz44_0 hcz44_1 hcz44_2 hfz44_0 hfz44_1 hfz44_2
                  try clear hcz47_0 hcz47_1 hcz47_2 hcz47_3 hcz47_4 hfz47_0 hfz47_1 hfz47_2 hfz47_3 hfz47_4
                  try clear hcz53_0 hcz53_1 hcz53_2 hfz53_0 hfz53_1 hfz53_2
                  try clear hcz56_0 hcz56_1 hfz56_0 hfz56_1
                  try clear hcz58_0 hcz58_1 hcz58_2 hcz58_3 hcz58_4 hfz58_0 hfz58_1 hfz58_2 hfz58_3 hfz58_4
                  try clear hcz61_0 hcz61_1 hcz61_2 hfz61_0 hfz61_1 hfz61_2
                  try clear hcz69_0 hcz69_1 hcz69_2 hfz69_0 hfz69_1 hfz69_2
                  try clear hcz72_0 hcz72_1 hfz72_0 hfz72_1
                  try clear hcz74_0 hcz74_1 hcz74_2 hcz74_3 hcz74_4 hfz74_0 hfz74_1 hfz74_2 hfz74_3 hfz74_4
                  try clear hcz77_0 hcz77_1 hcz77_2 hfz77_0 hfz77_1 hfz77_2
                  try clear hcz85_0 hcz85_1 hcz85_2 hfz85_0 hfz85_1 hfz85_2
                  try clear hcz88_0 hcz88_1 hcz88_2 hcz88_3 hcz88_4 hfz88_0 hfz88_1 hfz88_2 hfz88_3 hfz88_4
                  try clear hcz92_0 hcz92_1 hcz92_2 hfz92_0 hfz92_1 hfz92_2
                  try clear hcz99_0 hcz99_1 hcz99_2 hfz99_0 hfz99_1 hfz99_2
                  try clear hx513_0
                  try clear hx513_1
                  try clear hx513_2
                  try clear hx513_3
                  try clear hx513_4
                  try clear hx554_0
                  try clear hx554_1
                  try clear hx554_2
                  try clear hx554_3
                  try clear p2
                  try clear p5
                  try clear p51
                  try clear p513
                  try clear p554
                  try clear q5
                  try clear q51
                  try clear q513
                  try clear q554
                  obtain ⟨x13_7, x112_7, rfl, rfl, HA, HK7, HO_110, HO_509000, HO_509001, HO_509002, HO_516000, HO_516001, HO_516002, BK508, BK509, BK514, BK515, HB⟩ := hrel
                  cases gk with
                  | zero => exact absurd HA.out (by simp [slotmeshlaw12_CellsOnce.l3])
                  | succ k7 =>
                   have H := HA.out
                   clear HA
                   simp only [slotmeshlaw12_CellsOnce.l3] at H
                   by_cases c152 : x112_7 < (x509001_108.length : Int)
                   ·rw [if_pos c152] at H
                    have c152b0 : decide (x112_7 < (x509001_108.length : Int)) = true := decide_eq_true c152
                    clear c152
                    by_cases c153 : 0 ≤ x112_7
                    ·rw [if_pos c153] at H
                     have c153b0 : decide (0 ≤ x112_7) = true := decide_eq_true c153
                     clear c153
                     by_cases c154 : x112_7 < (x509001_108.length : Int)
                     ·rw [if_pos c154] at H
                      have c154b0 : decide (x112_7 < (x509001_108.length : Int)) = true := decide_eq_true c154
                      clear c154
                      by_cases c155 : ((rd_T34 x509001_108 x112_7).f0.f0) = x91_5
                      ·rw [if_pos c155] at H
                       have c155b0 : (((rd_T34 x509001_108 x112_7).f0.f0) == x91_5) = true := beq_iff_eq.mpr c155
                       have c155b1 : (((rd_T34 x509001_108 x112_7).f0.f0) != x91_5) = false := bne_eq_false_iff_eq.mpr c155
                       clear c155
                       have H' := Aside0.mk H
                       clear H
                       have p556 : 0 ≤ (x112_7 : Int) := dA
                       have q556 : x112_7 < (x509001_108.length : Int) := dA
                       obtain ⟨ad556, e556, hx556_0, hx556_1, hx556_2, hx556_3, hx556_4⟩ := at_T34 (Kd.V_reads' HO_110.out).2.2 x112_7 p556 q556
                       cases e556
                       replace p556 := eq_true p556
                       replace q556 := eq_true q556
                       go_wp2_with (first | ((with_reducible refine gate_dst (N := 17) rfl ?_); (try (refine gate_guard (by rfl) ?_; dsimp only)); refine bE (N := 17) (cs := #[.int .i64 0, .int .i64 0, .int .i64 0, .int .i64 0, .int .i64 0]) (t := 34) ?_; intro gb557 hg w156 hbox hb; replace HO_110 := Aside0.mk (Kd.V_below (Kd.V_elderB (sV HO_110) gb557 (Nat.le_of_eq hg.symm)) hb); replace HO_509000 := Aside0.mk (Kd.V_below (Kd.V_elderB (sV HO_509000) gb557 (Nat.le_of_eq hg.symm)) hb); replace HO_509001 := Aside0.mk (Kd.V_below (Kd.V_elderB (sV HO_509001) gb557 (Nat.le_of_eq hg.symm)) hb); replace HO_509002 := Aside0.mk (Kd.V_below (Kd.V_elderB (sV HO_509002) gb557 (Nat.le_of_eq hg.symm)) hb); replace HO_516000 := tR HO_516000 hb; replace HO_516001 := Aside0.mk (Kd.R_below (Kd.R_elderB (sR HO_516001) gb557 (Nat.le_of_eq hg.symm)) hb); replace HO_516002 := tR HO_516002 hb; have BK557 := Aside0.mk (hbox); have GW557 := gW hg HB; have GE557 := GW557; replace HB := tW HB hb; have NB508_557 := gL hg BK508; have NB557_508 := gG hg BK508; replace BK508 := tB BK508 hb; have NB509_557 := gL hg BK509; have NB557_509 := gG hg BK509; replace BK509 := tB BK509 hb; have NB514_557 := gL hg BK514; have NB557_514 := gG hg BK514; replace BK514 := tB BK514 hb; have NB515_557 := gL hg BK515; have NB557_515 := gG hg BK515; replace BK515 := tB BK515 hb; clear hb hbox hg; have hnb157 := NB557_508.out; have hnc157 := NB508_557.out; have hnb158 := NB557_509.out; have hnc158 := NB509_557.out; have hnb159 := NB557_514.out; have hnc159 := NB514_557.out; have hnb160 := NB557_515.out; have hnc160 := NB515_557.out; have hcz161_0 : w156.cell? ⟨gb557, 0, none⟩ = some (.int .i64 0) := bt BK557 0; have hcz161_1 : w156.cell? ⟨gb557, 1, none⟩ = some (.int .i64 0) := bt BK557 1; have hcz161_2 : w156.cell? ⟨gb557, 2, none⟩ = some (.int .i64 0) := bt BK557 2; have hcz161_3 : w156.cell? ⟨gb557, 3, none⟩ = some (.int .i64 0) := bt BK557 3; have hcz161_4 : w156.cell? ⟨gb557, 4, none⟩ = some (.int .i64 0) := bt BK557 4; have hfz161_0 := blk_frozen BK557.out 0; have hfz161_1 := blk_frozen BK557.out 1; have hfz161_2 := blk_frozen BK557.out 2; have hfz161_3 := blk_frozen BK557.out 3; have hfz161_4 := blk_frozen BK557.out 4))
                       go_roundg k7
                       case measure => have := HJ4.out; have := HK2.out; have := HJ31.out; have := HJ108.out; have := HK5.out; have := HK6.out; have := HK7.out; omega
                       case rel => exact ⟨(wrap64 (x13_7 + 1)), (wrap64 (x112_7 + 1)), aR, aR, H', ⟨by have := HJ4.out; have := HK2.out; have := HJ31.out; have := HJ108.out; have := HK5.out; have := HK6.out; have := HK7.out; omega⟩, ⟨mV (by exact Kd.V_mono (Kd.V_far (p := ⟨gb557, 4, none⟩) (Kd.V_far (p := ⟨gb557, 3, none⟩) (Kd.V_far (p := ⟨gb557, 2, none⟩) (Kd.V_far (p := ⟨gb557, 1, none⟩) (Kd.V_far (p := ⟨gb557, 0, none⟩) (Kd.V_mono HO_110.out (fun k_ hk => (⟨hk, hk.2⟩ : _ ∧ k_ ≠ gb557))) (fun _ hk => hk.2) (.int .i64 ((rd_T34 x509001_108 x112_7).f0.f0))) (fun _ hk => hk.2) (.int .i64 ((rd_T34 x509001_108 x112_7).f0.f1))) (fun _ hk => hk.2) (.int .i64 ((rd_T34 x509001_108 x112_7).f1))) (fun _ hk => hk.2) (.int .i64 ((rd_T34 x509001_108 x112_7).f2))) (fun _ hk => hk.2) (.int .i64 ((rd_T34 x509001_108 x112_7).f3))) (fun _ hk => ⟨hk.1.1.1, ⟨hk.1.1.2.1, ⟨hk.1.1.2.2.1, ⟨hk.1.1.2.2.2.1, ⟨hk.1.1.2.2.2.2.1, ⟨hk.1.1.2.2.2.2.2.1, hk.1.1.2.2.2.2.2.2⟩⟩⟩⟩⟩⟩))⟩, ⟨mV (by exact Kd.V_mono (Kd.V_far (p := ⟨gb557, 4, none⟩) (Kd.V_far (p := ⟨gb557, 3, none⟩) (Kd.V_far (p := ⟨gb557, 2, none⟩) (Kd.V_far (p := ⟨gb557, 1, none⟩) (Kd.V_far (p := ⟨gb557, 0, none⟩) (Kd.V_mono HO_509000.out (fun k_ hk => (⟨hk, hk.2⟩ : _ ∧ k_ ≠ gb557))) (fun _ hk => hk.2) (.int .i64 ((rd_T34 x509001_108 x112_7).f0.f0))) (fun _ hk => hk.2) (.int .i64 ((rd_T34 x509001_108 x112_7).f0.f1))) (fun _ hk => hk.2) (.int .i64 ((rd_T34 x509001_108 x112_7).f1))) (fun _ hk => hk.2) (.int .i64 ((rd_T34 x509001_108 x112_7).f2))) (fun _ hk => hk.2) (.int .i64 ((rd_T34 x509001_108 x112_7).f3))) (fun _ hk => ⟨hk.1.1.1, ⟨hk.1.1.2.1, ⟨hk.1.1.2.2.1, ⟨hk.1.1.2.2.2.1, ⟨hk.1.1.2.2.2.2.1, ⟨hk.1.1.2.2.2.2.2.1, hk.1.1.2.2.2.2.2.2⟩⟩⟩⟩⟩⟩))⟩, ⟨mV (by exact Kd.V_mono (Kd.V_far (p := ⟨gb557, 4, none⟩) (Kd.V_far (p := ⟨gb557, 3, none⟩) (Kd.V_far (p := ⟨gb557, 2, none⟩) (Kd.V_far (p := ⟨gb557, 1, none⟩) (Kd.V_far (p := ⟨gb557, 0, none⟩) (Kd.V_mono HO_509001.out (fun k_ hk => (⟨hk, hk.2⟩ : _ ∧ k_ ≠ gb557))) (fun _ hk => hk.2) (.int .i64 ((rd_T34 x509001_108 x112_7).f0.f0))) (fun _ hk => hk.2) (.int .i64 ((rd_T34 x509001_108 x112_7).f0.f1))) (fun _ hk => hk.2) (.int .i64 ((rd_T34 x509001_108 x112_7).f1))) (fun _ hk => hk.2) (.int .i64 ((rd_T34 x509001_108 x112_7).f2))) (fun _ hk => hk.2) (.int .i64 ((rd_T34 x509001_108 x112_7).f3))) (fun _ hk => ⟨hk.1.1.1, ⟨hk.1.1.2.1, ⟨hk.1.1.2.2.1, ⟨hk.1.1.2.2.2.1, ⟨hk.1.1.2.2.2.2.1, ⟨hk.1.1.2.2.2.2.2.1, hk.1.1.2.2.2.2.2.2⟩⟩⟩⟩⟩⟩))⟩, ⟨mV (by exact Kd.V_mono (Kd.V_far (p := ⟨gb557, 4, none⟩) (Kd.V_far (p := ⟨gb557, 3, none⟩) (Kd.V_far (p := ⟨gb557, 2, none⟩) (Kd.V_far (p := ⟨gb557, 1, none⟩) (Kd.V_far (p := ⟨gb557, 0, none⟩) (Kd.V_mono HO_509002.out (fun k_ hk => (⟨hk, hk.2⟩ : _ ∧ k_ ≠ gb557))) (fun _ hk => hk.2) (.int .i64 ((rd_T34 x509001_108 x112_7).f0.f0))) (fun _ hk => hk.2) (.int .i64 ((rd_T34 x509001_108 x112_7).f0.f1))) (fun _ hk => hk.2) (.int .i64 ((rd_T34 x509001_108 x112_7).f1))) (fun _ hk => hk.2) (.int .i64 ((rd_T34 x509001_108 x112_7).f2))) (fun _ hk => hk.2) (.int .i64 ((rd_T34 x509001_108 x112_7).f3))) (fun _ hk => ⟨hk.1.1.1, ⟨hk.1.1.2.1, ⟨hk.1.1.2.2.1, ⟨hk.1.1.2.2.2.1, ⟨hk.1.1.2.2.2.2.1, ⟨hk.1.1.2.2.2.2.2.1, hk.1.1.2.2.2.2.2.2⟩⟩⟩⟩⟩⟩))⟩, ⟨mR (by exact Kd.R_mono (Kd.R_far (p := ⟨gb557, 4, none⟩) (Kd.R_far (p := ⟨gb557, 3, none⟩) (Kd.R_far (p := ⟨gb557, 2, none⟩) (Kd.R_far (p := ⟨gb557, 1, none⟩) (Kd.R_far (p := ⟨gb557, 0, none⟩) (Kd.R_types HO_516000.out BK557.out (by decide)) (fun _ hk => hk.2) (.int .i64 ((rd_T34 x509001_108 x112_7).f0.f0))) (fun _ hk => hk.2) (.int .i64 ((rd_T34 x509001_108 x112_7).f0.f1))) (fun _ hk => hk.2) (.int .i64 ((rd_T34 x509001_108 x112_7).f1))) (fun _ hk => hk.2) (.int .i64 ((rd_T34 x509001_108 x112_7).f2))) (fun _ hk => hk.2) (.int .i64 ((rd_T34 x509001_108 x112_7).f3))) (fun _ hk => hk.1))⟩, ⟨mR (by exact Kd.R_mono (Kd.R_far (p := ⟨gb557, 4, none⟩) (Kd.R_far (p := ⟨gb557, 3, none⟩) (Kd.R_far (p := ⟨gb557, 2, none⟩) (Kd.R_far (p := ⟨gb557, 1, none⟩) (Kd.R_far (p := ⟨gb557, 0, none⟩) (Kd.R_mono HO_516001.out (fun k_ hk => (⟨hk, hk.2⟩ : _ ∧ k_ ≠ gb557))) (fun _ hk => hk.2) (.int .i64 ((rd_T34 x509001_108 x112_7).f0.f0))) (fun _ hk => hk.2) (.int .i64 ((rd_T34 x509001_108 x112_7).f0.f1))) (fun _ hk => hk.2) (.int .i64 ((rd_T34 x509001_108 x112_7).f1))) (fun _ hk => hk.2) (.int .i64 ((rd_T34 x509001_108 x112_7).f2))) (fun _ hk => hk.2) (.int .i64 ((rd_T34 x509001_108 x112_7).f3))) (fun _ hk => hk.1.1))⟩, ⟨mR (by exact Kd.R_mono (Kd.R_far (p := ⟨gb557, 4, none⟩) (Kd.R_far (p := ⟨gb557, 3, none⟩) (Kd.R_far (p := ⟨gb557, 2, none⟩) (Kd.R_far (p := ⟨gb557, 1, none⟩) (Kd.R_far (p := ⟨gb557, 0, none⟩) (Kd.R_types HO_516002.out BK557.out (by decide)) (fun _ hk => hk.2) (.int .i64 ((rd_T34 x509001_108 x112_7).f0.f0))) (fun _ hk => hk.2) (.int .i64 ((rd_T34 x509001_108 x112_7).f0.f1))) (fun _ hk => hk.2) (.int .i64 ((rd_T34 x509001_108 x112_7).f1))) (fun _ hk => hk.2) (.int .i64 ((rd_T34 x509001_108 x112_7).f2))) (fun _ hk => hk.2) (.int .i64 ((rd_T34 x509001_108 x112_7).f3))) (fun _ hk => hk.1))⟩, ⟨sB BK508⟩, ⟨sB BK509⟩, ⟨sB BK514⟩, ⟨sB BK515⟩, ⟨sW HB⟩⟩
                      rw [if_neg c155] at H
                      have c155b0 : (((rd_T34 x509001_108 x112_7).f0.f0) == x91_5) = false := beq_eq_false_iff_ne.mpr c155
                      have c155b1 : (((rd_T34 x509001_108 x112_7).f0.f0) != x91_5) = true := bne_iff_ne.mpr c155
                      have H' := Aside0.mk H
                      clear H
                      have p556 : 0 ≤ (x112_7 : Int) := dA
                      have q556 : x112_7 < (x509001_108.length : Int) := dA
                      obtain ⟨ad556, e556, hx556_0, hx556_1, hx556_2, hx556_3, hx556_4⟩ := at_T34 (Kd.V_reads' HO_110.out).2.2 x112_7 p556 q556
                      cases e556
                      replace p556 := eq_true p556
                      replace q556 := eq_true q556
                      go_wp2_with (first | ((with_reducible refine gate_dst (N := 17) rfl ?_); (try (refine gate_guard (by rfl) ?_; dsimp only)); refine bE (N := 17) (cs := #[.int .i64 0, .int .i64 0, .int .i64 0, .int .i64 0, .int .i64 0]) (t := 34) ?_; intro gb557 hg w162 hbox hb; replace HO_110 := Aside0.mk (Kd.V_below (Kd.V_elderB (sV HO_110) gb557 (Nat.le_of_eq hg.symm)) hb); replace HO_509000 := Aside0.mk (Kd.V_below (Kd.V_elderB (sV HO_509000) gb557 (Nat.le_of_eq hg.symm)) hb); replace HO_509001 := Aside0.mk (Kd.V_below (Kd.V_elderB (sV HO_509001) gb557 (Nat.le_of_eq hg.symm)) hb); replace HO_509002 := Aside0.mk (Kd.V_below (Kd.V_elderB (sV HO_509002) gb557 (Nat.le_of_eq hg.symm)) hb); replace HO_516000 := tR HO_516000 hb; replace HO_516001 := Aside0.mk (Kd.R_below (Kd.R_elderB (sR HO_516001) gb557 (Nat.le_of_eq hg.symm)) hb); replace HO_516002 := tR HO_516002 hb; have BK557 := Aside0.mk (hbox); have GW557 := gW hg HB; have GE557 := GW557; replace HB := tW HB hb; have NB508_557 := gL hg BK508; have NB557_508 := gG hg BK508; replace BK508 := tB BK508 hb; have NB509_557 := gL hg BK509; have NB557_509 := gG hg BK509; replace BK509 := tB BK509 hb; have NB514_557 := gL hg BK514; have NB557_514 := gG hg BK514; replace BK514 := tB BK514 hb; have NB515_557 := gL hg BK515; have NB557_515 := gG hg BK515; replace BK515 := tB BK515 hb; clear hb hbox hg; have hnb163 := NB557_508.out; have hnc163 := NB508_557.out; have hnb164 := NB557_509.out; have hnc164 := NB509_557.out; have hnb165 := NB557_514.out; have hnc165 := NB514_557.out; have hnb166 := NB557_515.out; have hnc166 := NB515_557.out; have hcz167_0 : w162.cell? ⟨gb557, 0, none⟩ = some (.int .i64 0) := bt BK557 0; have hcz167_1 : w162.cell? ⟨gb557, 1, none⟩ = some (.int .i64 0) := bt BK557 1; have hcz167_2 : w162.cell? ⟨gb557, 2, none⟩ = some (.int .i64 0) := bt BK557 2; have hcz167_3 : w162.cell? ⟨gb557, 3, none⟩ = some (.int .i64 0) := bt BK557 3; have hcz167_4 : w162.cell? ⟨gb557, 4, none⟩ = some (.int .i64 0) := bt BK557 4; have hfz167_0 := blk_frozen BK557.out 0; have hfz167_1 := blk_frozen BK557.out 1; have hfz167_2 := blk_frozen BK557.out 2; have hfz167_3 := blk_frozen BK557.out 3; have hfz167_4 := blk_frozen BK557.out 4))
                      go_roundg k7
                      case measure => have := HJ4.out; have := HK2.out; have := HJ31.out; have := HJ108.out; have := HK5.out; have := HK6.out; have := HK7.out; omega
                      case rel => exact ⟨(x13_7), (wrap64 (x112_7 + 1)), aR, aR, H', ⟨by have := HJ4.out; have := HK2.out; have := HJ31.out; have := HJ108.out; have := HK5.out; have := HK6.out; have := HK7.out; omega⟩, ⟨mV (by exact Kd.V_mono (Kd.V_far (p := ⟨gb557, 4, none⟩) (Kd.V_far (p := ⟨gb557, 3, none⟩) (Kd.V_far (p := ⟨gb557, 2, none⟩) (Kd.V_far (p := ⟨gb557, 1, none⟩) (Kd.V_far (p := ⟨gb557, 0, none⟩) (Kd.V_mono HO_110.out (fun k_ hk => (⟨hk, hk.2⟩ : _ ∧ k_ ≠ gb557))) (fun _ hk => hk.2) (.int .i64 ((rd_T34 x509001_108 x112_7).f0.f0))) (fun _ hk => hk.2) (.int .i64 ((rd_T34 x509001_108 x112_7).f0.f1))) (fun _ hk => hk.2) (.int .i64 ((rd_T34 x509001_108 x112_7).f1))) (fun _ hk => hk.2) (.int .i64 ((rd_T34 x509001_108 x112_7).f2))) (fun _ hk => hk.2) (.int .i64 ((rd_T34 x509001_108 x112_7).f3))) (fun _ hk => ⟨hk.1.1.1, ⟨hk.1.1.2.1, ⟨hk.1.1.2.2.1, ⟨hk.1.1.2.2.2.1, ⟨hk.1.1.2.2.2.2.1, ⟨hk.1.1.2.2.2.2.2.1, hk.1.1.2.2.2.2.2.2⟩⟩⟩⟩⟩⟩))⟩, ⟨mV (by exact Kd.V_mono (Kd.V_far (p := ⟨gb557, 4, none⟩) (Kd.V_far (p := ⟨gb557, 3, none⟩) (Kd.V_far (p := ⟨gb557, 2, none⟩) (Kd.V_far (p := ⟨gb557, 1, none⟩) (Kd.V_far (p := ⟨gb557, 0, none⟩) (Kd.V_mono HO_509000.out (fun k_ hk => (⟨hk, hk.2⟩ : _ ∧ k_ ≠ gb557))) (fun _ hk => hk.2) (.int .i64 ((rd_T34 x509001_108 x112_7).f0.f0))) (fun _ hk => hk.2) (.int .i64 ((rd_T34 x509001_108 x112_7).f0.f1))) (fun _ hk => hk.2) (.int .i64 ((rd_T34 x509001_108 x112_7).f1))) (fun _ hk => hk.2) (.int .i64 ((rd_T34 x509001_108 x112_7).f2))) (fun _ hk => hk.2) (.int .i64 ((rd_T34 x509001_108 x112_7).f3))) (fun _ hk => ⟨hk.1.1.1, ⟨hk.1.1.2.1, ⟨hk.1.1.2.2.1, ⟨hk.1.1.2.2.2.1, ⟨hk.1.1.2.2.2.2.1, ⟨hk.1.1.2.2.2.2.2.1, hk.1.1.2.2.2.2.2.2⟩⟩⟩⟩⟩⟩))⟩, ⟨mV (by exact Kd.V_mono (Kd.V_far (p := ⟨gb557, 4, none⟩) (Kd.V_far (p := ⟨gb557, 3, none⟩) (Kd.V_far (p := ⟨gb557, 2, none⟩) (Kd.V_far (p := ⟨gb557, 1, none⟩) (Kd.V_far (p := ⟨gb557, 0, none⟩) (Kd.V_mono HO_509001.out (fun k_ hk => (⟨hk, hk.2⟩ : _ ∧ k_ ≠ gb557))) (fun _ hk => hk.2) (.int .i64 ((rd_T34 x509001_108 x112_7).f0.f0))) (fun _ hk => hk.2) (.int .i64 ((rd_T34 x509001_108 x112_7).f0.f1))) (fun _ hk => hk.2) (.int .i64 ((rd_T34 x509001_108 x112_7).f1))) (fun _ hk => hk.2) (.int .i64 ((rd_T34 x509001_108 x112_7).f2))) (fun _ hk => hk.2) (.int .i64 ((rd_T34 x509001_108 x112_7).f3))) (fun _ hk => ⟨hk.1.1.1, ⟨hk.1.1.2.1, ⟨hk.1.1.2.2.1, ⟨hk.1.1.2.2.2.1, ⟨hk.1.1.2.2.2.2.1, ⟨hk.1.1.2.2.2.2.2.1, hk.1.1.2.2.2.2.2.2⟩⟩⟩⟩⟩⟩))⟩, ⟨mV (by exact Kd.V_mono (Kd.V_far (p := ⟨gb557, 4, none⟩) (Kd.V_far (p := ⟨gb557, 3, none⟩) (Kd.V_far (p := ⟨gb557, 2, none⟩) (Kd.V_far (p := ⟨gb557, 1, none⟩) (Kd.V_far (p := ⟨gb557, 0, none⟩) (Kd.V_mono HO_509002.out (fun k_ hk => (⟨hk, hk.2⟩ : _ ∧ k_ ≠ gb557))) (fun _ hk => hk.2) (.int .i64 ((rd_T34 x509001_108 x112_7).f0.f0))) (fun _ hk => hk.2) (.int .i64 ((rd_T34 x509001_108 x112_7).f0.f1))) (fun _ hk => hk.2) (.int .i64 ((rd_T34 x509001_108 x112_7).f1))) (fun _ hk => hk.2) (.int .i64 ((rd_T34 x509001_108 x112_7).f2))) (fun _ hk => hk.2) (.int .i64 ((rd_T34 x509001_108 x112_7).f3))) (fun _ hk => ⟨hk.1.1.1, ⟨hk.1.1.2.1, ⟨hk.1.1.2.2.1, ⟨hk.1.1.2.2.2.1, ⟨hk.1.1.2.2.2.2.1, ⟨hk.1.1.2.2.2.2.2.1, hk.1.1.2.2.2.2.2.2⟩⟩⟩⟩⟩⟩))⟩, ⟨mR (by exact Kd.R_mono (Kd.R_far (p := ⟨gb557, 4, none⟩) (Kd.R_far (p := ⟨gb557, 3, none⟩) (Kd.R_far (p := ⟨gb557, 2, none⟩) (Kd.R_far (p := ⟨gb557, 1, none⟩) (Kd.R_far (p := ⟨gb557, 0, none⟩) (Kd.R_types HO_516000.out BK557.out (by decide)) (fun _ hk => hk.2) (.int .i64 ((rd_T34 x509001_108 x112_7).f0.f0))) (fun _ hk => hk.2) (.int .i64 ((rd_T34 x509001_108 x112_7).f0.f1))) (fun _ hk => hk.2) (.int .i64 ((rd_T34 x509001_108 x112_7).f1))) (fun _ hk => hk.2) (.int .i64 ((rd_T34 x509001_108 x112_7).f2))) (fun _ hk => hk.2) (.int .i64 ((rd_T34 x509001_108 x112_7).f3))) (fun _ hk => hk.1))⟩, ⟨mR (by exact Kd.R_mono (Kd.R_far (p := ⟨gb557, 4, none⟩) (Kd.R_far (p := ⟨gb557, 3, none⟩) (Kd.R_far (p := ⟨gb557, 2, none⟩) (Kd.R_far (p := ⟨gb557, 1, none⟩) (Kd.R_far (p := ⟨gb557, 0, none⟩) (Kd.R_mono HO_516001.out (fun k_ hk => (⟨hk, hk.2⟩ : _ ∧ k_ ≠ gb557))) (fun _ hk => hk.2) (.int .i64 ((rd_T34 x509001_108 x112_7).f0.f0))) (fun _ hk => hk.2) (.int .i64 ((rd_T34 x509001_108 x112_7).f0.f1))) (fun _ hk => hk.2) (.int .i64 ((rd_T34 x509001_108 x112_7).f1))) (fun _ hk => hk.2) (.int .i64 ((rd_T34 x509001_108 x112_7).f2))) (fun _ hk => hk.2) (.int .i64 ((rd_T34 x509001_108 x112_7).f3))) (fun _ hk => hk.1.1))⟩, ⟨mR (by exact Kd.R_mono (Kd.R_far (p := ⟨gb557, 4, none⟩) (Kd.R_far (p := ⟨gb557, 3, none⟩) (Kd.R_far (p := ⟨gb557, 2, none⟩) (Kd.R_far (p := ⟨gb557, 1, none⟩) (Kd.R_far (p := ⟨gb557, 0, none⟩) (Kd.R_types HO_516002.out BK557.out (by decide)) (fun _ hk => hk.2) (.int .i64 ((rd_T34 x509001_108 x112_7).f0.f0))) (fun _ hk => hk.2) (.int .i64 ((rd_T34 x509001_108 x112_7).f0.f1))) (fun _ hk => hk.2) (.int .i64 ((rd_T34 x509001_108 x112_7).f1))) (fun _ hk => hk.2) (.int .i64 ((rd_T34 x509001_108 x112_7).f2))) (fun _ hk => hk.2) (.int .i64 ((rd_T34 x509001_108 x112_7).f3))) (fun _ hk => hk.1))⟩, ⟨sB BK508⟩, ⟨sB BK509⟩, ⟨sB BK514⟩, ⟨sB BK515⟩, ⟨sW HB⟩⟩
                     rw [if_neg c154] at H
                     exact absurd H (by simp)
                    rw [if_neg c153] at H
                    exact absurd H (by simp)
                   rw [if_neg c152] at H
                   have c152b0 : decide (x112_7 < (x509001_108.length : Int)) = false := decide_eq_false c152
                   clear c152
                   by_cases c168 : x13_7 > 1
                   ·rw [if_pos c168] at H
                    have c168b0 : decide (1 < x13_7) = true := decide_eq_true c168
                    clear c168
                    exact absurd (Option.some.inj H) (by rw [HRT.out]; decide)
                   rw [if_neg c168] at H
                   have c168b0 : decide (1 < x13_7) = false := decide_eq_false c168
                   clear c168
                   replace H := Option.bind_eq_some_iff.mp H
                   obtain ⟨t558, A1690, H⟩ := H
                   replace H : (if t558 = true then (if x13_7 = 1 then (slotmeshlaw12_CellsOnce.l1 k7 t510 l2 (l2.length : Int) x36_2 a1_1 (wrap64 (x91_5 + 1)) x509000_108 x509001_108 x509002_108 a1_0 a1_1) else (some false)) else (if x13_7 = 1 then (some false) else (slotmeshlaw12_CellsOnce.l1 k7 t510 l2 (l2.length : Int) x36_2 a1_1 (wrap64 (x91_5 + 1)) x509000_108 x509001_108 x509002_108 a1_0 a1_1))) = some r := H
                   have A169 := Aside0.mk A1690
                   clear A1690
                   by_cases c170 : t558 = true
                   ·subst c170
                    have H1 : (if x13_7 = 1 then (slotmeshlaw12_CellsOnce.l1 k7 t510 l2 (l2.length : Int) x36_2 a1_1 (wrap64 (x91_5 + 1)) x509000_108 x509001_108 x509002_108 a1_0 a1_1) else (some false)) = some r := by rw [if_pos rfl] at H; exact H
                    clear H
                    have H := H1
                    clear H1
                    by_cases c171 : x13_7 = 1
                    ·rw [if_pos c171] at H
                     have c171b0 : (x13_7 == 1) = true := beq_iff_eq.mpr c171
                     have c171b1 : (x13_7 != 1) = false := bne_eq_false_iff_eq.mpr c171
                     clear c171
                     have H' := Aside0.mk H
                     clear H
                     have hnb172 := NB508_509.out
                     have hnc172 := NB509_508.out
                     have hnb173 := NB508_514.out
                     have hnc173 := NB514_508.out
                     have hnb174 := NB508_515.out
                     have hnc174 := NB515_508.out
                     have hcz175_0 : wr.cell? ⟨gb508, 0, none⟩ = some (.slice Ao130 x509000_108.length co130) := bt BK508 0
                     have hcz175_1 : wr.cell? ⟨gb508, 1, none⟩ = some (.slice Ao151 x509001_108.length co151) := bt BK508 1
                     have hcz175_2 : wr.cell? ⟨gb508, 2, none⟩ = some (u509002) := bt BK508 2
                     have hfz175_0 := blk_frozen BK508.out 0
                     have hfz175_1 := blk_frozen BK508.out 1
                     have hfz175_2 := blk_frozen BK508.out 2
                     obtain ⟨Ao176, co176, eo176⟩ := Kd.V_slice HO_509002.out
                     subst eo176
                     go_wp2_with (first | (go_at_call 19; (with_reducible refine (cells_Busy.calls _ _ x509000_108 _ _ x509001_108 _ _ x509002_108 x91_5 true _ ?side1 ?side2 ?side3 ?side4 ?side5 ?side6 A169.out).mono ?_); (case side1 => exact sC (Kd.V_reads' HO_509000.out).2.2); (case side2 => exact (Kd.V_reads' HO_509000.out).2.1); (case side3 => exact sC (Kd.V_reads' HO_509001.out).2.2); (case side4 => exact (Kd.V_reads' HO_509001.out).2.1); (case side5 => exact sC (Kd.V_reads' HO_509002.out).2.2); (case side6 => exact (Kd.V_reads' HO_509002.out).2.1); rintro e w177 ⟨rfl, hb⟩; replace HO_110 := tV HO_110 hb; replace HO_509000 := tV HO_509000 hb; replace HO_509001 := tV HO_509001 hb; replace HO_509002 := tV HO_509002 hb; replace HO_516000 := tR HO_516000 hb; replace HO_516001 := tR HO_516001 hb; replace HO_516002 := tR HO_516002 hb; replace BK508 := tB BK508 hb; replace BK509 := tB BK509 hb; replace BK514 := tB BK514 hb; replace BK515 := tB BK515 hb; replace HB := tW HB hb; (try clear hb); (try clear hb2); (try clear hk); (try clear hi)))
                     go_roundg k7
                     case measure => have := HJ4.out; have := HK2.out; have := HJ31.out; have := HJ108.out; have := HK5.out; have := HK6.out; have := HK7.out; omega
                     case rel => exact ⟨(wrap64 (x91_5 + 1)), aR, H', ⟨by have := HJ4.out; have := HK2.out; have := HJ31.out; have := HJ108.out; have := HK5.out; have := HK6.out; have := HK7.out; omega⟩, ⟨sV HO_509000⟩, ⟨sV HO_509001⟩, ⟨sV HO_509002⟩, ⟨sR HO_516000⟩, ⟨sR HO_516001⟩, ⟨sR HO_516002⟩, ⟨sB BK508⟩, ⟨sB BK509⟩, ⟨sB BK514⟩, ⟨sB BK515⟩, ⟨sW HB⟩⟩
                    rw [if_neg c171] at H
                    have c171b0 : (x13_7 == 1) = false := beq_eq_false_iff_ne.mpr c171
                    have c171b1 : (x13_7 != 1) = true := bne_iff_ne.mpr c171
                    exact absurd (Option.some.inj H) (by rw [HRT.out]; decide)
                   replace c170 := Bool.eq_false_iff.mpr c170
                   subst c170
                   have H1 : (if x13_7 = 1 then (some false) else (slotmeshlaw12_CellsOnce.l1 k7 t510 l2 (l2.length : Int) x36_2 a1_1 (wrap64 (x91_5 + 1)) x509000_108 x509001_108 x509002_108 a1_0 a1_1)) = some r := by rw [if_neg (show ¬ (false = true) by decide)] at H; exact H
                   clear H
                   have H := H1
                   clear H1
                   by_cases c178 : x13_7 = 1
                   ·rw [if_pos c178] at H
                    have c178b0 : (x13_7 == 1) = true := beq_iff_eq.mpr c178
                    have c178b1 : (x13_7 != 1) = false := bne_eq_false_iff_eq.mpr c178
                    clear c178
                    exact absurd (Option.some.inj H) (by rw [HRT.out]; decide)
                   rw [if_neg c178] at H
                   have c178b0 : (x13_7 == 1) = false := beq_eq_false_iff_ne.mpr c178
                   have c178b1 : (x13_7 != 1) = true := bne_iff_ne.mpr c178
                   have H' := Aside0.mk H
                   clear H
                   have hnb179 := NB508_509.out
                   have hnc179 := NB509_508.out
                   have hnb180 := NB508_514.out
                   have hnc180 := NB514_508.out
                   have hnb181 := NB508_515.out
                   have hnc181 := NB515_508.out
                   have hcz182_0 : wr.cell? ⟨gb508, 0, none⟩ = some (.slice Ao130 x509000_108.length co130) := bt BK508 0
                   have hcz182_1 : wr.cell? ⟨gb508, 1, none⟩ = some (.slice Ao151 x509001_108.length co151) := bt BK508 1
                   have hcz182_2 : wr.cell? ⟨gb508, 2, none⟩ = some (u509002) := bt BK508 2
                   have hfz182_0 := blk_frozen BK508.out 0
                   have hfz182_1 := blk_frozen BK508.out 1
                   have hfz182_2 := blk_frozen BK508.out 2
                   obtain ⟨Ao183, co183, eo183⟩ := Kd.V_slice HO_509002.out
                   subst eo183
                   go_wp2_with (first | (go_at_call 19; (with_reducible refine (cells_Busy.calls _ _ x509000_108 _ _ x509001_108 _ _ x509002_108 x91_5 false _ ?side1 ?side2 ?side3 ?side4 ?side5 ?side6 A169.out).mono ?_); (case side1 => exact sC (Kd.V_reads' HO_509000.out).2.2); (case side2 => exact (Kd.V_reads' HO_509000.out).2.1); (case side3 => exact sC (Kd.V_reads' HO_509001.out).2.2); (case side4 => exact (Kd.V_reads' HO_509001.out).2.1); (case side5 => exact sC (Kd.V_reads' HO_509002.out).2.2); (case side6 => exact (Kd.V_reads' HO_509002.out).2.1); rintro e w184 ⟨rfl, hb⟩; replace HO_110 := tV HO_110 hb; replace HO_509000 := tV HO_509000 hb; replace HO_509001 := tV HO_509001 hb; replace HO_509002 := tV HO_509002 hb; replace HO_516000 := tR HO_516000 hb; replace HO_516001 := tR HO_516001 hb; replace HO_516002 := tR HO_516002 hb; replace BK508 := tB BK508 hb; replace BK509 := tB BK509 hb; replace BK514 := tB BK514 hb; replace BK515 := tB BK515 hb; replace HB := tW HB hb; (try clear hb); (try clear hb2); (try clear hk); (try clear hi)))
                   go_roundg k7
                   case measure => have := HJ4.out; have := HK2.out; have := HJ31.out; have := HJ108.out; have := HK5.out; have := HK6.out; have := HK7.out; omega
                   case rel => exact ⟨(wrap64 (x91_5 + 1)), aR, H', ⟨by have := HJ4.out; have := HK2.out; have := HJ31.out; have := HJ108.out; have := HK5.out; have := HK6.out; have := HK7.out; omega⟩, ⟨sV HO_509000⟩, ⟨sV HO_509001⟩, ⟨sV HO_509002⟩, ⟨sR HO_516000⟩, ⟨sR HO_516001⟩, ⟨sR HO_516002⟩, ⟨sB BK508⟩, ⟨sB BK509⟩, ⟨sB BK514⟩, ⟨sB BK515⟩, ⟨sW HB⟩⟩
              rw [if_neg c125] at H
              have c125b0 : decide (x91_5 < a1_1) = false := decide_eq_false c125
              clear c125
              have H' := Aside0.mk H
              clear H
              go_wp2
              go_roundg k5
              case measure => have := HJ4.out; have := HK2.out; have := HJ31.out; have := HJ108.out; have := HK5.out; omega
              case rel => exact ⟨(wrap64 (x36_2 + 1)), (x509000_108), (x509001_108), (x509002_108), (u509000), (u509001), (u509002), aR, H', ⟨by have := HJ4.out; have := HK2.out; have := HJ31.out; have := HJ108.out; have := HK5.out; omega⟩, ⟨mV (by exact Kd.V_mono HO_509000.out (fun _ hk => ⟨hk.1, ⟨hk.2.2.2.1, hk.2.2.2.2.1⟩⟩))⟩, ⟨mV (by exact Kd.V_mono HO_509001.out (fun _ hk => ⟨hk.1, ⟨hk.2.2.2.1, hk.2.2.2.2.1⟩⟩))⟩, ⟨mV (by exact Kd.V_mono HO_509002.out (fun _ hk => ⟨hk.1, ⟨hk.2.2.2.1, hk.2.2.2.2.1⟩⟩))⟩, ⟨sB BK508⟩, ⟨sB BK509⟩, ⟨sW HB⟩⟩
       rw [if_neg c31] at H
       exact absurd H (by simp)
      rw [if_neg c30] at H
      exact absurd H (by simp)
     rw [if_neg c29] at H
     have c29b0 : decide (x36_2 < (l2.length : Int)) = false := decide_eq_false c29
     clear c29
     obtain rfl := Option.some.inj H
     go_wp2
     go_ret
     exact ⟨aE, sW HB⟩
end Go.Proofs.Ytbpfbdljcdcgnaa.Px
