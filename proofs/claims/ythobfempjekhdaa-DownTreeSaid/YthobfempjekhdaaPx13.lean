/- Walks of functions of this seat, written by a program of this workplace out of the translation. -/
import Derived.Test.YthobfempjekhdaaPx0
import Derived.Test.YthobfempjekhdaaPx3
import Derived.Test.YthobfempjekhdaaPx4
import Derived.Test.YthobfempjekhdaaPx5
namespace Go.Proofs.Ythobfempjekhdaa.Px
open Go.RowKit Go.Proofs.YthobfempjekhdaaW.PrintWords Go.Proofs.YthobfempjekhdaaW.PrintLast Go.Proofs.YthobfempjekhdaaW.PrintMore
attribute [local go_sem] max2_int min2_int max_two min_two max_three min_three max_four min_four   -- for this text's walks alone
set_option linter.unusedVariables false
set_option linter.unusedSimpArgs false

/-! ### slotmeshlaw21_DownTree: function 6 -/
mutual
def slotmeshlaw21_DownTree.j0 : Nat → List Int → List Int → Int → Bool → Int → Bool → Option (Bool)
  | 0, _, _, _, _, _, _ => none
  | k + 1, x0, x1, x2, x7, x8, x40 => if x40 = true then (some x7) else (if 0 ≤ x8 then (if (x8 : Int).toNat ≤ 35184372088832 then (slotmeshlaw21_DownTree.l0 k x0 x1 x2 x7 x8 (List.replicate (x8 : Int).toNat 0) 1) else (none)) else (none))
def slotmeshlaw21_DownTree.l0 : Nat → List Int → List Int → Int → Bool → Int → List Int → Int → Option (Bool)
  | 0, _, _, _, _, _, _, _ => none
  | k + 1, x0, x1, x2, x7, x8, x9, x10 => if x10 < x8 then (if 0 ≤ (wrap64 (x10 - 1)) then (if (wrap64 (x10 - 1)) < (x0.length : Int) then (if x10 = 0 then (none) else (if 0 ≤ x10 then (if x10 < (x9.length : Int) then (slotmeshlaw21_DownTree.l0 k x0 x1 x2 x7 x8 (x9.set (x10 : Int).toNat (Int.tmod (wrap64 (rd x0 (wrap64 (x10 - 1)))) x10)) (wrap64 (x10 + 1))) else (none)) else (none))) else (none)) else (none)) else (if 0 ≤ x8 then (if (x8 : Int).toNat ≤ 11728124029610 then (slotmeshlaw21_DownTree.l1 k x1 x2 x7 x8 x9 (List.replicate (x8 : Int).toNat []) (wrap64 (x8 - 1))) else (none)) else (none))
def slotmeshlaw21_DownTree.l1 : Nat → List Int → Int → Bool → Int → List Int → List (List (S35)) → Int → Option (Bool)
  | 0, _, _, _, _, _, _, _ => none
  | k + 1, x1, x2, x7, x8, x9, x11, x12 => if x12 > 0 then (if 0 ≤ x12 then (if x12 < (x9.length : Int) then (if 0 ≤ (rd x9 x12) then (if (rd x9 x12) < (x11.length : Int) then (if x12 < (x1.length : Int) then (if x12 < (x11.length : Int) then ((down_Tell.f k (rd_L2 x11 x12)).bind fun t331 => ((down_Learn.f k (rd_L2 x11 (rd x9 x12)) x12 (wrap64 (rd x1 x12)) t331 x2).bind fun bt334 => (if bt334.2 = 0 then (slotmeshlaw21_DownTree.l1 k x1 x2 x7 x8 x9 (x11.set ((rd x9 x12) : Int).toNat bt334.1) (wrap64 (x12 - 1))) else (some false)))) else (none)) else (none)) else (none)) else (none)) else (none)) else (none)) else (slotmeshlaw21_DownTree.l2 k x7 x8 x9 x11 x8 0)
def slotmeshlaw21_DownTree.l2 : Nat → Bool → Int → List Int → List (List (S35)) → Int → Int → Option (Bool)
  | 0, _, _, _, _, _, _ => none
  | k + 1, x7, x8, x9, x11, x100, x101 => if x101 < x100 then (if 0 ≤ x8 then (if (x8 : Int).toNat ≤ 281474976710656 then (slotmeshlaw21_DownTree.l3 k x7 x8 x9 x11 x101 (List.replicate (x8 : Int).toNat false) x101 x100 x101) else (none)) else (none)) else (some x7)
def slotmeshlaw21_DownTree.l3 : Nat → Bool → Int → List Int → List (List (S35)) → Int → List Bool → Int → Int → Int → Option (Bool)
  | 0, _, _, _, _, _, _, _, _, _ => none
  | k + 1, x7, x8, x9, x11, x15, x16, x17, x100, x101 => if x17 > 0 then (if 0 ≤ x17 then (if x17 < (x9.length : Int) then (if 0 ≤ (rd x9 x17) then (if (rd x9 x17) < (x16.length : Int) then (slotmeshlaw21_DownTree.l3 k x7 x8 x9 x11 x15 (x16.set ((rd x9 x17) : Int).toNat true) (rd x9 x17) x100 x101) else (none)) else (none)) else (none)) else (none)) else (slotmeshlaw21_DownTree.l4 k x7 x8 x9 x11 x15 x16 x100 x101 x8 0)
def slotmeshlaw21_DownTree.l4 : Nat → Bool → Int → List Int → List (List (S35)) → Int → List Bool → Int → Int → Int → Int → Option (Bool)
  | 0, _, _, _, _, _, _, _, _, _, _ => none
  | k + 1, x7, x8, x9, x11, x15, x16, x100, x101, x119, x120 => if x120 < x119 then (if 0 ≤ x120 then (if x120 < (x11.length : Int) then ((down_Next.f k (rd_L2 x11 x120) x15).bind fun bt347 => (if x120 < (x16.length : Int) then (if bt347.2 = true then (if rdOf false x16 x120 = true then (if bt347.1 ≤ 0 then (some false) else (if bt347.1 ≥ x8 then (some false) else (if 0 ≤ bt347.1 then (if bt347.1 < (x9.length : Int) then (if (rd x9 bt347.1) = x120 then (if bt347.1 = x15 then (slotmeshlaw21_DownTree.l4 k x7 x8 x9 x11 x15 x16 x100 x101 x119 (wrap64 (x120 + 1))) else (if bt347.1 < (x16.length : Int) then (if rdOf false x16 bt347.1 = true then (slotmeshlaw21_DownTree.l4 k x7 x8 x9 x11 x15 x16 x100 x101 x119 (wrap64 (x120 + 1))) else (some false)) else (none))) else (some false)) else (none)) else (none)))) else (some false)) else (if rdOf false x16 x120 = true then (some false) else (slotmeshlaw21_DownTree.l4 k x7 x8 x9 x11 x15 x16 x100 x101 x119 (wrap64 (x120 + 1))))) else (none))) else (none)) else (none)) else (slotmeshlaw21_DownTree.l2 k x7 x8 x9 x11 x100 (wrap64 (x101 + 1)))
end
def slotmeshlaw21_DownTree.f (k : Nat) (l0 : List Int) (l1 : List Int) (a2 : Int) : Option (Bool) := (slotmeshlaw21_head.f).bind fun t318 => (if (wrap64 ((l0.length : Int) + 1)) > 20 then (slotmeshlaw21_DownTree.j0 k l0 l1 a2 t318 (wrap64 ((l0.length : Int) + 1)) true) else (if (l1.length : Int) < (wrap64 ((l0.length : Int) + 1)) then (slotmeshlaw21_DownTree.j0 k l0 l1 a2 t318 (wrap64 ((l0.length : Int) + 1)) true) else (if a2 < 0 then (slotmeshlaw21_DownTree.j0 k l0 l1 a2 t318 (wrap64 ((l0.length : Int) + 1)) true) else (slotmeshlaw21_DownTree.j0 k l0 l1 a2 t318 (wrap64 ((l0.length : Int) + 1)) (decide (a2 > 999999997))))))
theorem slotmeshlaw21_DownTree.mono_l : ∀ k, (∀ y0 y1 y2 y3 y4 y5, LeO (slotmeshlaw21_DownTree.j0 k y0 y1 y2 y3 y4 y5) (slotmeshlaw21_DownTree.j0 (k + 1) y0 y1 y2 y3 y4 y5)) ∧ (∀ y0 y1 y2 y3 y4 y5 y6, LeO (slotmeshlaw21_DownTree.l0 k y0 y1 y2 y3 y4 y5 y6) (slotmeshlaw21_DownTree.l0 (k + 1) y0 y1 y2 y3 y4 y5 y6)) ∧ (∀ y0 y1 y2 y3 y4 y5 y6, LeO (slotmeshlaw21_DownTree.l1 k y0 y1 y2 y3 y4 y5 y6) (slotmeshlaw21_DownTree.l1 (k + 1) y0 y1 y2 y3 y4 y5 y6)) ∧ (∀ y0 y1 y2 y3 y4 y5, LeO (slotmeshlaw21_DownTree.l2 k y0 y1 y2 y3 y4 y5) (slotmeshlaw21_DownTree.l2 (k + 1) y0 y1 y2 y3 y4 y5)) ∧ (∀ y0 y1 y2 y3 y4 y5 y6 y7 y8, LeO (slotmeshlaw21_DownTree.l3 k y0 y1 y2 y3 y4 y5 y6 y7 y8) (slotmeshlaw21_DownTree.l3 (k + 1) y0 y1 y2 y3 y4 y5 y6 y7 y8)) ∧ (∀ y0 y1 y2 y3 y4 y5 y6 y7 y8 y9, LeO (slotmeshlaw21_DownTree.l4 k y0 y1 y2 y3 y4 y5 y6 y7 y8 y9) (slotmeshlaw21_DownTree.l4 (k + 1) y0 y1 y2 y3 y4 y5 y6 y7 y8 y9))
  | 0 => ⟨fun _ _ _ _ _ _ r h => by simp [slotmeshlaw21_DownTree.j0] at h, fun _ _ _ _ _ _ _ r h => by simp [slotmeshlaw21_DownTree.l0] at h, fun _ _ _ _ _ _ _ r h => by simp [slotmeshlaw21_DownTree.l1] at h, fun _ _ _ _ _ _ r h => by simp [slotmeshlaw21_DownTree.l2] at h, fun _ _ _ _ _ _ _ _ _ r h => by simp [slotmeshlaw21_DownTree.l3] at h, fun _ _ _ _ _ _ _ _ _ _ r h => by simp [slotmeshlaw21_DownTree.l4] at h⟩
  | k + 1 => by
    obtain ⟨ih0, ih1, ih2, ih3, ih4, ih5⟩ := slotmeshlaw21_DownTree.mono_l k
    refine ⟨?_, ?_, ?_, ?_, ?_, ?_⟩
    · intro y0 y1 y2 y3 y4 y5
      unfold slotmeshlaw21_DownTree.j0
      repeat' first
      | (with_reducible exact ih0 _ _ _ _ _ _)
      | (with_reducible exact ih1 _ _ _ _ _ _ _)
      | (with_reducible exact ih2 _ _ _ _ _ _ _)
      | (with_reducible exact ih3 _ _ _ _ _ _)
      | (with_reducible exact ih4 _ _ _ _ _ _ _ _ _)
      | (with_reducible exact ih5 _ _ _ _ _ _ _ _ _ _)
      | (with_reducible exact down_Learn.mono _ _ _ _ _ _)
      | (with_reducible exact down_Next.mono _ _ _)
      | (with_reducible exact down_Tell.mono _ _)
      | (with_reducible exact LeO.refl _)
      | (with_reducible exact LeO.none _)
      | (with_reducible refine LeO.ite ?_ ?_)
      | (with_reducible refine LeO.bind ?_ (fun _ => ?_))
      | exact ih0 _ _ _ _ _ _
      | exact ih1 _ _ _ _ _ _ _
      | exact ih2 _ _ _ _ _ _ _
      | exact ih3 _ _ _ _ _ _
      | exact ih4 _ _ _ _ _ _ _ _ _
      | exact ih5 _ _ _ _ _ _ _ _ _ _
      | exact down_Learn.mono _ _ _ _ _ _
      | exact down_Next.mono _ _ _
      | exact down_Tell.mono _ _
      | exact LeO.none _
      | refine LeO.ite ?_ ?_
      | refine LeO.bind ?_ (fun _ => ?_)
    · intro y0 y1 y2 y3 y4 y5 y6
      unfold slotmeshlaw21_DownTree.l0
      repeat' first
      | (with_reducible exact ih0 _ _ _ _ _ _)
      | (with_reducible exact ih1 _ _ _ _ _ _ _)
      | (with_reducible exact ih2 _ _ _ _ _ _ _)
      | (with_reducible exact ih3 _ _ _ _ _ _)
      | (with_reducible exact ih4 _ _ _ _ _ _ _ _ _)
      | (with_reducible exact ih5 _ _ _ _ _ _ _ _ _ _)
      | (with_reducible exact down_Learn.mono _ _ _ _ _ _)
      | (with_reducible exact down_Next.mono _ _ _)
      | (with_reducible exact down_Tell.mono _ _)
      | (with_reducible exact LeO.refl _)
      | (with_reducible exact LeO.none _)
      | (with_reducible refine LeO.ite ?_ ?_)
      | (with_reducible refine LeO.bind ?_ (fun _ => ?_))
      | exact ih0 _ _ _ _ _ _
      | exact ih1 _ _ _ _ _ _ _
      | exact ih2 _ _ _ _ _ _ _
      | exact ih3 _ _ _ _ _ _
      | exact ih4 _ _ _ _ _ _ _ _ _
      | exact ih5 _ _ _ _ _ _ _ _ _ _
      | exact down_Learn.mono _ _ _ _ _ _
      | exact down_Next.mono _ _ _
      | exact down_Tell.mono _ _
      | exact LeO.none _
      | refine LeO.ite ?_ ?_
      | refine LeO.bind ?_ (fun _ => ?_)
    · intro y0 y1 y2 y3 y4 y5 y6
      unfold slotmeshlaw21_DownTree.l1
      repeat' first
      | (with_reducible exact ih0 _ _ _ _ _ _)
      | (with_reducible exact ih1 _ _ _ _ _ _ _)
      | (with_reducible exact ih2 _ _ _ _ _ _ _)
      | (with_reducible exact ih3 _ _ _ _ _ _)
      | (with_reducible exact ih4 _ _ _ _ _ _ _ _ _)
      | (with_reducible exact ih5 _ _ _ _ _ _ _ _ _ _)
      | (with_reducible exact down_Learn.mono _ _ _ _ _ _)
      | (with_reducible exact down_Next.mono _ _ _)
      | (with_reducible exact down_Tell.mono _ _)
      | (with_reducible exact LeO.refl _)
      | (with_reducible exact LeO.none _)
      | (with_reducible refine LeO.ite ?_ ?_)
      | (with_reducible refine LeO.bind ?_ (fun _ => ?_))
      | exact ih0 _ _ _ _ _ _
      | exact ih1 _ _ _ _ _ _ _
      | exact ih2 _ _ _ _ _ _ _
      | exact ih3 _ _ _ _ _ _
      | exact ih4 _ _ _ _ _ _ _ _ _
      | exact ih5 _ _ _ _ _ _ _ _ _ _
      | exact down_Learn.mono _ _ _ _ _ _
      | exact down_Next.mono _ _ _
      | exact down_Tell.mono _ _
      | exact LeO.none _
      | refine LeO.ite ?_ ?_
      | refine LeO.bind ?_ (fun _ => ?_)
    · intro y0 y1 y2 y3 y4 y5
      unfold slotmeshlaw21_DownTree.l2
      repeat' first
      | (with_reducible exact ih0 _ _ _ _ _ _)
      | (with_reducible exact ih1 _ _ _ _ _ _ _)
      | (with_reducible exact ih2 _ _ _ _ _ _ _)
      | (with_reducible exact ih3 _ _ _ _ _ _)
      | (with_reducible exact ih4 _ _ _ _ _ _ _ _ _)
      | (with_reducible exact ih5 _ _ _ _ _ _ _ _ _ _)
      | (with_reducible exact down_Learn.mono _ _ _ _ _ _)
      | (with_reducible exact down_Next.mono _ _ _)
      | (with_reducible exact down_Tell.mono _ _)
      | (with_reducible exact LeO.refl _)
      | (with_reducible exact LeO.none _)
      | (with_reducible refine LeO.ite ?_ ?_)
      | (with_reducible refine LeO.bind ?_ (fun _ => ?_))
      | exact ih0 _ _ _ _ _ _
      | exact ih1 _ _ _ _ _ _ _
      | exact ih2 _ _ _ _ _ _ _
      | exact ih3 _ _ _ _ _ _
      | exact ih4 _ _ _ _ _ _ _ _ _
      | exact ih5 _ _ _ _ _ _ _ _ _ _
      | exact down_Learn.mono _ _ _ _ _ _
      | exact down_Next.mono _ _ _
      | exact down_Tell.mono _ _
      | exact LeO.none _
      | refine LeO.ite ?_ ?_
      | refine LeO.bind ?_ (fun _ => ?_)
    · intro y0 y1 y2 y3 y4 y5 y6 y7 y8
      unfold slotmeshlaw21_DownTree.l3
      repeat' first
      | (with_reducible exact ih0 _ _ _ _ _ _)
      | (with_reducible exact ih1 _ _ _ _ _ _ _)
      | (with_reducible exact ih2 _ _ _ _ _ _ _)
      | (with_reducible exact ih3 _ _ _ _ _ _)
      | (with_reducible exact ih4 _ _ _ _ _ _ _ _ _)
      | (with_reducible exact ih5 _ _ _ _ _ _ _ _ _ _)
      | (with_reducible exact down_Learn.mono _ _ _ _ _ _)
      | (with_reducible exact down_Next.mono _ _ _)
      | (with_reducible exact down_Tell.mono _ _)
      | (with_reducible exact LeO.refl _)
      | (with_reducible exact LeO.none _)
      | (with_reducible refine LeO.ite ?_ ?_)
      | (with_reducible refine LeO.bind ?_ (fun _ => ?_))
      | exact ih0 _ _ _ _ _ _
      | exact ih1 _ _ _ _ _ _ _
      | exact ih2 _ _ _ _ _ _ _
      | exact ih3 _ _ _ _ _ _
      | exact ih4 _ _ _ _ _ _ _ _ _
      | exact ih5 _ _ _ _ _ _ _ _ _ _
      | exact down_Learn.mono _ _ _ _ _ _
      | exact down_Next.mono _ _ _
      | exact down_Tell.mono _ _
      | exact LeO.none _
      | refine LeO.ite ?_ ?_
      | refine LeO.bind ?_ (fun _ => ?_)
    · intro y0 y1 y2 y3 y4 y5 y6 y7 y8 y9
      unfold slotmeshlaw21_DownTree.l4
      repeat' first
      | (with_reducible exact ih0 _ _ _ _ _ _)
      | (with_reducible exact ih1 _ _ _ _ _ _ _)
      | (with_reducible exact ih2 _ _ _ _ _ _ _)
      | (with_reducible exact ih3 _ _ _ _ _ _)
      | (with_reducible exact ih4 _ _ _ _ _ _ _ _ _)
      | (with_reducible exact ih5 _ _ _ _ _ _ _ _ _ _)
      | (with_reducible exact down_Learn.mono _ _ _ _ _ _)
      | (with_reducible exact down_Next.mono _ _ _)
      | (with_reducible exact down_Tell.mono _ _)
      | (with_reducible exact LeO.refl _)
      | (with_reducible exact LeO.none _)
      | (with_reducible refine LeO.ite ?_ ?_)
      | (with_reducible refine LeO.bind ?_ (fun _ => ?_))
      | exact ih0 _ _ _ _ _ _
      | exact ih1 _ _ _ _ _ _ _
      | exact ih2 _ _ _ _ _ _ _
      | exact ih3 _ _ _ _ _ _
      | exact ih4 _ _ _ _ _ _ _ _ _
      | exact ih5 _ _ _ _ _ _ _ _ _ _
      | exact down_Learn.mono _ _ _ _ _ _
      | exact down_Next.mono _ _ _
      | exact down_Tell.mono _ _
      | exact LeO.none _
      | refine LeO.ite ?_ ?_
      | refine LeO.bind ?_ (fun _ => ?_)
theorem slotmeshlaw21_DownTree.mono : ∀ a0 a1 a2 k, LeO (slotmeshlaw21_DownTree.f k a0 a1 a2) (slotmeshlaw21_DownTree.f (k + 1) a0 a1 a2) := by
  intro a0 a1 a2 k
  obtain ⟨ih0, ih1, ih2, ih3, ih4, ih5⟩ := slotmeshlaw21_DownTree.mono_l k
  unfold slotmeshlaw21_DownTree.f
  repeat' first
      | (with_reducible exact ih0 _ _ _ _ _ _)
      | (with_reducible exact ih1 _ _ _ _ _ _ _)
      | (with_reducible exact ih2 _ _ _ _ _ _ _)
      | (with_reducible exact ih3 _ _ _ _ _ _)
      | (with_reducible exact ih4 _ _ _ _ _ _ _ _ _)
      | (with_reducible exact ih5 _ _ _ _ _ _ _ _ _ _)
      | (with_reducible exact down_Learn.mono _ _ _ _ _ _)
      | (with_reducible exact down_Next.mono _ _ _)
      | (with_reducible exact down_Tell.mono _ _)
      | (with_reducible exact LeO.refl _)
      | (with_reducible exact LeO.none _)
      | (with_reducible refine LeO.ite ?_ ?_)
      | (with_reducible refine LeO.bind ?_ (fun _ => ?_))
      | exact ih0 _ _ _ _ _ _
      | exact ih1 _ _ _ _ _ _ _
      | exact ih2 _ _ _ _ _ _ _
      | exact ih3 _ _ _ _ _ _
      | exact ih4 _ _ _ _ _ _ _ _ _
      | exact ih5 _ _ _ _ _ _ _ _ _ _
      | exact down_Learn.mono _ _ _ _ _ _
      | exact down_Next.mono _ _ _
      | exact down_Tell.mono _ _
      | exact LeO.none _
      | refine LeO.ite ?_ ?_
      | refine LeO.bind ?_ (fun _ => ?_)
def slotmeshlaw21_DownTree.T14 : Bool × List (List Nat × List Nat) := (true, [([], []), ([], []), ([], []), ([1, 2], [1, 2]), ([3], [3]), ([0, 4], [0, 4]), ([5], [5]), ([], []), ([], []), ([], []), ([8, 9], [8, 9]), ([10], [10]), ([11], [11]), ([], []), ([], []), ([13, 14], [13, 14]), ([15], [15]), ([16], [16]), ([], []), ([6, 7, 12, 17, 18, 17], [6, 7, 12, 17, 18]), ([19], [19]), ([20], [20]), ([20], [20]), ([21, 19, 0, 1, 2, 3, 4, 5, 6, 7, 8, 9, 10, 11, 12, 13, 14, 15, 16, 17, 18, 19, 20, 21], [21]), ([22, 23, 0, 1, 2, 3, 4, 5, 6, 7, 8, 9, 10, 11, 12, 13, 14, 15, 16, 17, 18, 19, 20, 21, 22, 23], [22])])
def slotmeshlaw21_DownTree.B14 : List Nat := [0, 0, 0, 6, 14, 31, 63, 0, 0, 0, 768, 1792, 3840, 0, 0, 24576, 57344, 122880, 0, 524287, 1048575, 2097151, 2097151, 4194303, 16777215]
theorem slotmeshlaw21_DownTree.tab14 : rtab .any (opsOf Try.f6 14) = slotmeshlaw21_DownTree.T14 := by kernel_rfl
theorem slotmeshlaw21_DownTree.bits14 : waitsOk slotmeshlaw21_DownTree.T14.2 slotmeshlaw21_DownTree.B14 = true := by kernel_rfl
set_option maxHeartbeats 8000000 in
set_option maxRecDepth 100000 in
theorem slotmeshlaw21_DownTree.calls (k : Nat) (A0 : Option Addr) (c0 : Nat) (l0 : List Int) (A1 : Option Addr) (c1 : Nat) (l1 : List Int) (a2 : Int) (r : Bool) (w : World) (hrt : r = true) (hr0 : Kd.C (Kd.int .u8) w A0 l0.length l0) (hc0 : l0.length ≤ c0) (hr1 : Kd.C (Kd.int .u16) w A1 l1.length l1) (hc1 : l1.length ≤ c1) (h : slotmeshlaw21_DownTree.f k l0 l1 a2 = some r) :
    Calls Try.prog 6 #[.slice A0 l0.length c0, .slice A1 l1.length c1, .int .i64 a2] w fun e w' => e = .returned (.bool r) ∧ Below w.heap.size w w' := by
  have HR0 := Aside0.mk hr0
  have HC0 := Aside0.mk hc0
  clear hr0 hc0
  have HR1 := Aside0.mk hr1
  have HC1 := Aside0.mk hc1
  clear hr1 hc1
  have HB := Aside0.mk (Below.refl w.heap.size w)
  have HRT := Aside0.mk hrt
  clear hrt
  have H : ((slotmeshlaw21_head.f).bind fun t318 => (if (wrap64 ((l0.length : Int) + 1)) > 20 then (slotmeshlaw21_DownTree.j0 k l0 l1 a2 t318 (wrap64 ((l0.length : Int) + 1)) true) else (if (l1.length : Int) < (wrap64 ((l0.length : Int) + 1)) then (slotmeshlaw21_DownTree.j0 k l0 l1 a2 t318 (wrap64 ((l0.length : Int) + 1)) true) else (if a2 < 0 then (slotmeshlaw21_DownTree.j0 k l0 l1 a2 t318 (wrap64 ((l0.length : Int) + 1)) true) else (slotmeshlaw21_DownTree.j0 k l0 l1 a2 t318 (wrap64 ((l0.length : Int) + 1)) (decide (a2 > 999999997))))))) = some r := h
  clear h
  replace H := Option.bind_eq_some_iff.mp H
  obtain ⟨t318, A40, H⟩ := H
  replace H : (if (wrap64 ((l0.length : Int) + 1)) > 20 then (slotmeshlaw21_DownTree.j0 k l0 l1 a2 t318 (wrap64 ((l0.length : Int) + 1)) true) else (if (l1.length : Int) < (wrap64 ((l0.length : Int) + 1)) then (slotmeshlaw21_DownTree.j0 k l0 l1 a2 t318 (wrap64 ((l0.length : Int) + 1)) true) else (if a2 < 0 then (slotmeshlaw21_DownTree.j0 k l0 l1 a2 t318 (wrap64 ((l0.length : Int) + 1)) true) else (slotmeshlaw21_DownTree.j0 k l0 l1 a2 t318 (wrap64 ((l0.length : Int) + 1)) (decide (a2 > 999999997)))))) = some r := H
  have A4 := Aside0.mk A40
  clear A40
  have HC5 := Aside0.mk H
  clear H
  go_enter Try.func6, Try.ntmps6
  go_upto_region 3 with (first | ((with_reducible refine gate_callee (f := 10) rfl ?_); refine goesL_ (some 21) rfl rfl Try.func10 (by kernel_rfl) rfl #[] rfl (by (try simp only [List.map_toArray, List.map_cons, List.map_nil]); first | done | rfl | (simp only [List.length_drop, List.length_take]; rfl)) ?_; (with_reducible refine (slotmeshlaw21_head.calls  t318 _ A4.out).mono ?_); rintro e w6 ⟨rfl, hb⟩; refine ⟨_, rfl, ?_⟩; have n0_ := Aside0.mk (below_step (by repeat (first | (with_reducible first | exact HB.out | apply below_alloc | apply pw_below_drewN | apply below_drew1) | exact HB.out)) hb); clear HB; have HB := n0_; clear n0_; (try clear hb); (try clear hb2); (try clear hk); (try clear hi)))
  (try simp only [Act.put, List.setIfInBounds_toArray, List.set_cons_zero, List.set_cons_succ])
  go_cut [40] (fun v40 wc => ∃ (kq : Nat) (x40_4 : Bool), v40 = .bool x40_4 ∧ Aside0 (slotmeshlaw21_DownTree.j0 kq l0 l1 a2 t318 (wrap64 ((l0.length : Int) + 1)) x40_4 = some r) ∧ Aside0 (kq ≤ k) ∧ Aside0 (Below w.heap.size w wc))
  case first =>
    have H := HC5.out
    clear HC5
    by_cases c7 : (wrap64 ((l0.length : Int) + 1)) > 20
    · rw [if_pos c7] at H
      have c7b0 : decide (20 < (wrap64 ((l0.length : Int) + 1))) = true := decide_eq_true c7
      clear c7
      (first | rw [c7b0] | (simp only [i64_w, i32_w]; rw [c7b0]) | skip)
      have H' := Aside0.mk H
      clear H
      go_wp2
      go_meet
      case rel => exact ⟨_, (true), (by first | rfl | (simp; done) | (simp [*]; done)), H', ⟨by first | omega | exact Nat.le_refl _⟩, ⟨by repeat (first | (with_reducible first | exact HB.out | apply below_alloc | apply pw_below_drewN | apply below_drew1) | exact HB.out)⟩⟩
    · rw [if_neg c7] at H
      have c7b0 : decide (20 < (wrap64 ((l0.length : Int) + 1))) = false := decide_eq_false c7
      clear c7
      (first | rw [c7b0] | (simp only [i64_w, i32_w]; rw [c7b0]) | skip)
      by_cases c8 : (l1.length : Int) < (wrap64 ((l0.length : Int) + 1))
      · rw [if_pos c8] at H
        have c8b0 : decide ((l1.length : Int) < (wrap64 ((l0.length : Int) + 1))) = true := decide_eq_true c8
        clear c8
        have H' := Aside0.mk H
        clear H
        go_wp2
        go_meet
        case rel => exact ⟨_, (true), (by first | rfl | (simp; done) | (simp [*]; done)), H', ⟨by first | omega | exact Nat.le_refl _⟩, ⟨by repeat (first | (with_reducible first | exact HB.out | apply below_alloc | apply pw_below_drewN | apply below_drew1) | exact HB.out)⟩⟩
      · rw [if_neg c8] at H
        have c8b0 : decide ((l1.length : Int) < (wrap64 ((l0.length : Int) + 1))) = false := decide_eq_false c8
        clear c8
        by_cases c9 : a2 < 0
        · rw [if_pos c9] at H
          have c9b0 : decide (a2 < 0) = true := decide_eq_true c9
          clear c9
          have H' := Aside0.mk H
          clear H
          go_wp2
          go_meet
          case rel => exact ⟨_, (true), (by first | rfl | (simp; done) | (simp [*]; done)), H', ⟨by first | omega | exact Nat.le_refl _⟩, ⟨by repeat (first | (with_reducible first | exact HB.out | apply below_alloc | apply pw_below_drewN | apply below_drew1) | exact HB.out)⟩⟩
        · rw [if_neg c9] at H
          have c9b0 : decide (a2 < 0) = false := decide_eq_false c9
          clear c9
          have H' := Aside0.mk H
          clear H
          go_wp2
          go_meet
          case rel => exact ⟨_, (decide (a2 > 999999997)), (by first | rfl | (simp; done) | (simp [*]; done)), H', ⟨by first | omega | exact Nat.le_refl _⟩, ⟨by repeat (first | (with_reducible first | exact HB.out | apply below_alloc | apply pw_below_drewN | apply below_drew1) | exact HB.out)⟩⟩
  case rest =>
    clear HC5
    try clear c1
    try clear p2
    try clear c6
    try clear p6
    try clear c7
    try clear c7b0
    try clear c8
    try clear c8b0
    try clear c9
    try clear c9b0
    obtain ⟨kq, x40_4, rfl, HA, HJ4, HB⟩ := hcut
    cases kq with
    | zero => exact absurd HA.out (by simp [slotmeshlaw21_DownTree.j0])
    | succ kj4 =>
      have H := HA.out
      clear HA
      simp only [slotmeshlaw21_DownTree.j0] at H
      by_cases c10 : x40_4 = true
      · subst c10
        have H1 : (some t318) = some r := by rw [if_pos rfl] at H; exact H
        clear H
        have H := H1
        clear H1
        obtain rfl := Option.some.inj H
        go_wp2
        go_ret
        exact ⟨by first | rfl | (simp [errW_none, errW_some] <;> rfl) | (simp [*, errW_none, errW_some] <;> rfl), by repeat (first | (with_reducible first | exact HB.out | apply below_alloc | apply pw_below_drewN | apply below_drew1) | exact HB.out)⟩
      · replace c10 := Bool.eq_false_iff.mpr c10
        subst c10
        have H1 : (if 0 ≤ (wrap64 ((l0.length : Int) + 1)) then (if ((wrap64 ((l0.length : Int) + 1)) : Int).toNat ≤ 35184372088832 then (slotmeshlaw21_DownTree.l0 kj4 l0 l1 a2 t318 (wrap64 ((l0.length : Int) + 1)) (List.replicate ((wrap64 ((l0.length : Int) + 1)) : Int).toNat 0) 1) else (none)) else (none)) = some r := by rw [if_neg (show ¬ (false = true) by decide)] at H; exact H
        clear H
        have H := H1
        clear H1
        obtain ⟨ji11, hji11⟩ : ∃ j_ : Int, (wrap64 ((l0.length : Int) + 1)) = j_ := ⟨_, rfl⟩
        replace H : (if 0 ≤ (ji11) then (if ((ji11) : Int).toNat ≤ 35184372088832 then (slotmeshlaw21_DownTree.l0 kj4 l0 l1 a2 t318 (ji11) (List.replicate ((ji11) : Int).toNat 0) 1) else (none)) else (none)) = some r := by first | (rw [hji11] at H; exact H) | (simp only [hji11] at H ⊢; exact H)
        have hji11w : (IntKind.i64.wrap ((l0.length : Int) + 1)) = ji11 := (i64_w _).trans hji11
        rw [hji11]
        by_cases c12 : 0 ≤ (ji11)
        · rw [if_pos c12] at H
          have c12b0 := eq_true c12
          have c12b1 : decide (0 ≤ (ji11)) = true := decide_eq_true c12
          clear c12
          by_cases c13 : ((ji11) : Int).toNat ≤ 35184372088832
          · rw [if_pos c13] at H
            have c13b0 := eq_true c13
            have c13b1 : decide (((ji11) : Int).toNat ≤ 35184372088832) = true := decide_eq_true c13
            clear c13
            obtain ⟨y319, hy319⟩ : ∃ y_ : List Int, y_ = (List.replicate ((ji11) : Int).toNat 0) := ⟨_, rfl⟩
            replace H : (slotmeshlaw21_DownTree.l0 kj4 l0 l1 a2 t318 (ji11) y319 1) = some r := by first | (rw [hy319]; with_reducible exact H) | (have H2_ := (Option.bind_some _ _).symm.trans H; rw [hy319]; with_reducible exact H2_) | (have H2_ := (Option.bind_some _ _).symm.trans H; with_reducible exact H2_) | with_reducible exact H | (rw [hy319]; exact H) | exact H
            have Ny319 := Aside0.mk hy319
            clear hy319
            have H' := Aside0.mk H
            clear H
            go_wp2_with (first | ((with_reducible refine gate_dst (N := 43) rfl ?_); (try (refine gate_guard (by rfl) ?_; dsimp only)); refine Kd.R_make (Kd.int .i64) _ 3 rfl (N := 43) rfl 41 _ _ rfl (ji11) rfl rfl Try.underlying41 (.int .i64 0) 8 info3 rfl (by decide) (by omega) 0 (ok := fun _ => True) (okp := fun _ => True) rfl (fun _ hk => hk) trivial (of_decide_eq_true (by first | (with_reducible assumption) | assumption)) (Nat.le_trans (Nat.mul_le_mul_right _ (of_decide_eq_true (by first | (with_reducible assumption) | assumption) : (ji11).toNat ≤ 35184372088832)) (by omega)) (Below.refl _ _) (Nat.le_refl _) ?_; intro v320 w14 ho15 hb hg_ hnew_; clear hg_ hnew_; (first | rw [← Ny319.out] at ho15 | (simp only [Int.reduceToNat] at ho15; rw [← Ny319.out] at ho15)); have n0_ := Aside0.mk (Kd.R_lower ho15 (below_size (by repeat (first | (with_reducible first | exact HB.out | apply below_alloc | apply pw_below_drewN | apply below_drew1) | exact HB.out)))); have n1_ := Aside0.mk (below_step (by repeat (first | (with_reducible first | exact HB.out | apply below_alloc | apply pw_below_drewN | apply below_drew1) | exact HB.out)) hb); clear HB; have HO321 := n0_; have HB := n1_; clear n0_ n1_; clear hb ho15))
            go_loopg [10] kj4 (fun kq v10 w' => ∃ (x9_2 : List Int) (x10_2 : Int), v10 = .int .i64 x10_2 ∧ Aside0 (slotmeshlaw21_DownTree.l0 kq l0 l1 a2 t318 (ji11) x9_2 x10_2 = some r) ∧ Aside0 (kq ≤ kj4) ∧ Aside0 (Kd.R (Kd.int .i64) 3 w' w.heap.size (fun _ => True) v320 x9_2) ∧ Aside0 (Below w.heap.size w w'))
            case atStart => exact ⟨(y319), (1), (by first | rfl | (simp; done) | (simp [*]; done)), H', ⟨Nat.le_refl _⟩, ⟨by (with_reducible repeat (first | apply Kd.R_alloc | apply Kd.R_drewN | apply Kd.R_drew)); exact HO321.out⟩, ⟨by repeat (first | (with_reducible first | exact HB.out | apply below_alloc | apply pw_below_drewN | apply below_drew1) | exact HB.out)⟩⟩
            case round =>
              clear H'
              try clear c1
              try clear p2
              try clear c6
              try clear p6
              try clear c7
              try clear c7b0
              try clear c8
              try clear c8b0
              try clear c9
              try clear c9b0
              try clear c10
              try clear c12
              try clear c12b0
              try clear c12b1
              try clear c13
              try clear c13b0
              try clear c13b1
              try clear p2
              try clear p6
              obtain ⟨x9_2, x10_2, rfl, HA, HK2, HO_9, HB⟩ := hrel
              cases gk with
              | zero => exact absurd HA.out (by simp [slotmeshlaw21_DownTree.l0])
              | succ k2 =>
                have H := HA.out
                clear HA
                simp only [slotmeshlaw21_DownTree.l0] at H
                by_cases c16 : x10_2 < (ji11)
                · rw [if_pos c16] at H
                  have c16b0 : decide (x10_2 < (ji11)) = true := decide_eq_true c16
                  clear c16
                  obtain ⟨ji17, hji17⟩ : ∃ j_ : Int, (wrap64 (x10_2 - 1)) = j_ := ⟨_, rfl⟩
                  replace H : (if 0 ≤ (ji17) then (if (ji17) < (l0.length : Int) then (if x10_2 = 0 then (none) else (if 0 ≤ x10_2 then (if x10_2 < (x9_2.length : Int) then (slotmeshlaw21_DownTree.l0 k2 l0 l1 a2 t318 (ji11) (x9_2.set (x10_2 : Int).toNat (Int.tmod (wrap64 (rd l0 (ji17))) x10_2)) (wrap64 (x10_2 + 1))) else (none)) else (none))) else (none)) else (none)) = some r := by first | (rw [hji17] at H; exact H) | (simp only [hji17] at H ⊢; exact H)
                  have hji17w : (IntKind.i64.wrap (x10_2 - 1)) = ji17 := (i64_w _).trans hji17
                  by_cases c18 : 0 ≤ (ji17)
                  · rw [if_pos c18] at H
                    have c18b0 : decide (0 ≤ (ji17)) = true := decide_eq_true c18
                    clear c18
                    by_cases c19 : (ji17) < (l0.length : Int)
                    · rw [if_pos c19] at H
                      have c19b0 : decide ((ji17) < (l0.length : Int)) = true := decide_eq_true c19
                      clear c19
                      by_cases c20 : x10_2 = 0
                      · rw [if_pos c20] at H
                        exact absurd H (by simp)
                      · rw [if_neg c20] at H
                        have c20b0 : (x10_2 == 0) = false := beq_eq_false_iff_ne.mpr c20
                        have c20b1 : (x10_2 != 0) = true := bne_iff_ne.mpr c20
                        by_cases c21 : 0 ≤ x10_2
                        · rw [if_pos c21] at H
                          have c21b0 : decide (0 ≤ x10_2) = true := decide_eq_true c21
                          clear c21
                          by_cases c22 : x10_2 < (x9_2.length : Int)
                          · rw [if_pos c22] at H
                            have c22b0 : decide (x10_2 < (x9_2.length : Int)) = true := decide_eq_true c22
                            clear c22
                            obtain ⟨y323, hy323⟩ : ∃ y_ : List Int, y_ = (x9_2.set (x10_2 : Int).toNat (Int.tmod (wrap64 (rd l0 (ji17))) x10_2)) := ⟨_, rfl⟩
                            replace H : (slotmeshlaw21_DownTree.l0 k2 l0 l1 a2 t318 (ji11) y323 (wrap64 (x10_2 + 1))) = some r := by first | (rw [hy323]; with_reducible exact H) | (have H2_ := (Option.bind_some _ _).symm.trans H; rw [hy323]; with_reducible exact H2_) | (have H2_ := (Option.bind_some _ _).symm.trans H; with_reducible exact H2_) | with_reducible exact H | (rw [hy323]; exact H) | exact H
                            have Ny323 := Aside0.mk hy323
                            clear hy323
                            have H' := Aside0.mk H
                            clear H
                            have p322 : 0 ≤ ((ji17) : Int) := of_decide_eq_true (by first | (with_reducible assumption) | assumption)
                            have q322 : (ji17) < (l0.length : Int) := of_decide_eq_true (by first | (with_reducible assumption) | assumption)
                            obtain ⟨ad322, e322, hx322_0⟩ := Kd.at_int HR0.out (ji17) p322 q322
                            cases e322
                            replace hx322_0 := (HB.out.cell (World.block_lt_of_cell? w _ hx322_0)).trans hx322_0
                            replace p322 := eq_true p322
                            replace q322 := eq_true q322
                            have p23 : 0 ≤ (x10_2 : Int) := of_decide_eq_true (by first | (with_reducible assumption) | assumption)
                            have q23 : (x10_2 : Int) < ((x9_2.length : Int) : Int) := of_decide_eq_true (by first | (with_reducible assumption) | assumption)
                            obtain ⟨go23, co23, eo23, gb23, gl23, cl23, HG23⟩ := Kd.R_form HO_9.out (by omega)
                            (first | cases eo23 | (injection eo23 with ea_ en_ ec_; (first | subst ea_ | (injection ea_ with ea_; subst ea_)); subst ec_; clear en_))
                            have GB23 := Aside0.mk gb23
                            have GG23 := Aside0.mk HG23
                            clear gb23 gl23 HG23
                            obtain ⟨hx23_0, hf23_0⟩ := Kd.R_celln 0 HO_9.out (x10_2 : Int) p23 q23
                            replace p23 := eq_true p23
                            replace q23 := eq_true q23
                            have HP24 := Kd.R_putg HO_9.out (x10_2 : Int) (Int.tmod (wrap64 (rd l0 (ji17))) x10_2)
                            go_wp2_with (first | ((with_reducible refine gate_store (t := 3) (p := 59) rfl ?_); refine store_event (t := 3) (p := 59) (v := ?vo_w25) (w1 := (wr.setCell ⟨go23, (x10_2 : Int).toNat, none⟩ (.int .i64 (Int.tmod (wrap64 (rd l0 (ji17))) x10_2)))) ?hg ?ho ?hn ?hr ?_; (case ho => rfl); (case hg => rfl); (case hn => rfl); (case hr => first | (go_simp; done) | (go_simp; rfl)); intro w25 hw; have hg : wr.grownBy w25 (some go23) := (by rw [hw]; exact HP24.2); have hp_ : Kd.R (Kd.int .i64) 3 w25 w.heap.size (fun _ => True) (.slice (some ⟨go23, 0, none⟩) x9_2.length co23) y323 := (by rw [hw, Ny323.out]; exact HP24.1); clear HP24; have n0_ := Aside0.mk (hp_); have n1_ := Aside0.mk ((by rw [hw]; exact below_set (HB.out) GB23.out : Below w.heap.size w w25)); clear HO_9; clear HB; have HO_9 := n0_; have HB := n1_; clear n0_ n1_; clear hg hw hp_))
                            go_roundg k2
                            case measure => have := HJ4.out; have := HK2.out; omega
                            case rel => exact ⟨(y323), (wrap64 (x10_2 + 1)), (by first | rfl | (simp; done) | (simp [*]; done)), H', ⟨by have := HJ4.out; have := HK2.out; omega⟩, ⟨by (with_reducible repeat (first | apply Kd.R_alloc | apply Kd.R_drewN | apply Kd.R_drew)); exact HO_9.out⟩, ⟨by repeat (first | (with_reducible first | exact HB.out | apply below_alloc | apply pw_below_drewN | apply below_drew1) | exact HB.out)⟩⟩
                          · rw [if_neg c22] at H
                            exact absurd H (by simp)
                        · rw [if_neg c21] at H
                          exact absurd H (by simp)
                    · rw [if_neg c19] at H
                      exact absurd H (by simp)
                  · rw [if_neg c18] at H
                    exact absurd H (by simp)
                · rw [if_neg c16] at H
                  have c16b0 : decide (x10_2 < (ji11)) = false := decide_eq_false c16
                  clear c16
                  by_cases c26 : 0 ≤ (ji11)
                  · rw [if_pos c26] at H
                    have c26b0 := eq_true c26
                    have c26b1 : decide (0 ≤ (ji11)) = true := decide_eq_true c26
                    clear c26
                    by_cases c27 : ((ji11) : Int).toNat ≤ 11728124029610
                    · rw [if_pos c27] at H
                      have c27b0 := eq_true c27
                      have c27b1 : decide (((ji11) : Int).toNat ≤ 11728124029610) = true := decide_eq_true c27
                      clear c27
                      obtain ⟨y324, hy324⟩ : ∃ y_ : List (List (S35)), y_ = (List.replicate ((ji11) : Int).toNat []) := ⟨_, rfl⟩
                      replace H : (slotmeshlaw21_DownTree.l1 k2 l1 a2 t318 (ji11) x9_2 y324 (wrap64 ((ji11) - 1))) = some r := by first | (rw [hy324]; with_reducible exact H) | (have H2_ := (Option.bind_some _ _).symm.trans H; rw [hy324]; with_reducible exact H2_) | (have H2_ := (Option.bind_some _ _).symm.trans H; with_reducible exact H2_) | with_reducible exact H | (rw [hy324]; exact H) | exact H
                      have Ny324 := Aside0.mk hy324
                      clear hy324
                      have H' := Aside0.mk H
                      clear H
                      go_wp2_with (first | ((with_reducible refine gate_dst (N := 61) rfl ?_); (try (refine gate_guard (by rfl) ?_; dsimp only)); refine Kd.S_make (Kd.slice 35 k35) _ 22 rfl (N := 61) rfl 42 _ _ rfl (ji11) rfl rfl Try.underlying42 (.slice none 0 0) 24 info22 rfl (by decide) (by omega) [] (ok := fun _ => True) (okp := fun _ => True) ⟨_, rfl, Kd.R_nil _ _ _ _ _⟩ (fun _ hk => hk) trivial (of_decide_eq_true (by first | (with_reducible assumption) | assumption)) (Nat.le_trans (Nat.mul_le_mul_right _ (of_decide_eq_true (by first | (with_reducible assumption) | assumption) : (ji11).toNat ≤ 11728124029610)) (by omega)) (Below.refl _ _) (Nat.le_refl _) ?_; intro v325 w28 ho29 hb hg_ hnew_; clear hg_ hnew_; (first | rw [← Ny324.out] at ho29 | (simp only [Int.reduceToNat] at ho29; rw [← Ny324.out] at ho29)); have n0_ := Aside0.mk (Kd.R_below (by (with_reducible repeat (first | apply Kd.R_alloc | apply Kd.R_drewN | apply Kd.R_drew)); exact HO_9.out) hb); have n1_ := Aside0.mk (Kd.S_lower ho29 (below_size (by repeat (first | (with_reducible first | exact HB.out | apply below_alloc | apply pw_below_drewN | apply below_drew1) | exact HB.out)))); have n2_ := Aside0.mk (below_step (by repeat (first | (with_reducible first | exact HB.out | apply below_alloc | apply pw_below_drewN | apply below_drew1) | exact HB.out)) hb); clear HO_9; clear HB; have HO_9 := n0_; have HO326 := n1_; have HB := n2_; clear n0_ n1_ n2_; clear hb ho29))
                      go_loopg [12] k2 (fun kq v12 w' => ∃ (x11_3 : List (List (S35))) (x12_3 : Int), v12 = .int .i64 x12_3 ∧ Aside0 (slotmeshlaw21_DownTree.l1 kq l1 a2 t318 (ji11) x9_2 x11_3 x12_3 = some r) ∧ Aside0 (kq ≤ k2) ∧ Aside0 (Kd.R (Kd.int .i64) 3 w' w.heap.size (fun _ => True) v320 x9_2) ∧ Aside0 (Kd.S (Kd.slice 35 k35) 22 w' w.heap.size (fun _ => True) v325 x11_3) ∧ Aside0 (Below w.heap.size w w'))
                      case atStart => exact ⟨(y324), (wrap64 ((ji11) - 1)), (by first | rfl | (simp; done) | (simp only [← hji11] <;> (first | rfl | simp)) | (simp [*]; done)), H', ⟨Nat.le_refl _⟩, ⟨by (with_reducible repeat (first | apply Kd.R_alloc | apply Kd.R_drewN | apply Kd.R_drew)); exact HO_9.out⟩, ⟨by (with_reducible repeat (first | apply Kd.S_alloc | apply Kd.S_drewN | apply Kd.S_drew)); exact HO326.out⟩, ⟨by repeat (first | (with_reducible first | exact HB.out | apply below_alloc | apply pw_below_drewN | apply below_drew1) | exact HB.out)⟩⟩
                      case round =>
                        clear H'
                        try clear c1
                        try clear c2
                        try clear p2
                        try clear q2
                        try clear hx2
                        try clear p3
                        try clear q3
                        try clear hx3
                        try clear c6
                        try clear p6
                        try clear c7
                        try clear c7b0
                        try clear c8
                        try clear c8b0
                        try clear c9
                        try clear c9b0
                        try clear c10
                        try clear c12
                        try clear c12b0
                        try clear c12b1
                        try clear c13
                        try clear c13b0
                        try clear c13b1
                        try clear c16
                        try clear c16b0
                        try clear c18
                        try clear c18b0
                        try clear c19
                        try clear c19b0
                        try clear c20
                        try clear c20b0
                        try clear c20b1
                        try clear c21
                        try clear c21b0
                        try clear c22
                        try clear c22b0
                        try clear p23
                        try clear q23
                        try clear hx23
                        try clear hf23
                        try clear c26
                        try clear c26b0
                        try clear c26b1
                        try clear c27
                        try clear c27b0
                        try clear c27b1
                        try clear hx23_0
                        try clear hx322_0
                        try clear p2
                        try clear p23
                        try clear p322
                        try clear p6
                        try clear q23
                        try clear q322
                        obtain ⟨x11_3, x12_3, rfl, HA, HK3, HO_9, HO_11, HB⟩ := hrel
                        cases gk with
                        | zero => exact absurd HA.out (by simp [slotmeshlaw21_DownTree.l1])
                        | succ k3 =>
                          have H := HA.out
                          clear HA
                          simp only [slotmeshlaw21_DownTree.l1] at H
                          by_cases c30 : x12_3 > 0
                          · rw [if_pos c30] at H
                            have c30b0 : decide (0 < x12_3) = true := decide_eq_true c30
                            clear c30
                            by_cases c31 : 0 ≤ x12_3
                            · rw [if_pos c31] at H
                              have c31b0 : decide (0 ≤ x12_3) = true := decide_eq_true c31
                              clear c31
                              by_cases c32 : x12_3 < (x9_2.length : Int)
                              · rw [if_pos c32] at H
                                have c32b0 : decide (x12_3 < (x9_2.length : Int)) = true := decide_eq_true c32
                                clear c32
                                by_cases c33 : 0 ≤ (rd x9_2 x12_3)
                                · rw [if_pos c33] at H
                                  have c33b0 : decide (0 ≤ (rd x9_2 x12_3)) = true := decide_eq_true c33
                                  clear c33
                                  by_cases c34 : (rd x9_2 x12_3) < (x11_3.length : Int)
                                  · rw [if_pos c34] at H
                                    have c34b0 : decide ((rd x9_2 x12_3) < (x11_3.length : Int)) = true := decide_eq_true c34
                                    clear c34
                                    by_cases c35 : x12_3 < (l1.length : Int)
                                    · rw [if_pos c35] at H
                                      have c35b0 : decide (x12_3 < (l1.length : Int)) = true := decide_eq_true c35
                                      clear c35
                                      by_cases c36 : x12_3 < (x11_3.length : Int)
                                      · rw [if_pos c36] at H
                                        have c36b0 : decide (x12_3 < (x11_3.length : Int)) = true := decide_eq_true c36
                                        clear c36
                                        replace H := Option.bind_eq_some_iff.mp H
                                        obtain ⟨t331, A370, H⟩ := H
                                        replace H : ((down_Learn.f k3 (rd_L2 x11_3 (rd x9_2 x12_3)) x12_3 (wrap64 (rd l1 x12_3)) t331 a2).bind fun bt334 => (if bt334.2 = 0 then (slotmeshlaw21_DownTree.l1 k3 l1 a2 t318 (ji11) x9_2 (x11_3.set ((rd x9_2 x12_3) : Int).toNat bt334.1) (wrap64 (x12_3 - 1))) else (some false))) = some r := H
                                        have A37 := Aside0.mk A370
                                        clear A370
                                        replace H := Option.bind_eq_some_iff.mp H
                                        obtain ⟨⟨t334, t335⟩, A380, H⟩ := H
                                        replace H : (if t335 = 0 then (slotmeshlaw21_DownTree.l1 k3 l1 a2 t318 (ji11) x9_2 (x11_3.set ((rd x9_2 x12_3) : Int).toNat t334) (wrap64 (x12_3 - 1))) else (some false)) = some r := H
                                        have A38 := Aside0.mk A380
                                        clear A380
                                        by_cases c39 : t335 = 0
                                        · rw [if_pos c39] at H
                                          have c39b0 : (t335 == 0) = true := beq_iff_eq.mpr c39
                                          have c39b1 : (t335 != 0) = false := bne_eq_false_iff_eq.mpr c39
                                          clear c39
                                          obtain ⟨y339, hy339⟩ : ∃ y_ : List (List (S35)), y_ = (x11_3.set ((rd x9_2 x12_3) : Int).toNat t334) := ⟨_, rfl⟩
                                          replace H : (slotmeshlaw21_DownTree.l1 k3 l1 a2 t318 (ji11) x9_2 y339 (wrap64 (x12_3 - 1))) = some r := by first | (rw [hy339]; with_reducible exact H) | (have H2_ := (Option.bind_some _ _).symm.trans H; rw [hy339]; with_reducible exact H2_) | (have H2_ := (Option.bind_some _ _).symm.trans H; with_reducible exact H2_) | with_reducible exact H | (rw [hy339]; exact H) | exact H
                                          have Ny339 := Aside0.mk hy339
                                          clear hy339
                                          have H' := Aside0.mk H
                                          clear H
                                          try go_wp2
                                          have n0_ := Aside0.mk (Kd.R_drew HO_9.out)
                                          have n1_ := Aside0.mk (Kd.S_drew HO_11.out)
                                          have n2_ := Aside0.mk (below_drew1 HB.out)
                                          clear HO_9
                                          clear HO_11
                                          clear HB
                                          have HO_9 := n0_
                                          have HO_11 := n1_
                                          have HB := n2_
                                          clear n0_ n1_ n2_
                                          obtain ⟨Ao42, co42, eo42⟩ := Kd.R_slice HO_9.out
                                          (first | subst eo42 | (injection eo42 with f1_ f2_ f3_; have f4_ := f1_.symm; have f5_ := f3_.symm; clear f1_ f2_ f3_; subst f4_; subst f5_))
                                          have p327 : 0 ≤ (x12_3 : Int) := of_decide_eq_true (by first | (with_reducible assumption) | assumption)
                                          have q327 : x12_3 < (x9_2.length : Int) := of_decide_eq_true (by first | (with_reducible assumption) | assumption)
                                          obtain ⟨ad327, e327, hx327_0⟩ := Kd.at_int (Kd.R_reads' HO_9.out).2.2 x12_3 p327 q327
                                          cases e327
                                          replace p327 := eq_true p327
                                          replace q327 := eq_true q327
                                          obtain ⟨Ao43, co43, eo43⟩ := Kd.S_slice HO_11.out
                                          (first | subst eo43 | (injection eo43 with f1_ f2_ f3_; have f4_ := f1_.symm; have f5_ := f3_.symm; clear f1_ f2_ f3_; subst f4_; subst f5_))
                                          have p328 : 0 ≤ ((rd x9_2 x12_3) : Int) := of_decide_eq_true (by first | (with_reducible assumption) | assumption)
                                          have q328 : (rd x9_2 x12_3) < (x11_3.length : Int) := of_decide_eq_true (by first | (with_reducible assumption) | assumption)
                                          obtain ⟨ad328, A328_0, c328_0, e328, hx328_0, hl328_0, hi328_0⟩ := at_L2 (Kd.S_reads' HO_11.out).2.2 (rd x9_2 x12_3) p328 q328
                                          cases e328
                                          obtain ⟨ce328, hce328, hMe328, hcc328⟩ := Kd.S_get HO_11.out [] (rd x9_2 x12_3) p328 (by first | exact q328 | exact of_decide_eq_true (by first | (with_reducible assumption) | assumption) | (have e_ := (Kd.S_reads' HO_11.out).1; omega))
                                          obtain ⟨ve328_0, rfl, ge328_0⟩ := hMe328
                                          have hv328_0 := hcc328 0 _ rfl
                                          rw [Nat.add_zero, show ((Kd.slice 35 k35)).sz = 1 from rfl, Nat.mul_one] at hv328_0
                                          replace hv328_0 := Option.some.inj (hv328_0.symm.trans hx328_0)
                                          rw [hv328_0] at ge328_0
                                          have HL328_0 := Aside0.mk (show Kd.R k35 35 _ _ _ _ (rd_L2 x11_3 (rd x9_2 x12_3)) from ge328_0)
                                          clear hv328_0 ge328_0
                                          clear hcc328 hce328
                                          have HR328_0 := Aside0.mk hi328_0
                                          have HC328_0 := Aside0.mk hl328_0
                                          clear hi328_0 hl328_0
                                          replace p328 := eq_true p328
                                          replace q328 := eq_true q328
                                          have p329 : 0 ≤ (x12_3 : Int) := of_decide_eq_true (by first | (with_reducible assumption) | assumption)
                                          have q329 : x12_3 < (l1.length : Int) := of_decide_eq_true (by first | (with_reducible assumption) | assumption)
                                          obtain ⟨ad329, e329, hx329_0⟩ := Kd.at_int HR1.out x12_3 p329 q329
                                          have hw329_0 := hx329_0
                                          cases e329
                                          replace hx329_0 := (HB.out.cell (World.block_lt_of_cell? w _ hx329_0)).trans hx329_0
                                          replace p329 := eq_true p329
                                          replace q329 := eq_true q329
                                          have p330 : 0 ≤ (x12_3 : Int) := of_decide_eq_true (by first | (with_reducible assumption) | assumption)
                                          have q330 : x12_3 < (x11_3.length : Int) := of_decide_eq_true (by first | (with_reducible assumption) | assumption)
                                          obtain ⟨ad330, A330_0, c330_0, e330, hx330_0, hl330_0, hi330_0⟩ := at_L2 (Kd.S_reads' HO_11.out).2.2 x12_3 p330 q330
                                          obtain rfl : ad328 = ad330 := (by injection e330)
                                          obtain ⟨ce330, hce330, hMe330, hcc330⟩ := Kd.S_get HO_11.out [] x12_3 p330 (by first | exact q330 | exact of_decide_eq_true (by first | (with_reducible assumption) | assumption) | (have e_ := (Kd.S_reads' HO_11.out).1; omega))
                                          obtain ⟨ve330_0, rfl, ge330_0⟩ := hMe330
                                          have hv330_0 := hcc330 0 _ rfl
                                          rw [Nat.add_zero, show ((Kd.slice 35 k35)).sz = 1 from rfl, Nat.mul_one] at hv330_0
                                          replace hv330_0 := Option.some.inj (hv330_0.symm.trans hx330_0)
                                          rw [hv330_0] at ge330_0
                                          have HL330_0 := Aside0.mk (show Kd.R k35 35 _ _ _ _ (rd_L2 x11_3 x12_3) from ge330_0)
                                          clear hv330_0 ge330_0
                                          clear hcc330 hce330
                                          have HR330_0 := Aside0.mk hi330_0
                                          have HC330_0 := Aside0.mk hl330_0
                                          clear hi330_0 hl330_0
                                          replace p330 := eq_true p330
                                          replace q330 := eq_true q330
                                          refine start_ (n := 25) (S := fun w' => w'.cell? (ad327.add (x12_3).toNat) = some (.int .i64 (rd x9_2 x12_3)) ∧ w'.cell? (ad328.add ((rd x9_2 x12_3)).toNat) = some (.slice A328_0 (rd_L2 x11_3 (rd x9_2 x12_3)).length c328_0) ∧ w'.cell? (ad329.add (x12_3).toNat) = some (.int .u16 (rd l1 x12_3)) ∧ w'.cell? (ad328.add (x12_3).toNat) = some (.slice A330_0 (rd_L2 x11_3 x12_3).length c330_0)) (ds := []) #[false, false, false, false, false, false, false, false, false, false, false, false, false, false, false, false, false, false, false, false, false, false, false, false, false] (by kernel_rfl) rfl rfl ⟨hx327_0, hx328_0, ((HB.out.cell (World.block_lt_of_cell? w _ hw329_0)).trans hw329_0), hx330_0⟩ (fun hHeld => ?_); refine with_tabW slotmeshlaw21_DownTree.tab14 slotmeshlaw21_DownTree.bits14 (fun HT_ HW_ => ?_)
                                          generalize wr.drew = w41 at HO_9 HO_11 HB HL328_0 HL330_0 HR328_0 HR330_0 hx327_0 hx328_0 hx329_0 hx330_0 hHeld ⊢
                                          refine pure_ (i := 0) (N := some 69) (v := ?_) (a' := ?_) #[true, false, false, false, false, false, false, false, false, false, false, false, false, false, false, false, false, false, false, false, false, false, false, false, false] rfl rfl (any_of HT_.out (by kernel_rfl)) (fun _ _ _ h => h) (Or.inl ⟨by rfl, ?_⟩) ?_ ?_
                                          rotate_left
                                          · intro w'
                                            go_simp
                                            with_reducible rfl
                                          rotate_left
                                          · simp only [Act.put, List.setIfInBounds_toArray, List.set_cons_zero, List.set_cons_succ, i64_w, i32_w]
                                            rfl
                                          refine pure_ (i := 1) (N := some 70) (v := ?_) (a' := ?_) #[true, true, false, false, false, false, false, false, false, false, false, false, false, false, false, false, false, false, false, false, false, false, false, false, false] rfl rfl (any_of HT_.out (by kernel_rfl)) (fun _ _ _ h => h) (Or.inl ⟨by rfl, ?_⟩) ?_ ?_
                                          rotate_left
                                          · intro w'
                                            go_simp
                                            with_reducible rfl
                                          rotate_left
                                          · simp only [Act.put, List.setIfInBounds_toArray, List.set_cons_zero, List.set_cons_succ, i64_w, i32_w]
                                            rfl
                                          refine pure_ (i := 2) (N := some 71) (v := ?_) (a' := ?_) #[true, true, true, false, false, false, false, false, false, false, false, false, false, false, false, false, false, false, false, false, false, false, false, false, false] rfl rfl (any_of HT_.out (by kernel_rfl)) (fun _ _ _ h => h) (Or.inl ⟨by rfl, ?_⟩) ?_ ?_
                                          rotate_left
                                          · intro w'
                                            go_simp
                                            with_reducible rfl
                                          rotate_left
                                          · simp only [Act.put, List.setIfInBounds_toArray, List.set_cons_zero, List.set_cons_succ, i64_w, i32_w]
                                            rfl
                                          refine pure_ (i := 3) (N := some 72) (v := ?_) (a' := ?_) #[true, true, true, true, false, false, false, false, false, false, false, false, false, false, false, false, false, false, false, false, false, false, false, false, false] rfl rfl (any_of HT_.out (by kernel_rfl)) (fun _ _ _ h => h) (Or.inl ⟨by rfl, ?_⟩) ?_ ?_
                                          rotate_left
                                          · intro w'
                                            go_simp
                                            with_reducible rfl
                                          rotate_left
                                          · simp only [Act.put, List.setIfInBounds_toArray, List.set_cons_zero, List.set_cons_succ, i64_w, i32_w]
                                            rfl
                                          refine pure_ (i := 7) (N := some 76) (v := ?_) (a' := ?_) #[true, true, true, true, false, false, false, true, false, false, false, false, false, false, false, false, false, false, false, false, false, false, false, false, false] rfl rfl (any_of HT_.out (by kernel_rfl)) (fun _ _ _ h => h) (Or.inl ⟨by rfl, ?_⟩) ?_ ?_
                                          rotate_left
                                          · intro w'
                                            go_simp
                                            with_reducible rfl
                                          rotate_left
                                          · simp only [Act.put, List.setIfInBounds_toArray, List.set_cons_zero, List.set_cons_succ, i64_w, i32_w]
                                            rfl
                                          refine pure_ (i := 8) (N := some 77) (v := ?_) (a' := ?_) #[true, true, true, true, false, false, false, true, true, false, false, false, false, false, false, false, false, false, false, false, false, false, false, false, false] rfl rfl (any_of HT_.out (by kernel_rfl)) (fun _ _ _ h => h) (Or.inl ⟨by rfl, ?_⟩) ?_ ?_
                                          rotate_left
                                          · intro w'
                                            go_simp
                                            with_reducible rfl
                                          rotate_left
                                          · simp only [Act.put, List.setIfInBounds_toArray, List.set_cons_zero, List.set_cons_succ, i64_w, i32_w]
                                            rfl
                                          refine pure_ (i := 9) (N := some 78) (v := ?_) (a' := ?_) #[true, true, true, true, false, false, false, true, true, true, false, false, false, false, false, false, false, false, false, false, false, false, false, false, false] rfl rfl (any_of HT_.out (by kernel_rfl)) (fun _ _ _ h => h) (Or.inl ⟨by rfl, ?_⟩) ?_ ?_
                                          rotate_left
                                          · intro w'
                                            go_simp
                                            with_reducible rfl
                                          rotate_left
                                          · simp only [Act.put, List.setIfInBounds_toArray, List.set_cons_zero, List.set_cons_succ, i64_w, i32_w]
                                            rfl
                                          refine pure_ (i := 10) (N := some 79) (v := ?_) (a' := ?_) #[true, true, true, true, false, false, false, true, true, true, true, false, false, false, false, false, false, false, false, false, false, false, false, false, false] rfl rfl (any_of HT_.out (by kernel_rfl)) (fun _ _ _ h => h) (Or.inl ⟨by rfl, ?_⟩) ?_ ?_
                                          rotate_left
                                          · intro w'
                                            go_simp
                                            with_reducible rfl
                                          rotate_left
                                          · simp only [Act.put, List.setIfInBounds_toArray, List.set_cons_zero, List.set_cons_succ, i64_w, i32_w]
                                            rfl
                                          refine pure_ (i := 13) (N := some 82) (v := ?_) (a' := ?_) #[true, true, true, true, false, false, false, true, true, true, true, false, false, true, false, false, false, false, false, false, false, false, false, false, false] rfl rfl (any_of HT_.out (by kernel_rfl)) (fun _ _ _ h => h) (Or.inl ⟨by rfl, ?_⟩) ?_ ?_
                                          rotate_left
                                          · intro w'
                                            go_simp
                                            with_reducible rfl
                                          rotate_left
                                          · simp only [Act.put, List.setIfInBounds_toArray, List.set_cons_zero, List.set_cons_succ, i64_w, i32_w]
                                            rfl
                                          refine pure_ (i := 14) (N := some 83) (v := ?_) (a' := ?_) #[true, true, true, true, false, false, false, true, true, true, true, false, false, true, true, false, false, false, false, false, false, false, false, false, false] rfl rfl (any_of HT_.out (by kernel_rfl)) (fun _ _ _ h => h) (Or.inl ⟨by rfl, ?_⟩) ?_ ?_
                                          rotate_left
                                          · intro w'
                                            go_simp
                                            with_reducible rfl
                                          rotate_left
                                          · simp only [Act.put, List.setIfInBounds_toArray, List.set_cons_zero, List.set_cons_succ, i64_w, i32_w]
                                            rfl
                                          refine pure_ (i := 15) (N := some 84) (v := ?_) (a' := ?_) #[true, true, true, true, false, false, false, true, true, true, true, false, false, true, true, true, false, false, false, false, false, false, false, false, false] rfl rfl (any_of HT_.out (by kernel_rfl)) (fun _ _ _ h => h) (Or.inl ⟨by rfl, ?_⟩) ?_ ?_
                                          rotate_left
                                          · intro w'
                                            go_simp
                                            with_reducible rfl
                                          rotate_left
                                          · simp only [Act.put, List.setIfInBounds_toArray, List.set_cons_zero, List.set_cons_succ, i64_w, i32_w]
                                            rfl
                                          refine pure_ (i := 18) (N := some 87) (v := ?_) (a' := ?_) #[true, true, true, true, false, false, false, true, true, true, true, false, false, true, true, true, false, false, true, false, false, false, false, false, false] rfl rfl (any_of HT_.out (by kernel_rfl)) (fun _ _ _ h => h) (Or.inl ⟨by rfl, ?_⟩) ?_ ?_
                                          rotate_left
                                          · intro w'
                                            go_simp
                                            with_reducible rfl
                                          rotate_left
                                          · simp only [Act.put, List.setIfInBounds_toArray, List.set_cons_zero, List.set_cons_succ, i64_w, i32_w]
                                            rfl
                                          refine take_ (i := 4) (N := some 73) (v := ?_) (a' := ?_) #[true, true, true, true, true, false, false, true, true, true, true, false, false, true, true, true, false, false, true, false, false, false, false, false, false] rfl rfl (take_ofW HT_.out HW_.out (by kernel_rfl)) (fun _ _ _ h => h) (Or.inl ⟨by rfl, ?_⟩) hHeld ?_ ?_
                                          rotate_left
                                          · rintro w' ⟨s0, s1, s2, s3⟩
                                            go_simp
                                            with_reducible rfl
                                          rotate_left
                                          · simp only [Act.put, List.setIfInBounds_toArray, List.set_cons_zero, List.set_cons_succ, i64_w, i32_w]
                                            rfl
                                          refine pure_ (i := 5) (N := some 74) (v := ?_) (a' := ?_) #[true, true, true, true, true, true, false, true, true, true, true, false, false, true, true, true, false, false, true, false, false, false, false, false, false] rfl rfl (any_of HT_.out (by kernel_rfl)) (fun _ _ _ h => h) (Or.inl ⟨by rfl, ?_⟩) ?_ ?_
                                          rotate_left
                                          · intro w'
                                            go_simp
                                            with_reducible rfl
                                          rotate_left
                                          · simp only [Act.put, List.setIfInBounds_toArray, List.set_cons_zero, List.set_cons_succ, i64_w, i32_w]
                                            rfl
                                          refine take_ (i := 6) (N := some 75) (v := ?_) (a' := ?_) #[true, true, true, true, true, true, true, true, true, true, true, false, false, true, true, true, false, false, true, false, false, false, false, false, false] rfl rfl (take_ofW HT_.out HW_.out (by kernel_rfl)) (fun _ _ _ h => h) (Or.inl ⟨by rfl, ?_⟩) hHeld ?_ ?_
                                          rotate_left
                                          · rintro w' ⟨s0, s1, s2, s3⟩
                                            go_simp
                                            with_reducible rfl
                                          rotate_left
                                          · simp only [Act.put, List.setIfInBounds_toArray, List.set_cons_zero, List.set_cons_succ, i64_w, i32_w]
                                            rfl
                                          refine take_ (i := 11) (N := some 80) (v := ?_) (a' := ?_) #[true, true, true, true, true, true, true, true, true, true, true, true, false, true, true, true, false, false, true, false, false, false, false, false, false] rfl rfl (take_ofW HT_.out HW_.out (by kernel_rfl)) (fun _ _ _ h => h) (Or.inl ⟨by rfl, ?_⟩) hHeld ?_ ?_
                                          rotate_left
                                          · rintro w' ⟨s0, s1, s2, s3⟩
                                            go_simp
                                            with_reducible rfl
                                          rotate_left
                                          · simp only [Act.put, List.setIfInBounds_toArray, List.set_cons_zero, List.set_cons_succ, i64_w, i32_w]
                                            rfl
                                          refine pure_ (i := 12) (N := some 81) (v := ?_) (a' := ?_) #[true, true, true, true, true, true, true, true, true, true, true, true, true, true, true, true, false, false, true, false, false, false, false, false, false] rfl rfl (any_of HT_.out (by kernel_rfl)) (fun _ _ _ h => h) (Or.inl ⟨by rfl, ?_⟩) ?_ ?_
                                          rotate_left
                                          · intro w'
                                            go_simp
                                            with_reducible rfl
                                          rotate_left
                                          · simp only [Act.put, List.setIfInBounds_toArray, List.set_cons_zero, List.set_cons_succ, i64_w, i32_w]
                                            rfl
                                          refine take_ (i := 16) (N := some 85) (v := ?_) (a' := ?_) #[true, true, true, true, true, true, true, true, true, true, true, true, true, true, true, true, true, false, true, false, false, false, false, false, false] rfl rfl (take_ofW HT_.out HW_.out (by kernel_rfl)) (fun _ _ _ h => h) (Or.inl ⟨by rfl, ?_⟩) hHeld ?_ ?_
                                          rotate_left
                                          · rintro w' ⟨s0, s1, s2, s3⟩
                                            go_simp
                                            with_reducible rfl
                                          rotate_left
                                          · simp only [Act.put, List.setIfInBounds_toArray, List.set_cons_zero, List.set_cons_succ, i64_w, i32_w]
                                            rfl
                                          refine one_ (i := 17) (N := some 86) #[true, true, true, true, true, true, true, true, true, true, true, true, true, true, true, true, true, true, true, false, false, false, false, false, false] rfl rfl (one_of HT_.out (by kernel_rfl)) (by decide) (fun K hK => ?_)
                                          refine goes_ Try.func19 (by kernel_rfl) rfl #[.slice A330_0 (rd_L2 x11_3 x12_3).length c330_0] (by rfl) rfl rfl (by (try simp only [List.map_toArray, List.map_cons, List.map_nil]); first | done | rfl | (simp only [List.length_drop, List.length_take]; rfl)) ?_
                                          with_reducible refine (down_Tell.calls k3 _ _ (rd_L2 x11_3 x12_3) t331 _ ?side1 ?side2 A37.out).mono ?_
                                          (case side1 => repeat (first | exact (by repeat (first | (with_reducible exact HR330_0.out) | (with_reducible refine Kd.C_alloc ?_ _) | (with_reducible refine Kd.C_drewN ?_ _) | (with_reducible refine Kd.C_drew ?_) | exact HR330_0.out)) | (with_reducible refine Kd.C_alloc ?_ _) | (with_reducible refine Kd.C_drewN ?_ _) | (with_reducible refine Kd.C_drew ?_)))
                                          (case side2 => exact HC330_0.out)
                                          rintro e w44 ⟨v332, rfl, ho0, hb⟩
                                          have HS0_ := (hb.cell (World.block_lt_of_cell? _ _ (hHeld.1))).trans (hHeld.1)
                                          have HS1_ := (hb.cell (World.block_lt_of_cell? _ _ (hHeld.2.1))).trans (hHeld.2.1)
                                          have HS3_ := (hb.cell (World.block_lt_of_cell? _ _ (hHeld.2.2.2))).trans (hHeld.2.2.2)
                                          refine ⟨_, rfl, ?_⟩
                                          have n0_ := Aside0.mk (Kd.R_below (by (with_reducible repeat (first | apply Kd.R_alloc | apply Kd.R_drewN | apply Kd.R_drew)); exact HO_9.out) hb)
                                          have n1_ := Aside0.mk (Kd.S_elder' (by (with_reducible repeat (first | apply Kd.S_alloc | apply Kd.S_drewN | apply Kd.S_drew)); exact HO_11.out) (Kd.R_base ho0) hb)
                                          have n2_ := Aside0.mk (Kd.R_elder' (by (with_reducible repeat (first | apply Kd.R_alloc | apply Kd.R_drewN | apply Kd.R_drew)); exact HL328_0.out) (Kd.R_base ho0) hb)
                                          have n3_ := Aside0.mk (Kd.R_elder' (by (with_reducible repeat (first | apply Kd.R_alloc | apply Kd.R_drewN | apply Kd.R_drew)); exact HL330_0.out) (Kd.R_base ho0) hb)
                                          have n4_ := Aside0.mk (Kd.R_lower (Kd.R_new' (Kd.R_new' ho0 (Kd.R_lt (by (with_reducible repeat (first | apply Kd.R_alloc | apply Kd.R_drewN | apply Kd.R_drew)); exact HL328_0.out))) (Kd.R_lt (by (with_reducible repeat (first | apply Kd.R_alloc | apply Kd.R_drewN | apply Kd.R_drew)); exact HL330_0.out))) (below_size (by repeat (first | (with_reducible first | exact HB.out | apply below_alloc | apply pw_below_drewN | apply below_drew1) | exact HB.out))))
                                          have n5_ := Aside0.mk (Kd.C_below (by repeat (first | (with_reducible exact HR328_0.out) | (with_reducible refine Kd.C_alloc ?_ _) | (with_reducible refine Kd.C_drewN ?_ _) | (with_reducible refine Kd.C_drew ?_) | exact HR328_0.out)) hb)
                                          have n6_ := Aside0.mk (Kd.C_below (by repeat (first | (with_reducible exact HR330_0.out) | (with_reducible refine Kd.C_alloc ?_ _) | (with_reducible refine Kd.C_drewN ?_ _) | (with_reducible refine Kd.C_drew ?_) | exact HR330_0.out)) hb)
                                          have n7_ := Aside0.mk (below_step (by repeat (first | (with_reducible first | exact HB.out | apply below_alloc | apply pw_below_drewN | apply below_drew1) | exact HB.out)) hb)
                                          clear HO_9
                                          clear HO_11
                                          clear HL328_0
                                          clear HL330_0
                                          clear HR328_0
                                          clear HR330_0
                                          clear HB
                                          have HO_9 := n0_
                                          have HO_11 := n1_
                                          have HL328_0 := n2_
                                          have HL330_0 := n3_
                                          have HO333 := n4_
                                          have HR328_0 := n5_
                                          have HR330_0 := n6_
                                          have HB := n7_
                                          clear n0_ n1_ n2_ n3_ n4_ n5_ n6_ n7_
                                          (try clear hb)
                                          (try clear hb2)
                                          (try clear hk)
                                          (try clear hi)
                                          (try clear ho0)
                                          obtain ⟨Ao45, co45, eo45⟩ := Kd.R_slice HO333.out
                                          (first | subst eo45 | (injection eo45 with f1_ f2_ f3_; have f4_ := f1_.symm; have f5_ := f3_.symm; clear f1_ f2_ f3_; subst f4_; subst f5_))
                                          refine hK.out _ _ ⟨HS0_, HS1_, ((HB.out.cell (World.block_lt_of_cell? w _ hw329_0)).trans hw329_0), HS3_⟩ (fun hHeld => ?_)
                                          clear hK K
                                          refine norm_ (a' := ?_) ?_ ?_
                                          rotate_left
                                          · show Act.put _ (some 86) _ = _
                                            simp only [Act.put, List.setIfInBounds_toArray, List.set_cons_zero, List.set_cons_succ, i64_w, i32_w]
                                            rfl
                                          refine one_ (i := 19) (N := some 88) #[true, true, true, true, true, true, true, true, true, true, true, true, true, true, true, true, true, true, true, true, false, false, false, false, false] rfl rfl (one_of HT_.out (by kernel_rfl)) (by decide) (fun K hK => ?_)
                                          refine goes_ Try.func12 (by kernel_rfl) rfl #[.slice A328_0 (rd_L2 x11_3 (rd x9_2 x12_3)).length c328_0, .int .i64 x12_3, .int .i64 (wrap64 (rd l1 x12_3)), .slice Ao45 t331.length co45, .int .i64 a2] (by rfl) rfl rfl (by (try simp only [List.map_toArray, List.map_cons, List.map_nil]); first | done | rfl | (simp only [List.length_drop, List.length_take]; rfl)) ?_
                                          with_reducible refine (down_Learn.calls k3 _ _ (rd_L2 x11_3 (rd x9_2 x12_3)) x12_3 (wrap64 (rd l1 x12_3)) _ _ t331 a2 t334 t335 _ ?side1 ?side2 ?side3 ?side4 A38.out).mono ?_
                                          (case side1 => repeat (first | exact (by repeat (first | (with_reducible exact HR328_0.out) | (with_reducible refine Kd.C_alloc ?_ _) | (with_reducible refine Kd.C_drewN ?_ _) | (with_reducible refine Kd.C_drew ?_) | exact HR328_0.out)) | (with_reducible refine Kd.C_alloc ?_ _) | (with_reducible refine Kd.C_drewN ?_ _) | (with_reducible refine Kd.C_drew ?_)))
                                          (case side2 => exact HC328_0.out)
                                          (case side3 => repeat (first | exact (Kd.R_reads' HO333.out).2.2 | (with_reducible refine Kd.C_alloc ?_ _) | (with_reducible refine Kd.C_drewN ?_ _) | (with_reducible refine Kd.C_drew ?_)))
                                          (case side4 => exact (Kd.R_reads' HO333.out).2.1)
                                          rintro e w46 ⟨v336, rfl, ho0, hb⟩
                                          obtain ⟨Av336, cv336, rfl⟩ := Kd.R_slice ho0
                                          have HS0_ := (hb.cell (World.block_lt_of_cell? _ _ (hHeld.1))).trans (hHeld.1)
                                          have HS1_ := (hb.cell (World.block_lt_of_cell? _ _ (hHeld.2.1))).trans (hHeld.2.1)
                                          have HS3_ := (hb.cell (World.block_lt_of_cell? _ _ (hHeld.2.2.2))).trans (hHeld.2.2.2)
                                          refine ⟨_, rfl, ?_⟩
                                          have n0_ := Aside0.mk (Kd.R_below (by (with_reducible repeat (first | apply Kd.R_alloc | apply Kd.R_drewN | apply Kd.R_drew)); exact HO_9.out) hb)
                                          have n1_ := Aside0.mk (Kd.S_elder' (by (with_reducible repeat (first | apply Kd.S_alloc | apply Kd.S_drewN | apply Kd.S_drew)); exact HO_11.out) (Kd.R_base ho0) hb)
                                          have n2_ := Aside0.mk (Kd.R_elder' (by (with_reducible repeat (first | apply Kd.R_alloc | apply Kd.R_drewN | apply Kd.R_drew)); exact HL328_0.out) (Kd.R_base ho0) hb)
                                          have n3_ := Aside0.mk (Kd.R_elder' (by (with_reducible repeat (first | apply Kd.R_alloc | apply Kd.R_drewN | apply Kd.R_drew)); exact HL330_0.out) (Kd.R_base ho0) hb)
                                          have n4_ := Aside0.mk (Kd.R_elder' (by (with_reducible repeat (first | apply Kd.R_alloc | apply Kd.R_drewN | apply Kd.R_drew)); exact HO333.out) (Kd.R_base ho0) hb)
                                          have n5_ := Aside0.mk (Kd.R_lower (Kd.R_new' (Kd.R_new' (Kd.R_new' ho0 (Kd.R_lt (by (with_reducible repeat (first | apply Kd.R_alloc | apply Kd.R_drewN | apply Kd.R_drew)); exact HL328_0.out))) (Kd.R_lt (by (with_reducible repeat (first | apply Kd.R_alloc | apply Kd.R_drewN | apply Kd.R_drew)); exact HL330_0.out))) (Kd.R_lt (by (with_reducible repeat (first | apply Kd.R_alloc | apply Kd.R_drewN | apply Kd.R_drew)); exact HO333.out))) (below_size (by repeat (first | (with_reducible first | exact HB.out | apply below_alloc | apply pw_below_drewN | apply below_drew1) | exact HB.out))))
                                          have n6_ := Aside0.mk (Kd.C_below (by repeat (first | (with_reducible exact HR328_0.out) | (with_reducible refine Kd.C_alloc ?_ _) | (with_reducible refine Kd.C_drewN ?_ _) | (with_reducible refine Kd.C_drew ?_) | exact HR328_0.out)) hb)
                                          have n7_ := Aside0.mk (Kd.C_below (by repeat (first | (with_reducible exact HR330_0.out) | (with_reducible refine Kd.C_alloc ?_ _) | (with_reducible refine Kd.C_drewN ?_ _) | (with_reducible refine Kd.C_drew ?_) | exact HR330_0.out)) hb)
                                          have n8_ := Aside0.mk (below_step (by repeat (first | (with_reducible first | exact HB.out | apply below_alloc | apply pw_below_drewN | apply below_drew1) | exact HB.out)) hb)
                                          clear HO_9
                                          clear HO_11
                                          clear HL328_0
                                          clear HL330_0
                                          clear HO333
                                          clear HR328_0
                                          clear HR330_0
                                          clear HB
                                          have HO_9 := n0_
                                          have HO_11 := n1_
                                          have HL328_0 := n2_
                                          have HL330_0 := n3_
                                          have HO333 := n4_
                                          have HO337 := n5_
                                          have HR328_0 := n6_
                                          have HR330_0 := n7_
                                          have HB := n8_
                                          clear n0_ n1_ n2_ n3_ n4_ n5_ n6_ n7_ n8_
                                          (try clear hb)
                                          (try clear hb2)
                                          (try clear hk)
                                          (try clear hi)
                                          (try clear ho0)
                                          refine hK.out _ _ ⟨HS0_, HS1_, ((HB.out.cell (World.block_lt_of_cell? w _ hw329_0)).trans hw329_0), HS3_⟩ (fun hHeld => ?_)
                                          clear hK K
                                          refine norm_ (a' := ?_) ?_ ?_
                                          rotate_left
                                          · show Act.put _ (some 88) _ = _
                                            simp only [Act.put, List.setIfInBounds_toArray, List.set_cons_zero, List.set_cons_succ, i64_w, i32_w]
                                            rfl
                                          refine pure_ (i := 20) (N := some 68) (v := ?_) (a' := ?_) #[true, true, true, true, true, true, true, true, true, true, true, true, true, true, true, true, true, true, true, true, true, false, false, false, false] rfl rfl (any_of HT_.out (by kernel_rfl)) (fun _ _ _ h => h) (Or.inl ⟨by rfl, ?_⟩) ?_ ?_
                                          rotate_left
                                          · intro w'
                                            go_simp
                                            with_reducible rfl
                                          rotate_left
                                          · simp only [Act.put, List.setIfInBounds_toArray, List.set_cons_zero, List.set_cons_succ, i64_w, i32_w]
                                            rfl
                                          refine pure_ (i := 21) (N := some 89) (v := ?_) (a' := ?_) #[true, true, true, true, true, true, true, true, true, true, true, true, true, true, true, true, true, true, true, true, true, true, false, false, false] rfl rfl (any_of HT_.out (by kernel_rfl)) (fun _ _ _ h => h) (Or.inl ⟨by rfl, ?_⟩) ?_ ?_
                                          rotate_left
                                          · intro w'
                                            go_simp
                                            with_reducible rfl
                                          rotate_left
                                          · simp only [Act.put, List.setIfInBounds_toArray, List.set_cons_zero, List.set_cons_succ, i64_w, i32_w]
                                            rfl
                                          refine pure_ (i := 22) (N := some 90) (v := ?_) (a' := ?_) #[true, true, true, true, true, true, true, true, true, true, true, true, true, true, true, true, true, true, true, true, true, true, true, false, false] rfl rfl (any_of HT_.out (by kernel_rfl)) (fun _ _ _ h => h) (Or.inl ⟨by rfl, ?_⟩) ?_ ?_
                                          rotate_left
                                          · intro w'
                                            go_simp
                                            with_reducible rfl
                                          rotate_left
                                          · simp only [Act.put, List.setIfInBounds_toArray, List.set_cons_zero, List.set_cons_succ, i64_w, i32_w]
                                            rfl
                                          refine pure_ (i := 23) (N := some 13) (v := ?_) (a' := ?_) #[true, true, true, true, true, true, true, true, true, true, true, true, true, true, true, true, true, true, true, true, true, true, true, true, false] rfl rfl (any_of HT_.out (by kernel_rfl)) (fun _ _ _ h => h) (Or.inl ⟨by rfl, ?_⟩) ?_ ?_
                                          rotate_left
                                          · intro w'
                                            go_simp
                                            with_reducible rfl
                                          rotate_left
                                          · simp only [Act.put, List.setIfInBounds_toArray, List.set_cons_zero, List.set_cons_succ, i64_w, i32_w]
                                            rfl
                                          refine pure_ (i := 24) (N := some 14) (v := ?_) (a' := ?_) #[true, true, true, true, true, true, true, true, true, true, true, true, true, true, true, true, true, true, true, true, true, true, true, true, true] rfl rfl (any_of HT_.out (by kernel_rfl)) (fun _ _ _ h => h) (Or.inl ⟨by rfl, ?_⟩) ?_ ?_
                                          rotate_left
                                          · intro w'
                                            go_simp
                                            with_reducible rfl
                                          rotate_left
                                          · simp only [Act.put, List.setIfInBounds_toArray, List.set_cons_zero, List.set_cons_succ, i64_w, i32_w]
                                            rfl
                                          refine done_ (done_of HT_.out (by kernel_rfl)) ?_
                                          have p338 : 0 ≤ (x12_3 : Int) := of_decide_eq_true (by first | (with_reducible assumption) | assumption)
                                          have q338 : x12_3 < (x9_2.length : Int) := of_decide_eq_true (by first | (with_reducible assumption) | assumption)
                                          obtain ⟨ad338, e338, hx338_0⟩ := Kd.at_int (Kd.R_reads' HO_9.out).2.2 x12_3 p338 q338
                                          obtain rfl : ad327 = ad338 := (by injection e338)
                                          replace p338 := eq_true p338
                                          replace q338 := eq_true q338
                                          have p40 : 0 ≤ ((rd x9_2 x12_3) : Int) := of_decide_eq_true (by first | (with_reducible assumption) | assumption)
                                          have q40 : ((rd x9_2 x12_3) : Int) < ((x11_3.length : Int) : Int) := of_decide_eq_true (by first | (with_reducible assumption) | assumption)
                                          obtain ⟨go40, co40, eo40, gb40, gl40, cl40, HG40⟩ := Kd.S_form HO_11.out (by omega)
                                          (first | cases eo40 | (injection eo40 with ea_ en_ ec_; (first | subst ea_ | (injection ea_ with ea_; subst ea_)); subst ec_; clear en_))
                                          have GB40 := Aside0.mk gb40
                                          have GG40 := Aside0.mk HG40
                                          clear gb40 gl40 HG40
                                          (first | simp only [add_plain] at hx328_0 | skip)
                                          (first | simp only [add_plain] at hx330_0 | skip)
                                          obtain ⟨_, ce40, hcl40, hM40, hcc40, hfr40, _, _⟩ := Kd.S_elem HO_11.out [] ((rd x9_2 x12_3) : Int) p40 q40
                                          obtain ⟨ve40_0, rfl, ge40_0⟩ := hM40
                                          have hx40_0 := hcc40 0 _ rfl
                                          have hf40_0 := hfr40 0
                                          (try simp only [show ((Kd.slice 35 k35)).sz = 1 from rfl, Nat.mul_one, Nat.add_zero] at hx40_0)
                                          (try simp only [show ((Kd.slice 35 k35)).sz = 1 from rfl, Nat.mul_one, Nat.add_zero] at hf40_0)
                                          clear hcl40 hcc40 hfr40; (try clear hM40)
                                          replace p40 := eq_true p40
                                          replace q40 := eq_true q40
                                          have n_ := Aside0.mk (Kd.S_mono (ok' := (fun k_ => some k_ ≠ (.slice Ao45 t331.length co45 : Value).ownBlock ∧ some k_ ≠ (.slice Av336 t334.length cv336 : Value).ownBlock)) HO_11.out (fun k_ hk => ⟨hk.1.2, hk.2⟩))
                                          clear HO_11
                                          have HO_11 := n_
                                          clear n_
                                          have HX47 := Aside0.mk (show Kd.S (Kd.slice 35 k35) 22 w46 w.heap.size (fun k_ => ((fun k_ => some k_ ≠ (.slice Ao45 t331.length co45 : Value).ownBlock)) k_ ∧ ¬ ((fun k_ => some k_ = (.slice Av336 t334.length cv336 : Value).ownBlock)) k_) (.slice (some ⟨go40, 0, none⟩) x11_3.length co43) x11_3 from (by (with_reducible repeat (first | apply Kd.S_alloc | apply Kd.S_drewN | apply Kd.S_drew)); exact Kd.S_mono HO_11.out (fun k_ hk => ⟨hk.1, fun e_ => hk.2 e_⟩)))
                                          obtain ⟨oki47, ce47, hcl47, hM47, hcc47, hfr47, hoki47, hH47⟩ := Kd.S_elem HX47.out [] ((rd x9_2 x12_3) : Int) (of_decide_eq_true (by first | (with_reducible assumption) | assumption)) (by have h_ : ((rd x9_2 x12_3) : Int) < ((x11_3.length : Int) : Int) := of_decide_eq_true (by first | (with_reducible assumption) | assumption); first | exact h_ | (have e_ := (Kd.S_reads' HO_11.out).1; omega) | simpa using h_)
                                          obtain ⟨ve47_0, rfl, ge47_0⟩ := hM47
                                          have HP47 := Kd.S_seg hH47 (of_decide_eq_true (by first | (with_reducible assumption) | assumption)) (by have h_ : ((rd x9_2 x12_3) : Int) < ((x11_3.length : Int) : Int) := of_decide_eq_true (by first | (with_reducible assumption) | assumption); first | exact h_ | (have e_ := (Kd.S_reads' HO_11.out).1; omega) | simpa using h_) (seg := [.slice Av336 t334.length cv336]) (j := 0) (show 1 ≤ 1 from by decide) (x' := t334) (Kd.M_row (Kd.R_mono (Kd.R_tight rfl (Kd.R_mono (ok' := fun k_ => ((fun k_ => some k_ ≠ (.slice Ao45 t331.length co45 : Value).ownBlock)) k_ ∧ k_ ≠ go40) (Kd.R_apart' (HO337.out) (Kd.S_typed HO_11.out) (by decide)) (fun k_ hk => ⟨hk.1.2, fun e_ => (hk.2) (by rw [e_]; rfl)⟩))) (fun _ h_ => Or.inr (h_)))) (fun _ hk => hk) (fun k_ hk_ => ((Kd.R_mono (ok' := fun k_ => ((fun k_ => some k_ ≠ (.slice Ao45 t331.length co45 : Value).ownBlock)) k_ ∧ k_ ≠ go40) (Kd.R_apart' (HO337.out) (Kd.S_typed HO_11.out) (by decide)) (fun k_ hk => ⟨hk.1.2, fun e_ => (hk.2) (by rw [e_]; rfl)⟩))).1 k_ hk_.symm)
                                          have hx47_0 := hcc47 0 _ rfl
                                          (try simp only [show ((Kd.slice 35 k35)).sz = 1 from rfl, Nat.mul_one, Nat.add_zero] at hx47_0)
                                          have hf47_0 := hfr47 0
                                          (try simp only [show ((Kd.slice 35 k35)).sz = 1 from rfl, Nat.mul_one, Nat.add_zero] at hf47_0)
                                          clear hcl47 hcc47 hfr47 hoki47 hH47; (try clear hM47)
                                          (try simp only [show ((Kd.slice 35 k35)).sz = 1 from rfl, Nat.mul_one, Nat.add_zero] at HP47)
                                          try go_wp2_with (first | ((with_reducible refine gate_store (t := 22) (p := 99) rfl ?_); refine store_event (t := 22) (p := 99) (v := ?vo_w48) (w1 := (w46.setCell ⟨go40, ((rd x9_2 x12_3) : Int).toNat, none⟩ (.slice Av336 t334.length cv336))) ?hg ?ho ?hn ?hr ?_; (case ho => rfl); (case hg => rfl); (case hn => rfl); (case hr => first | (go_simp; done) | (go_simp; rfl)); intro w48 hw; have hg : w46.grownBy w48 (some go40) := (by rw [hw]; exact HP47.2); have hp_ : Kd.S (Kd.slice 35 k35) 22 w48 w.heap.size (fun k_ => some k_ ≠ (.slice Ao45 t331.length co45 : Value).ownBlock) (.slice (some ⟨go40, 0, none⟩) x11_3.length co43) y339 := (by rw [hw, Ny339.out]; exact HP47.1); clear HP47; have n0_ := Aside0.mk (Kd.R_over' (v := (.slice (some ⟨go40, 0, none⟩) x11_3.length co43)) (by (with_reducible repeat (first | apply Kd.R_alloc | apply Kd.R_drewN | apply Kd.R_drew)); exact HO_9.out) (Kd.S_typed HO_11.out) (by decide) hg); have n1_ := Aside0.mk (hp_); have n2_ := Aside0.mk (Kd.R_after (v := (.slice (some ⟨go40, 0, none⟩) x11_3.length co43)) (v1 := (.slice (some ⟨go40, 0, none⟩) x11_3.length co43)) (ok := (fun k_ => some k_ ≠ (.slice Ao45 t331.length co45 : Value).ownBlock ∧ some k_ ≠ (.slice Av336 t334.length cv336 : Value).ownBlock)) (by (with_reducible repeat (first | apply Kd.R_alloc | apply Kd.R_drewN | apply Kd.R_drew)); exact Kd.R_mono HL328_0.out (fun _ hk => ⟨⟨hk.1.2, hk.2⟩, hk.1.1.2⟩)) hg (.inl rfl)); have n3_ := Aside0.mk (Kd.R_after (v := (.slice (some ⟨go40, 0, none⟩) x11_3.length co43)) (v1 := (.slice (some ⟨go40, 0, none⟩) x11_3.length co43)) (ok := (fun k_ => some k_ ≠ (.slice Ao45 t331.length co45 : Value).ownBlock ∧ some k_ ≠ (.slice Av336 t334.length cv336 : Value).ownBlock)) (by (with_reducible repeat (first | apply Kd.R_alloc | apply Kd.R_drewN | apply Kd.R_drew)); exact Kd.R_mono HL330_0.out (fun _ hk => ⟨⟨hk.1.2, hk.2⟩, hk.1.1.2⟩)) hg (.inl rfl)); have n4_ := Aside0.mk (Kd.R_over' (v := (.slice (some ⟨go40, 0, none⟩) x11_3.length co43)) (by (with_reducible repeat (first | apply Kd.R_alloc | apply Kd.R_drewN | apply Kd.R_drew)); exact HO333.out) (Kd.S_typed HO_11.out) (by decide) hg); have n5_ := Aside0.mk ((by rw [hw]; exact below_set (HB.out) GB40.out : Below w.heap.size w w48)); clear HO_9; clear HO_11; clear HL328_0; clear HL330_0; clear HO333; clear HB; clear HO337; have HO_9 := n0_; have HO_11 := n1_; have HL328_0 := n2_; have HL330_0 := n3_; have HO333 := n4_; have HB := n5_; clear n0_ n1_ n2_ n3_ n4_ n5_; clear hg hw hp_))
                                          go_roundg k3
                                          case measure => have := HJ4.out; have := HK2.out; have := HK3.out; omega
                                          case rel => exact ⟨(y339), (wrap64 (x12_3 - 1)), (by first | rfl | (simp; done) | (simp [*]; done)), H', ⟨by have := HJ4.out; have := HK2.out; have := HK3.out; omega⟩, ⟨by (with_reducible repeat (first | apply Kd.R_alloc | apply Kd.R_drewN | apply Kd.R_drew)); exact HO_9.out⟩, ⟨by (with_reducible repeat (first | apply Kd.S_alloc | apply Kd.S_drewN | apply Kd.S_drew)); exact Kd.S_mono HO_11.out (fun _ hk => trivial)⟩, ⟨by repeat (first | (with_reducible first | exact HB.out | apply below_alloc | apply pw_below_drewN | apply below_drew1) | exact HB.out)⟩⟩
                                        · rw [if_neg c39] at H
                                          have c39b0 : (t335 == 0) = false := beq_eq_false_iff_ne.mpr c39
                                          have c39b1 : (t335 != 0) = true := bne_iff_ne.mpr c39
                                          exact absurd (Option.some.inj H) (by rw [HRT.out]; decide)
                                      · rw [if_neg c36] at H
                                        exact absurd H (by simp)
                                    · rw [if_neg c35] at H
                                      exact absurd H (by simp)
                                  · rw [if_neg c34] at H
                                    exact absurd H (by simp)
                                · rw [if_neg c33] at H
                                  exact absurd H (by simp)
                              · rw [if_neg c32] at H
                                exact absurd H (by simp)
                            · rw [if_neg c31] at H
                              exact absurd H (by simp)
                          · rw [if_neg c30] at H
                            have c30b0 : decide (0 < x12_3) = false := decide_eq_false c30
                            clear c30
                            have H' := Aside0.mk H
                            clear H
                            go_wp2
                            go_loopg [101] k3 (fun kq v101 w' => ∃ (x101_4 : Int), v101 = .int .i64 x101_4 ∧ Aside0 (slotmeshlaw21_DownTree.l2 kq t318 (ji11) x9_2 x11_3 (ji11) x101_4 = some r) ∧ Aside0 (kq ≤ k3) ∧ Aside0 (Kd.R (Kd.int .i64) 3 w' w.heap.size (fun _ => True) v320 x9_2) ∧ Aside0 (Kd.S (Kd.slice 35 k35) 22 w' w.heap.size (fun _ => True) v325 x11_3) ∧ Aside0 (Below w.heap.size w w'))
                            case atStart => exact ⟨(0), (by first | rfl | (simp; done) | (simp [*]; done)), H', ⟨Nat.le_refl _⟩, ⟨by (with_reducible repeat (first | apply Kd.R_alloc | apply Kd.R_drewN | apply Kd.R_drew)); exact HO_9.out⟩, ⟨by (with_reducible repeat (first | apply Kd.S_alloc | apply Kd.S_drewN | apply Kd.S_drew)); exact HO_11.out⟩, ⟨by repeat (first | (with_reducible first | exact HB.out | apply below_alloc | apply pw_below_drewN | apply below_drew1) | exact HB.out)⟩⟩
                            case round =>
                              clear H'
                              try clear c1
                              try clear c2
                              try clear p2
                              try clear q2
                              try clear hx2
                              try clear c3
                              try clear p3
                              try clear q3
                              try clear hx3
                              try clear c4
                              try clear p4
                              try clear q4
                              try clear hx4
                              try clear hf4
                              try clear c6
                              try clear p6
                              try clear c7
                              try clear c7b0
                              try clear c8
                              try clear c8b0
                              try clear c9
                              try clear c9b0
                              try clear c10
                              try clear c12
                              try clear c12b0
                              try clear c12b1
                              try clear c13
                              try clear c13b0
                              try clear c13b1
                              try clear c16
                              try clear c16b0
                              try clear c18
                              try clear c18b0
                              try clear c19
                              try clear c19b0
                              try clear c20
                              try clear c20b0
                              try clear c20b1
                              try clear c21
                              try clear c21b0
                              try clear c22
                              try clear c22b0
                              try clear p23
                              try clear q23
                              try clear hx23
                              try clear hf23
                              try clear c26
                              try clear c26b0
                              try clear c26b1
                              try clear c27
                              try clear c27b0
                              try clear c27b1
                              try clear c30
                              try clear c30b0
                              try clear c31
                              try clear c31b0
                              try clear c32
                              try clear c32b0
                              try clear p32
                              try clear q32
                              try clear hx32
                              try clear c33
                              try clear c33b0
                              try clear p33
                              try clear q33
                              try clear hx33
                              try clear c34
                              try clear c34b0
                              try clear c35
                              try clear c35b0
                              try clear c36
                              try clear c36b0
                              try clear c39
                              try clear c39b0
                              try clear c39b1
                              try clear c40
                              try clear p40
                              try clear q40
                              try clear hx40
                              try clear hf40
                              try clear c47
                              try clear hx47
                              try clear hf47
                              try clear hx23_0
                              try clear hx322_0
                              try clear hx327_0
                              try clear hx328_0
                              try clear hx329_0
                              try clear hx330_0
                              try clear hx338_0
                              try clear hx40_0
                              try clear hx47_0
                              try clear p2
                              try clear p23
                              try clear p3
                              try clear p322
                              try clear p327
                              try clear p328
                              try clear p329
                              try clear p330
                              try clear p338
                              try clear p40
                              try clear p6
                              try clear q2
                              try clear q23
                              try clear q3
                              try clear q322
                              try clear q327
                              try clear q328
                              try clear q329
                              try clear q330
                              try clear q338
                              try clear q40
                              obtain ⟨x101_4, rfl, HA, HK4, HO_9, HO_11, HB⟩ := hrel
                              cases gk with
                              | zero => exact absurd HA.out (by simp [slotmeshlaw21_DownTree.l2])
                              | succ k4 =>
                                have H := HA.out
                                clear HA
                                simp only [slotmeshlaw21_DownTree.l2] at H
                                by_cases c49 : x101_4 < (ji11)
                                · rw [if_pos c49] at H
                                  have c49b0 : decide (x101_4 < (ji11)) = true := decide_eq_true c49
                                  clear c49
                                  by_cases c50 : 0 ≤ (ji11)
                                  · rw [if_pos c50] at H
                                    have c50b0 := eq_true c50
                                    have c50b1 : decide (0 ≤ (ji11)) = true := decide_eq_true c50
                                    clear c50
                                    by_cases c51 : ((ji11) : Int).toNat ≤ 281474976710656
                                    · rw [if_pos c51] at H
                                      have c51b0 := eq_true c51
                                      have c51b1 : decide (((ji11) : Int).toNat ≤ 281474976710656) = true := decide_eq_true c51
                                      clear c51
                                      obtain ⟨y340, hy340⟩ : ∃ y_ : List Bool, y_ = (List.replicate ((ji11) : Int).toNat false) := ⟨_, rfl⟩
                                      replace H : (slotmeshlaw21_DownTree.l3 k4 t318 (ji11) x9_2 x11_3 x101_4 y340 x101_4 (ji11) x101_4) = some r := by first | (rw [hy340]; with_reducible exact H) | (have H2_ := (Option.bind_some _ _).symm.trans H; rw [hy340]; with_reducible exact H2_) | (have H2_ := (Option.bind_some _ _).symm.trans H; with_reducible exact H2_) | with_reducible exact H | (rw [hy340]; exact H) | exact H
                                      have Ny340 := Aside0.mk hy340
                                      clear hy340
                                      have H' := Aside0.mk H
                                      clear H
                                      go_wp2_with (first | ((with_reducible refine gate_dst (N := 105) rfl ?_); (try (refine gate_guard (by rfl) ?_; dsimp only)); refine Kd.R_make Kd.bool _ 4 rfl (N := 105) rfl 44 _ _ rfl (ji11) rfl rfl Try.underlying44 (.bool false) 1 info4 rfl (by decide) (by omega) false (ok := fun _ => True) (okp := fun _ => True) rfl (fun _ hk => hk) trivial (of_decide_eq_true (by first | (with_reducible assumption) | assumption)) (Nat.le_trans (Nat.mul_le_mul_right _ (of_decide_eq_true (by first | (with_reducible assumption) | assumption) : (ji11).toNat ≤ 281474976710656)) (by omega)) (Below.refl _ _) (Nat.le_refl _) ?_; intro v341 w52 ho53 hb hg_ hnew_; clear hg_ hnew_; (first | rw [← Ny340.out] at ho53 | (simp only [Int.reduceToNat] at ho53; rw [← Ny340.out] at ho53)); have n0_ := Aside0.mk (Kd.R_below (by (with_reducible repeat (first | apply Kd.R_alloc | apply Kd.R_drewN | apply Kd.R_drew)); exact HO_9.out) hb); have n1_ := Aside0.mk (Kd.S_below (by (with_reducible repeat (first | apply Kd.S_alloc | apply Kd.S_drewN | apply Kd.S_drew)); exact HO_11.out) hb); have n2_ := Aside0.mk (Kd.R_lower ho53 (below_size (by repeat (first | (with_reducible first | exact HB.out | apply below_alloc | apply pw_below_drewN | apply below_drew1) | exact HB.out)))); have n3_ := Aside0.mk (below_step (by repeat (first | (with_reducible first | exact HB.out | apply below_alloc | apply pw_below_drewN | apply below_drew1) | exact HB.out)) hb); clear HO_9; clear HO_11; clear HB; have HO_9 := n0_; have HO_11 := n1_; have HO342 := n2_; have HB := n3_; clear n0_ n1_ n2_ n3_; clear hb ho53))
                                      go_loopg [17] k4 (fun kq v17 w' => ∃ (x16_5 : List Bool) (x17_5 : Int), v17 = .int .i64 x17_5 ∧ Aside0 (slotmeshlaw21_DownTree.l3 kq t318 (ji11) x9_2 x11_3 x101_4 x16_5 x17_5 (ji11) x101_4 = some r) ∧ Aside0 (kq ≤ k4) ∧ Aside0 (Kd.R (Kd.int .i64) 3 w' w.heap.size (fun _ => True) v320 x9_2) ∧ Aside0 (Kd.S (Kd.slice 35 k35) 22 w' w.heap.size (fun _ => True) v325 x11_3) ∧ Aside0 (Kd.R Kd.bool 4 w' w.heap.size (fun _ => True) v341 x16_5) ∧ Aside0 (Below w.heap.size w w'))
                                      case atStart => exact ⟨(y340), (x101_4), (by first | rfl | (simp; done) | (simp [*]; done)), H', ⟨Nat.le_refl _⟩, ⟨by (with_reducible repeat (first | apply Kd.R_alloc | apply Kd.R_drewN | apply Kd.R_drew)); exact HO_9.out⟩, ⟨by (with_reducible repeat (first | apply Kd.S_alloc | apply Kd.S_drewN | apply Kd.S_drew)); exact HO_11.out⟩, ⟨by (with_reducible repeat (first | apply Kd.R_alloc | apply Kd.R_drewN | apply Kd.R_drew)); exact HO342.out⟩, ⟨by repeat (first | (with_reducible first | exact HB.out | apply below_alloc | apply pw_below_drewN | apply below_drew1) | exact HB.out)⟩⟩
                                      case round =>
                                        clear H'
                                        try clear c1
                                        try clear c2
                                        try clear p2
                                        try clear q2
                                        try clear hx2
                                        try clear c3
                                        try clear p3
                                        try clear q3
                                        try clear hx3
                                        try clear c4
                                        try clear p4
                                        try clear q4
                                        try clear hx4
                                        try clear hf4
                                        try clear c5
                                        try clear c6
                                        try clear p6
                                        try clear c7
                                        try clear c7b0
                                        try clear c8
                                        try clear c8b0
                                        try clear c9
                                        try clear c9b0
                                        try clear c10
                                        try clear c12
                                        try clear c12b0
                                        try clear c12b1
                                        try clear c13
                                        try clear c13b0
                                        try clear c13b1
                                        try clear c16
                                        try clear c16b0
                                        try clear c18
                                        try clear c18b0
                                        try clear c19
                                        try clear c19b0
                                        try clear c20
                                        try clear c20b0
                                        try clear c20b1
                                        try clear c21
                                        try clear c21b0
                                        try clear c22
                                        try clear c22b0
                                        try clear p23
                                        try clear q23
                                        try clear hx23
                                        try clear hf23
                                        try clear c26
                                        try clear c26b0
                                        try clear c26b1
                                        try clear c27
                                        try clear c27b0
                                        try clear c27b1
                                        try clear c30
                                        try clear c30b0
                                        try clear c31
                                        try clear c31b0
                                        try clear c32
                                        try clear c32b0
                                        try clear p32
                                        try clear q32
                                        try clear hx32
                                        try clear c33
                                        try clear c33b0
                                        try clear p33
                                        try clear q33
                                        try clear hx33
                                        try clear c34
                                        try clear c34b0
                                        try clear c35
                                        try clear c35b0
                                        try clear c36
                                        try clear c36b0
                                        try clear c39
                                        try clear c39b0
                                        try clear c39b1
                                        try clear c40
                                        try clear p40
                                        try clear q40
                                        try clear hx40
                                        try clear hf40
                                        try clear c47
                                        try clear hx47
                                        try clear hf47
                                        try clear c49
                                        try clear c49b0
                                        try clear c50
                                        try clear c50b0
                                        try clear c50b1
                                        try clear c51
                                        try clear c51b0
                                        try clear c51b1
                                        try clear hx23_0
                                        try clear hx322_0
                                        try clear hx327_0
                                        try clear hx328_0
                                        try clear hx329_0
                                        try clear hx330_0
                                        try clear hx338_0
                                        try clear hx40_0
                                        try clear hx47_0
                                        try clear p2
                                        try clear p23
                                        try clear p3
                                        try clear p32
                                        try clear p322
                                        try clear p327
                                        try clear p328
                                        try clear p329
                                        try clear p33
                                        try clear p330
                                        try clear p338
                                        try clear p4
                                        try clear p40
                                        try clear p6
                                        try clear q2
                                        try clear q23
                                        try clear q3
                                        try clear q32
                                        try clear q322
                                        try clear q327
                                        try clear q328
                                        try clear q329
                                        try clear q33
                                        try clear q330
                                        try clear q338
                                        try clear q4
                                        try clear q40
                                        obtain ⟨x16_5, x17_5, rfl, HA, HK5, HO_9, HO_11, HO_16, HB⟩ := hrel
                                        cases gk with
                                        | zero => exact absurd HA.out (by simp [slotmeshlaw21_DownTree.l3])
                                        | succ k5 =>
                                          have H := HA.out
                                          clear HA
                                          simp only [slotmeshlaw21_DownTree.l3] at H
                                          by_cases c54 : x17_5 > 0
                                          · rw [if_pos c54] at H
                                            have c54b0 : decide (0 < x17_5) = true := decide_eq_true c54
                                            clear c54
                                            by_cases c55 : 0 ≤ x17_5
                                            · rw [if_pos c55] at H
                                              have c55b0 : decide (0 ≤ x17_5) = true := decide_eq_true c55
                                              clear c55
                                              by_cases c56 : x17_5 < (x9_2.length : Int)
                                              · rw [if_pos c56] at H
                                                have c56b0 : decide (x17_5 < (x9_2.length : Int)) = true := decide_eq_true c56
                                                clear c56
                                                by_cases c57 : 0 ≤ (rd x9_2 x17_5)
                                                · rw [if_pos c57] at H
                                                  have c57b0 : decide (0 ≤ (rd x9_2 x17_5)) = true := decide_eq_true c57
                                                  clear c57
                                                  by_cases c58 : (rd x9_2 x17_5) < (x16_5.length : Int)
                                                  · rw [if_pos c58] at H
                                                    have c58b0 : decide ((rd x9_2 x17_5) < (x16_5.length : Int)) = true := decide_eq_true c58
                                                    clear c58
                                                    obtain ⟨y344, hy344⟩ : ∃ y_ : List Bool, y_ = (x16_5.set ((rd x9_2 x17_5) : Int).toNat true) := ⟨_, rfl⟩
                                                    replace H : (slotmeshlaw21_DownTree.l3 k5 t318 (ji11) x9_2 x11_3 x101_4 y344 (rd x9_2 x17_5) (ji11) x101_4) = some r := by first | (rw [hy344]; with_reducible exact H) | (have H2_ := (Option.bind_some _ _).symm.trans H; rw [hy344]; with_reducible exact H2_) | (have H2_ := (Option.bind_some _ _).symm.trans H; with_reducible exact H2_) | with_reducible exact H | (rw [hy344]; exact H) | exact H
                                                    have Ny344 := Aside0.mk hy344
                                                    clear hy344
                                                    have H' := Aside0.mk H
                                                    clear H
                                                    obtain ⟨Ao60, co60, eo60⟩ := Kd.R_slice HO_9.out
                                                    subst eo60
                                                    have p343 : 0 ≤ (x17_5 : Int) := of_decide_eq_true (by first | (with_reducible assumption) | assumption)
                                                    have q343 : x17_5 < (x9_2.length : Int) := of_decide_eq_true (by first | (with_reducible assumption) | assumption)
                                                    obtain ⟨ad343, e343, hx343_0⟩ := Kd.at_int (Kd.R_reads' HO_9.out).2.2 x17_5 p343 q343
                                                    cases e343
                                                    replace p343 := eq_true p343
                                                    replace q343 := eq_true q343
                                                    have p59 : 0 ≤ ((rd x9_2 x17_5) : Int) := of_decide_eq_true (by first | (with_reducible assumption) | assumption)
                                                    have q59 : ((rd x9_2 x17_5) : Int) < ((x16_5.length : Int) : Int) := of_decide_eq_true (by first | (with_reducible assumption) | assumption)
                                                    obtain ⟨go59, co59, eo59, gb59, gl59, cl59, HG59⟩ := Kd.R_form HO_16.out (by omega)
                                                    (first | cases eo59 | (injection eo59 with ea_ en_ ec_; (first | subst ea_ | (injection ea_ with ea_; subst ea_)); subst ec_; clear en_))
                                                    have GB59 := Aside0.mk gb59
                                                    have GG59 := Aside0.mk HG59
                                                    clear gb59 gl59 HG59
                                                    obtain ⟨hx59_0, hf59_0⟩ := Kd.R_celln false HO_16.out ((rd x9_2 x17_5) : Int) p59 q59
                                                    replace p59 := eq_true p59
                                                    replace q59 := eq_true q59
                                                    have HP61 := Kd.R_putg HO_16.out ((rd x9_2 x17_5) : Int) true
                                                    go_wp2_with (first | ((with_reducible refine gate_store (t := 4) (p := 118) rfl ?_); refine store_event (t := 4) (p := 118) (v := ?vo_w62) (w1 := (wr.setCell ⟨go59, ((rd x9_2 x17_5) : Int).toNat, none⟩ (.bool true))) ?hg ?ho ?hn ?hr ?_; (case ho => rfl); (case hg => rfl); (case hn => rfl); (case hr => first | (go_simp; done) | (go_simp; rfl)); intro w62 hw; have hg : wr.grownBy w62 (some go59) := (by rw [hw]; exact HP61.2); have hp_ : Kd.R Kd.bool 4 w62 w.heap.size (fun _ => True) (.slice (some ⟨go59, 0, none⟩) x16_5.length co59) y344 := (by rw [hw, Ny344.out]; exact HP61.1); clear HP61; have n0_ := Aside0.mk (Kd.R_over' (v := (.slice (some ⟨go59, 0, none⟩) x16_5.length co59)) (by (with_reducible repeat (first | apply Kd.R_alloc | apply Kd.R_drewN | apply Kd.R_drew)); exact HO_9.out) (Kd.R_typed HO_16.out) (by decide) hg); have n1_ := Aside0.mk (Kd.S_over' (v := (.slice (some ⟨go59, 0, none⟩) x16_5.length co59)) (by (with_reducible repeat (first | apply Kd.S_alloc | apply Kd.S_drewN | apply Kd.S_drew)); exact HO_11.out) (Kd.R_typed HO_16.out) (by decide) hg); have n2_ := Aside0.mk (hp_); have n3_ := Aside0.mk ((by rw [hw]; exact below_set (HB.out) GB59.out : Below w.heap.size w w62)); clear HO_9; clear HO_11; clear HO_16; clear HB; have HO_9 := n0_; have HO_11 := n1_; have HO_16 := n2_; have HB := n3_; clear n0_ n1_ n2_ n3_; clear hg hw hp_; have p345 : 0 ≤ (x17_5 : Int) := of_decide_eq_true (by first | (with_reducible assumption) | assumption); have q345 : x17_5 < (x9_2.length : Int) := of_decide_eq_true (by first | (with_reducible assumption) | assumption); obtain ⟨ad345, e345, hx345_0⟩ := Kd.at_int (Kd.R_reads' HO_9.out).2.2 x17_5 p345 q345; obtain rfl : ad343 = ad345 := (by injection e345); replace p345 := eq_true p345; replace q345 := eq_true q345))
                                                    go_roundg k5
                                                    case measure => have := HJ4.out; have := HK2.out; have := HK3.out; have := HK4.out; have := HK5.out; omega
                                                    case rel => exact ⟨(y344), (rd x9_2 x17_5), (by first | rfl | (simp; done) | (simp [*]; done)), H', ⟨by have := HJ4.out; have := HK2.out; have := HK3.out; have := HK4.out; have := HK5.out; omega⟩, ⟨by (with_reducible repeat (first | apply Kd.R_alloc | apply Kd.R_drewN | apply Kd.R_drew)); exact HO_9.out⟩, ⟨by (with_reducible repeat (first | apply Kd.S_alloc | apply Kd.S_drewN | apply Kd.S_drew)); exact HO_11.out⟩, ⟨by (with_reducible repeat (first | apply Kd.R_alloc | apply Kd.R_drewN | apply Kd.R_drew)); exact HO_16.out⟩, ⟨by repeat (first | (with_reducible first | exact HB.out | apply below_alloc | apply pw_below_drewN | apply below_drew1) | exact HB.out)⟩⟩
                                                  · rw [if_neg c58] at H
                                                    exact absurd H (by simp)
                                                · rw [if_neg c57] at H
                                                  exact absurd H (by simp)
                                              · rw [if_neg c56] at H
                                                exact absurd H (by simp)
                                            · rw [if_neg c55] at H
                                              exact absurd H (by simp)
                                          · rw [if_neg c54] at H
                                            have c54b0 : decide (0 < x17_5) = false := decide_eq_false c54
                                            clear c54
                                            have H' := Aside0.mk H
                                            clear H
                                            go_wp2
                                            go_loopg [120] k5 (fun kq v120 w' => ∃ (x120_6 : Int), v120 = .int .i64 x120_6 ∧ Aside0 (slotmeshlaw21_DownTree.l4 kq t318 (ji11) x9_2 x11_3 x101_4 x16_5 (ji11) x101_4 (ji11) x120_6 = some r) ∧ Aside0 (kq ≤ k5) ∧ Aside0 (Kd.R (Kd.int .i64) 3 w' w.heap.size (fun _ => True) v320 x9_2) ∧ Aside0 (Kd.S (Kd.slice 35 k35) 22 w' w.heap.size (fun _ => True) v325 x11_3) ∧ Aside0 (Kd.R Kd.bool 4 w' w.heap.size (fun _ => True) v341 x16_5) ∧ Aside0 (Below w.heap.size w w'))
                                            case atStart => exact ⟨(0), (by first | rfl | (simp; done) | (simp [*]; done)), H', ⟨Nat.le_refl _⟩, ⟨by (with_reducible repeat (first | apply Kd.R_alloc | apply Kd.R_drewN | apply Kd.R_drew)); exact HO_9.out⟩, ⟨by (with_reducible repeat (first | apply Kd.S_alloc | apply Kd.S_drewN | apply Kd.S_drew)); exact HO_11.out⟩, ⟨by (with_reducible repeat (first | apply Kd.R_alloc | apply Kd.R_drewN | apply Kd.R_drew)); exact HO_16.out⟩, ⟨by repeat (first | (with_reducible first | exact HB.out | apply below_alloc | apply pw_below_drewN | apply below_drew1) | exact HB.out)⟩⟩
                                            case round =>
                                              clear H'
                                              try clear c1
                                              try clear c2
                                              try clear p2
                                              try clear q2
                                              try clear hx2
                                              try clear c3
                                              try clear p3
                                              try clear q3
                                              try clear hx3
                                              try clear c4
                                              try clear p4
                                              try clear q4
                                              try clear hx4
                                              try clear hf4
                                              try clear c5
                                              try clear p5
                                              try clear q5
                                              try clear hx5
                                              try clear hf5
                                              try clear c6
                                              try clear p6
                                              try clear c7
                                              try clear c7b0
                                              try clear c8
                                              try clear c8b0
                                              try clear c9
                                              try clear c9b0
                                              try clear c10
                                              try clear c12
                                              try clear c12b0
                                              try clear c12b1
                                              try clear c13
                                              try clear c13b0
                                              try clear c13b1
                                              try clear c16
                                              try clear c16b0
                                              try clear c18
                                              try clear c18b0
                                              try clear c19
                                              try clear c19b0
                                              try clear c20
                                              try clear c20b0
                                              try clear c20b1
                                              try clear c21
                                              try clear c21b0
                                              try clear c22
                                              try clear c22b0
                                              try clear p23
                                              try clear q23
                                              try clear hx23
                                              try clear hf23
                                              try clear c26
                                              try clear c26b0
                                              try clear c26b1
                                              try clear c27
                                              try clear c27b0
                                              try clear c27b1
                                              try clear c30
                                              try clear c30b0
                                              try clear c31
                                              try clear c31b0
                                              try clear c32
                                              try clear c32b0
                                              try clear p32
                                              try clear q32
                                              try clear hx32
                                              try clear c33
                                              try clear c33b0
                                              try clear p33
                                              try clear q33
                                              try clear hx33
                                              try clear c34
                                              try clear c34b0
                                              try clear p34
                                              try clear q34
                                              try clear hx34
                                              try clear c35
                                              try clear c35b0
                                              try clear c36
                                              try clear c36b0
                                              try clear c39
                                              try clear c39b0
                                              try clear c39b1
                                              try clear c40
                                              try clear p40
                                              try clear q40
                                              try clear hx40
                                              try clear hf40
                                              try clear c47
                                              try clear hx47
                                              try clear hf47
                                              try clear c49
                                              try clear c49b0
                                              try clear c50
                                              try clear c50b0
                                              try clear c50b1
                                              try clear c51
                                              try clear c51b0
                                              try clear c51b1
                                              try clear c54
                                              try clear c54b0
                                              try clear c55
                                              try clear c55b0
                                              try clear c56
                                              try clear c56b0
                                              try clear c57
                                              try clear c57b0
                                              try clear c58
                                              try clear c58b0
                                              try clear p59
                                              try clear q59
                                              try clear hx59
                                              try clear hf59
                                              try clear hx23_0
                                              try clear hx322_0
                                              try clear hx327_0
                                              try clear hx328_0
                                              try clear hx329_0
                                              try clear hx330_0
                                              try clear hx338_0
                                              try clear hx343_0
                                              try clear hx345_0
                                              try clear hx40_0
                                              try clear hx47_0
                                              try clear hx59_0
                                              try clear p2
                                              try clear p23
                                              try clear p3
                                              try clear p32
                                              try clear p322
                                              try clear p327
                                              try clear p328
                                              try clear p329
                                              try clear p33
                                              try clear p330
                                              try clear p338
                                              try clear p343
                                              try clear p345
                                              try clear p4
                                              try clear p40
                                              try clear p59
                                              try clear p6
                                              try clear q2
                                              try clear q23
                                              try clear q3
                                              try clear q32
                                              try clear q322
                                              try clear q327
                                              try clear q328
                                              try clear q329
                                              try clear q33
                                              try clear q330
                                              try clear q338
                                              try clear q343
                                              try clear q345
                                              try clear q4
                                              try clear q40
                                              try clear q59
                                              obtain ⟨x120_6, rfl, HA, HK6, HO_9, HO_11, HO_16, HB⟩ := hrel
                                              cases gk with
                                              | zero => exact absurd HA.out (by simp [slotmeshlaw21_DownTree.l4])
                                              | succ k6 =>
                                                have H := HA.out
                                                clear HA
                                                simp only [slotmeshlaw21_DownTree.l4] at H
                                                by_cases c63 : x120_6 < (ji11)
                                                · rw [if_pos c63] at H
                                                  have c63b0 : decide (x120_6 < (ji11)) = true := decide_eq_true c63
                                                  clear c63
                                                  by_cases c64 : 0 ≤ x120_6
                                                  · rw [if_pos c64] at H
                                                    have c64b0 : decide (0 ≤ x120_6) = true := decide_eq_true c64
                                                    clear c64
                                                    by_cases c65 : x120_6 < (x11_3.length : Int)
                                                    · rw [if_pos c65] at H
                                                      have c65b0 : decide (x120_6 < (x11_3.length : Int)) = true := decide_eq_true c65
                                                      clear c65
                                                      replace H := Option.bind_eq_some_iff.mp H
                                                      obtain ⟨⟨t347, t348⟩, A660, H⟩ := H
                                                      replace H : (if x120_6 < (x16_5.length : Int) then (if t348 = true then (if rdOf false x16_5 x120_6 = true then (if t347 ≤ 0 then (some false) else (if t347 ≥ (ji11) then (some false) else (if 0 ≤ t347 then (if t347 < (x9_2.length : Int) then (if (rd x9_2 t347) = x120_6 then (if t347 = x101_4 then (slotmeshlaw21_DownTree.l4 k6 t318 (ji11) x9_2 x11_3 x101_4 x16_5 (ji11) x101_4 (ji11) (wrap64 (x120_6 + 1))) else (if t347 < (x16_5.length : Int) then (if rdOf false x16_5 t347 = true then (slotmeshlaw21_DownTree.l4 k6 t318 (ji11) x9_2 x11_3 x101_4 x16_5 (ji11) x101_4 (ji11) (wrap64 (x120_6 + 1))) else (some false)) else (none))) else (some false)) else (none)) else (none)))) else (some false)) else (if rdOf false x16_5 x120_6 = true then (some false) else (slotmeshlaw21_DownTree.l4 k6 t318 (ji11) x9_2 x11_3 x101_4 x16_5 (ji11) x101_4 (ji11) (wrap64 (x120_6 + 1))))) else (none)) = some r := H
                                                      have A66 := Aside0.mk A660
                                                      clear A660
                                                      by_cases c67 : x120_6 < (x16_5.length : Int)
                                                      · rw [if_pos c67] at H
                                                        have c67b0 : decide (x120_6 < (x16_5.length : Int)) = true := decide_eq_true c67
                                                        clear c67
                                                        by_cases c68 : t348 = true
                                                        · subst c68
                                                          have H1 : (if rdOf false x16_5 x120_6 = true then (if t347 ≤ 0 then (some false) else (if t347 ≥ (ji11) then (some false) else (if 0 ≤ t347 then (if t347 < (x9_2.length : Int) then (if (rd x9_2 t347) = x120_6 then (if t347 = x101_4 then (slotmeshlaw21_DownTree.l4 k6 t318 (ji11) x9_2 x11_3 x101_4 x16_5 (ji11) x101_4 (ji11) (wrap64 (x120_6 + 1))) else (if t347 < (x16_5.length : Int) then (if rdOf false x16_5 t347 = true then (slotmeshlaw21_DownTree.l4 k6 t318 (ji11) x9_2 x11_3 x101_4 x16_5 (ji11) x101_4 (ji11) (wrap64 (x120_6 + 1))) else (some false)) else (none))) else (some false)) else (none)) else (none)))) else (some false)) = some r := by rw [if_pos rfl] at H; exact H
                                                          clear H
                                                          have H := H1
                                                          clear H1
                                                          obtain ⟨bq69, hbq69⟩ : ∃ b_ : Bool, b_ = (rdOf false x16_5 x120_6) := ⟨_, rfl⟩
                                                          replace H : (if bq69 = true then (if t347 ≤ 0 then (some false) else (if t347 ≥ (ji11) then (some false) else (if 0 ≤ t347 then (if t347 < (x9_2.length : Int) then (if (rd x9_2 t347) = x120_6 then (if t347 = x101_4 then (slotmeshlaw21_DownTree.l4 k6 t318 (ji11) x9_2 x11_3 x101_4 x16_5 (ji11) x101_4 (ji11) (wrap64 (x120_6 + 1))) else (if t347 < (x16_5.length : Int) then (if rdOf false x16_5 t347 = true then (slotmeshlaw21_DownTree.l4 k6 t318 (ji11) x9_2 x11_3 x101_4 x16_5 (ji11) x101_4 (ji11) (wrap64 (x120_6 + 1))) else (some false)) else (none))) else (some false)) else (none)) else (none)))) else (some false)) = some r := by rw [← hbq69] at H; exact H
                                                          have Nbq69 := Aside0.mk hbq69
                                                          clear hbq69
                                                          by_cases c70 : bq69 = true
                                                          · subst c70
                                                            have H1 : (if t347 ≤ 0 then (some false) else (if t347 ≥ (ji11) then (some false) else (if 0 ≤ t347 then (if t347 < (x9_2.length : Int) then (if (rd x9_2 t347) = x120_6 then (if t347 = x101_4 then (slotmeshlaw21_DownTree.l4 k6 t318 (ji11) x9_2 x11_3 x101_4 x16_5 (ji11) x101_4 (ji11) (wrap64 (x120_6 + 1))) else (if t347 < (x16_5.length : Int) then (if rdOf false x16_5 t347 = true then (slotmeshlaw21_DownTree.l4 k6 t318 (ji11) x9_2 x11_3 x101_4 x16_5 (ji11) x101_4 (ji11) (wrap64 (x120_6 + 1))) else (some false)) else (none))) else (some false)) else (none)) else (none)))) = some r := by rw [if_pos rfl] at H; exact H
                                                            clear H
                                                            have H := H1
                                                            clear H1
                                                            by_cases c71 : t347 ≤ 0
                                                            · rw [if_pos c71] at H
                                                              have c71b0 : decide (t347 ≤ 0) = true := decide_eq_true c71
                                                              clear c71
                                                              exact absurd (Option.some.inj H) (by rw [HRT.out]; decide)
                                                            · rw [if_neg c71] at H
                                                              have c71b0 : decide (t347 ≤ 0) = false := decide_eq_false c71
                                                              clear c71
                                                              by_cases c72 : t347 ≥ (ji11)
                                                              · rw [if_pos c72] at H
                                                                have c72b0 : decide ((ji11) ≤ t347) = true := decide_eq_true c72
                                                                clear c72
                                                                exact absurd (Option.some.inj H) (by rw [HRT.out]; decide)
                                                              · rw [if_neg c72] at H
                                                                have c72b0 : decide ((ji11) ≤ t347) = false := decide_eq_false c72
                                                                clear c72
                                                                by_cases c73 : 0 ≤ t347
                                                                · rw [if_pos c73] at H
                                                                  have c73b0 : decide (0 ≤ t347) = true := decide_eq_true c73
                                                                  clear c73
                                                                  by_cases c74 : t347 < (x9_2.length : Int)
                                                                  · rw [if_pos c74] at H
                                                                    have c74b0 : decide (t347 < (x9_2.length : Int)) = true := decide_eq_true c74
                                                                    clear c74
                                                                    by_cases c75 : (rd x9_2 t347) = x120_6
                                                                    · rw [if_pos c75] at H
                                                                      have c75b0 : ((rd x9_2 t347) == x120_6) = true := beq_iff_eq.mpr c75
                                                                      have c75b1 : ((rd x9_2 t347) != x120_6) = false := bne_eq_false_iff_eq.mpr c75
                                                                      clear c75
                                                                      by_cases c76 : t347 = x101_4
                                                                      · rw [if_pos c76] at H
                                                                        have c76b0 : (t347 == x101_4) = true := beq_iff_eq.mpr c76
                                                                        have c76b1 : (t347 != x101_4) = false := bne_eq_false_iff_eq.mpr c76
                                                                        clear c76
                                                                        have H' := Aside0.mk H
                                                                        clear H
                                                                        obtain ⟨Ao77, co77, eo77⟩ := Kd.S_slice HO_11.out
                                                                        subst eo77
                                                                        have p346 : 0 ≤ (x120_6 : Int) := of_decide_eq_true (by first | (with_reducible assumption) | assumption)
                                                                        have q346 : x120_6 < (x11_3.length : Int) := of_decide_eq_true (by first | (with_reducible assumption) | assumption)
                                                                        obtain ⟨ad346, A346_0, c346_0, e346, hx346_0, hl346_0, hi346_0⟩ := at_L2 (Kd.S_reads' HO_11.out).2.2 x120_6 p346 q346
                                                                        cases e346
                                                                        obtain ⟨ce346, hce346, hMe346, hcc346⟩ := Kd.S_get HO_11.out [] x120_6 p346 (by first | exact q346 | exact of_decide_eq_true (by first | (with_reducible assumption) | assumption) | (have e_ := (Kd.S_reads' HO_11.out).1; omega))
                                                                        obtain ⟨ve346_0, rfl, ge346_0⟩ := hMe346
                                                                        have hv346_0 := hcc346 0 _ rfl
                                                                        rw [Nat.add_zero, show ((Kd.slice 35 k35)).sz = 1 from rfl, Nat.mul_one] at hv346_0
                                                                        replace hv346_0 := Option.some.inj (hv346_0.symm.trans hx346_0)
                                                                        rw [hv346_0] at ge346_0
                                                                        have HL346_0 := Aside0.mk (show Kd.R k35 35 _ _ _ _ (rd_L2 x11_3 x120_6) from ge346_0)
                                                                        clear hv346_0 ge346_0
                                                                        clear hcc346 hce346
                                                                        have HR346_0 := Aside0.mk hi346_0
                                                                        have HC346_0 := Aside0.mk hl346_0
                                                                        clear hi346_0 hl346_0
                                                                        replace p346 := eq_true p346
                                                                        replace q346 := eq_true q346
                                                                        go_wp2_with (first | ((with_reducible refine gate_callee (f := 14) rfl ?_); refine goesL_ (some 129) rfl rfl Try.func14 (by kernel_rfl) rfl #[.slice A346_0 (rd_L2 x11_3 x120_6).length c346_0, .int .i64 x101_4] rfl (by (try simp only [List.map_toArray, List.map_cons, List.map_nil]); first | done | rfl | (simp only [List.length_drop, List.length_take]; rfl)) ?_; (with_reducible refine (down_Next.calls k6 _ _ (rd_L2 x11_3 x120_6) x101_4 t347 true _ ?side1 ?side2 A66.out).mono ?_); (case side1 => repeat (first | exact (by repeat (first | (with_reducible exact HR346_0.out) | (with_reducible refine Kd.C_alloc ?_ _) | (with_reducible refine Kd.C_drewN ?_ _) | (with_reducible refine Kd.C_drew ?_) | exact HR346_0.out)) | (with_reducible refine Kd.C_alloc ?_ _) | (with_reducible refine Kd.C_drewN ?_ _) | (with_reducible refine Kd.C_drew ?_))); (case side2 => exact HC346_0.out); rintro e w78 ⟨rfl, hb⟩; refine ⟨_, rfl, ?_⟩; have n0_ := Aside0.mk (Kd.R_below (by (with_reducible repeat (first | apply Kd.R_alloc | apply Kd.R_drewN | apply Kd.R_drew)); exact HO_9.out) hb); have n1_ := Aside0.mk (Kd.S_below (by (with_reducible repeat (first | apply Kd.S_alloc | apply Kd.S_drewN | apply Kd.S_drew)); exact HO_11.out) hb); have n2_ := Aside0.mk (Kd.R_below (by (with_reducible repeat (first | apply Kd.R_alloc | apply Kd.R_drewN | apply Kd.R_drew)); exact HO_16.out) hb); have n3_ := Aside0.mk (Kd.R_below (by (with_reducible repeat (first | apply Kd.R_alloc | apply Kd.R_drewN | apply Kd.R_drew)); exact HL346_0.out) hb); have n4_ := Aside0.mk (Kd.C_below (by repeat (first | (with_reducible exact HR346_0.out) | (with_reducible refine Kd.C_alloc ?_ _) | (with_reducible refine Kd.C_drewN ?_ _) | (with_reducible refine Kd.C_drew ?_) | exact HR346_0.out)) hb); have n5_ := Aside0.mk (below_step (by repeat (first | (with_reducible first | exact HB.out | apply below_alloc | apply pw_below_drewN | apply below_drew1) | exact HB.out)) hb); clear HO_9; clear HO_11; clear HO_16; clear HL346_0; clear HR346_0; clear HB; have HO_9 := n0_; have HO_11 := n1_; have HO_16 := n2_; have HL346_0 := n3_; have HR346_0 := n4_; have HB := n5_; clear n0_ n1_ n2_ n3_ n4_ n5_; (try clear hb); (try clear hb2); (try clear hk); (try clear hi); obtain ⟨Ao79, co79, eo79⟩ := Kd.R_slice HO_16.out; subst eo79; have p349 : 0 ≤ (x120_6 : Int) := of_decide_eq_true (by first | (with_reducible assumption) | assumption); have q349 : x120_6 < (x16_5.length : Int) := of_decide_eq_true (by first | (with_reducible assumption) | assumption); obtain ⟨ad349, e349, hx349_0⟩ := Kd.at_bool (Kd.R_reads' HO_16.out).2.2 x120_6 p349 q349; (try rw [← Nbq69.out] at hx349_0); cases e349; replace p349 := eq_true p349; replace q349 := eq_true q349; obtain ⟨Ao80, co80, eo80⟩ := Kd.R_slice HO_9.out; subst eo80; have p350 : 0 ≤ (t347 : Int) := of_decide_eq_true (by first | (with_reducible assumption) | assumption); have q350 : t347 < (x9_2.length : Int) := of_decide_eq_true (by first | (with_reducible assumption) | assumption); obtain ⟨ad350, e350, hx350_0⟩ := Kd.at_int (Kd.R_reads' HO_9.out).2.2 t347 p350 q350; cases e350; replace p350 := eq_true p350; replace q350 := eq_true q350))
                                                                        go_roundg k6
                                                                        case measure => have := HJ4.out; have := HK2.out; have := HK3.out; have := HK4.out; have := HK5.out; have := HK6.out; omega
                                                                        case rel => exact ⟨(wrap64 (x120_6 + 1)), (by first | rfl | (simp; done) | (simp [*]; done)), H', ⟨by have := HJ4.out; have := HK2.out; have := HK3.out; have := HK4.out; have := HK5.out; have := HK6.out; omega⟩, ⟨by (with_reducible repeat (first | apply Kd.R_alloc | apply Kd.R_drewN | apply Kd.R_drew)); exact HO_9.out⟩, ⟨by (with_reducible repeat (first | apply Kd.S_alloc | apply Kd.S_drewN | apply Kd.S_drew)); exact HO_11.out⟩, ⟨by (with_reducible repeat (first | apply Kd.R_alloc | apply Kd.R_drewN | apply Kd.R_drew)); exact HO_16.out⟩, ⟨by repeat (first | (with_reducible first | exact HB.out | apply below_alloc | apply pw_below_drewN | apply below_drew1) | exact HB.out)⟩⟩
                                                                      · rw [if_neg c76] at H
                                                                        have c76b0 : (t347 == x101_4) = false := beq_eq_false_iff_ne.mpr c76
                                                                        have c76b1 : (t347 != x101_4) = true := bne_iff_ne.mpr c76
                                                                        by_cases c81 : t347 < (x16_5.length : Int)
                                                                        · rw [if_pos c81] at H
                                                                          have c81b0 : decide (t347 < (x16_5.length : Int)) = true := decide_eq_true c81
                                                                          clear c81
                                                                          obtain ⟨bq82, hbq82⟩ : ∃ b_ : Bool, b_ = (rdOf false x16_5 t347) := ⟨_, rfl⟩
                                                                          replace H : (if bq82 = true then (slotmeshlaw21_DownTree.l4 k6 t318 (ji11) x9_2 x11_3 x101_4 x16_5 (ji11) x101_4 (ji11) (wrap64 (x120_6 + 1))) else (some false)) = some r := by rw [← hbq82] at H; exact H
                                                                          have Nbq82 := Aside0.mk hbq82
                                                                          clear hbq82
                                                                          by_cases c83 : bq82 = true
                                                                          · subst c83
                                                                            have H1 : (slotmeshlaw21_DownTree.l4 k6 t318 (ji11) x9_2 x11_3 x101_4 x16_5 (ji11) x101_4 (ji11) (wrap64 (x120_6 + 1))) = some r := by rw [if_pos rfl] at H; exact H
                                                                            clear H
                                                                            have H := H1
                                                                            clear H1
                                                                            have H' := Aside0.mk H
                                                                            clear H
                                                                            obtain ⟨Ao84, co84, eo84⟩ := Kd.S_slice HO_11.out
                                                                            subst eo84
                                                                            have p346 : 0 ≤ (x120_6 : Int) := of_decide_eq_true (by first | (with_reducible assumption) | assumption)
                                                                            have q346 : x120_6 < (x11_3.length : Int) := of_decide_eq_true (by first | (with_reducible assumption) | assumption)
                                                                            obtain ⟨ad346, A346_0, c346_0, e346, hx346_0, hl346_0, hi346_0⟩ := at_L2 (Kd.S_reads' HO_11.out).2.2 x120_6 p346 q346
                                                                            cases e346
                                                                            obtain ⟨ce346, hce346, hMe346, hcc346⟩ := Kd.S_get HO_11.out [] x120_6 p346 (by first | exact q346 | exact of_decide_eq_true (by first | (with_reducible assumption) | assumption) | (have e_ := (Kd.S_reads' HO_11.out).1; omega))
                                                                            obtain ⟨ve346_0, rfl, ge346_0⟩ := hMe346
                                                                            have hv346_0 := hcc346 0 _ rfl
                                                                            rw [Nat.add_zero, show ((Kd.slice 35 k35)).sz = 1 from rfl, Nat.mul_one] at hv346_0
                                                                            replace hv346_0 := Option.some.inj (hv346_0.symm.trans hx346_0)
                                                                            rw [hv346_0] at ge346_0
                                                                            have HL346_0 := Aside0.mk (show Kd.R k35 35 _ _ _ _ (rd_L2 x11_3 x120_6) from ge346_0)
                                                                            clear hv346_0 ge346_0
                                                                            clear hcc346 hce346
                                                                            have HR346_0 := Aside0.mk hi346_0
                                                                            have HC346_0 := Aside0.mk hl346_0
                                                                            clear hi346_0 hl346_0
                                                                            replace p346 := eq_true p346
                                                                            replace q346 := eq_true q346
                                                                            go_wp2_with (first | ((with_reducible refine gate_callee (f := 14) rfl ?_); refine goesL_ (some 129) rfl rfl Try.func14 (by kernel_rfl) rfl #[.slice A346_0 (rd_L2 x11_3 x120_6).length c346_0, .int .i64 x101_4] rfl (by (try simp only [List.map_toArray, List.map_cons, List.map_nil]); first | done | rfl | (simp only [List.length_drop, List.length_take]; rfl)) ?_; (with_reducible refine (down_Next.calls k6 _ _ (rd_L2 x11_3 x120_6) x101_4 t347 true _ ?side1 ?side2 A66.out).mono ?_); (case side1 => repeat (first | exact (by repeat (first | (with_reducible exact HR346_0.out) | (with_reducible refine Kd.C_alloc ?_ _) | (with_reducible refine Kd.C_drewN ?_ _) | (with_reducible refine Kd.C_drew ?_) | exact HR346_0.out)) | (with_reducible refine Kd.C_alloc ?_ _) | (with_reducible refine Kd.C_drewN ?_ _) | (with_reducible refine Kd.C_drew ?_))); (case side2 => exact HC346_0.out); rintro e w85 ⟨rfl, hb⟩; refine ⟨_, rfl, ?_⟩; have n0_ := Aside0.mk (Kd.R_below (by (with_reducible repeat (first | apply Kd.R_alloc | apply Kd.R_drewN | apply Kd.R_drew)); exact HO_9.out) hb); have n1_ := Aside0.mk (Kd.S_below (by (with_reducible repeat (first | apply Kd.S_alloc | apply Kd.S_drewN | apply Kd.S_drew)); exact HO_11.out) hb); have n2_ := Aside0.mk (Kd.R_below (by (with_reducible repeat (first | apply Kd.R_alloc | apply Kd.R_drewN | apply Kd.R_drew)); exact HO_16.out) hb); have n3_ := Aside0.mk (Kd.R_below (by (with_reducible repeat (first | apply Kd.R_alloc | apply Kd.R_drewN | apply Kd.R_drew)); exact HL346_0.out) hb); have n4_ := Aside0.mk (Kd.C_below (by repeat (first | (with_reducible exact HR346_0.out) | (with_reducible refine Kd.C_alloc ?_ _) | (with_reducible refine Kd.C_drewN ?_ _) | (with_reducible refine Kd.C_drew ?_) | exact HR346_0.out)) hb); have n5_ := Aside0.mk (below_step (by repeat (first | (with_reducible first | exact HB.out | apply below_alloc | apply pw_below_drewN | apply below_drew1) | exact HB.out)) hb); clear HO_9; clear HO_11; clear HO_16; clear HL346_0; clear HR346_0; clear HB; have HO_9 := n0_; have HO_11 := n1_; have HO_16 := n2_; have HL346_0 := n3_; have HR346_0 := n4_; have HB := n5_; clear n0_ n1_ n2_ n3_ n4_ n5_; (try clear hb); (try clear hb2); (try clear hk); (try clear hi); obtain ⟨Ao86, co86, eo86⟩ := Kd.R_slice HO_16.out; subst eo86; have p349 : 0 ≤ (x120_6 : Int) := of_decide_eq_true (by first | (with_reducible assumption) | assumption); have q349 : x120_6 < (x16_5.length : Int) := of_decide_eq_true (by first | (with_reducible assumption) | assumption); obtain ⟨ad349, e349, hx349_0⟩ := Kd.at_bool (Kd.R_reads' HO_16.out).2.2 x120_6 p349 q349; (try rw [← Nbq69.out] at hx349_0); (try rw [← Nbq82.out] at hx349_0); cases e349; replace p349 := eq_true p349; replace q349 := eq_true q349; obtain ⟨Ao87, co87, eo87⟩ := Kd.R_slice HO_9.out; subst eo87; have p350 : 0 ≤ (t347 : Int) := of_decide_eq_true (by first | (with_reducible assumption) | assumption); have q350 : t347 < (x9_2.length : Int) := of_decide_eq_true (by first | (with_reducible assumption) | assumption); obtain ⟨ad350, e350, hx350_0⟩ := Kd.at_int (Kd.R_reads' HO_9.out).2.2 t347 p350 q350; cases e350; replace p350 := eq_true p350; replace q350 := eq_true q350; have p351 : 0 ≤ (t347 : Int) := of_decide_eq_true (by first | (with_reducible assumption) | assumption); have q351 : t347 < (x16_5.length : Int) := of_decide_eq_true (by first | (with_reducible assumption) | assumption); obtain ⟨ad351, e351, hx351_0⟩ := Kd.at_bool (Kd.R_reads' HO_16.out).2.2 t347 p351 q351; (try rw [← Nbq69.out] at hx351_0); (try rw [← Nbq82.out] at hx351_0); obtain rfl : ad349 = ad351 := (by injection e351); replace p351 := eq_true p351; replace q351 := eq_true q351))
                                                                            go_roundg k6
                                                                            case measure => have := HJ4.out; have := HK2.out; have := HK3.out; have := HK4.out; have := HK5.out; have := HK6.out; omega
                                                                            case rel => exact ⟨(wrap64 (x120_6 + 1)), (by first | rfl | (simp; done) | (simp [*]; done)), H', ⟨by have := HJ4.out; have := HK2.out; have := HK3.out; have := HK4.out; have := HK5.out; have := HK6.out; omega⟩, ⟨by (with_reducible repeat (first | apply Kd.R_alloc | apply Kd.R_drewN | apply Kd.R_drew)); exact HO_9.out⟩, ⟨by (with_reducible repeat (first | apply Kd.S_alloc | apply Kd.S_drewN | apply Kd.S_drew)); exact HO_11.out⟩, ⟨by (with_reducible repeat (first | apply Kd.R_alloc | apply Kd.R_drewN | apply Kd.R_drew)); exact HO_16.out⟩, ⟨by repeat (first | (with_reducible first | exact HB.out | apply below_alloc | apply pw_below_drewN | apply below_drew1) | exact HB.out)⟩⟩
                                                                          · replace c83 := Bool.eq_false_iff.mpr c83
                                                                            subst c83
                                                                            have H1 : (some false) = some r := by rw [if_neg (show ¬ (false = true) by decide)] at H; exact H
                                                                            clear H
                                                                            have H := H1
                                                                            clear H1
                                                                            exact absurd (Option.some.inj H) (by rw [HRT.out]; decide)
                                                                        · rw [if_neg c81] at H
                                                                          exact absurd H (by simp)
                                                                    · rw [if_neg c75] at H
                                                                      have c75b0 : ((rd x9_2 t347) == x120_6) = false := beq_eq_false_iff_ne.mpr c75
                                                                      have c75b1 : ((rd x9_2 t347) != x120_6) = true := bne_iff_ne.mpr c75
                                                                      exact absurd (Option.some.inj H) (by rw [HRT.out]; decide)
                                                                  · rw [if_neg c74] at H
                                                                    exact absurd H (by simp)
                                                                · rw [if_neg c73] at H
                                                                  exact absurd H (by simp)
                                                          · replace c70 := Bool.eq_false_iff.mpr c70
                                                            subst c70
                                                            have H1 : (some false) = some r := by rw [if_neg (show ¬ (false = true) by decide)] at H; exact H
                                                            clear H
                                                            have H := H1
                                                            clear H1
                                                            exact absurd (Option.some.inj H) (by rw [HRT.out]; decide)
                                                        · replace c68 := Bool.eq_false_iff.mpr c68
                                                          subst c68
                                                          have H1 : (if rdOf false x16_5 x120_6 = true then (some false) else (slotmeshlaw21_DownTree.l4 k6 t318 (ji11) x9_2 x11_3 x101_4 x16_5 (ji11) x101_4 (ji11) (wrap64 (x120_6 + 1)))) = some r := by rw [if_neg (show ¬ (false = true) by decide)] at H; exact H
                                                          clear H
                                                          have H := H1
                                                          clear H1
                                                          obtain ⟨bq88, hbq88⟩ : ∃ b_ : Bool, b_ = (rdOf false x16_5 x120_6) := ⟨_, rfl⟩
                                                          replace H : (if bq88 = true then (some false) else (slotmeshlaw21_DownTree.l4 k6 t318 (ji11) x9_2 x11_3 x101_4 x16_5 (ji11) x101_4 (ji11) (wrap64 (x120_6 + 1)))) = some r := by rw [← hbq88] at H; exact H
                                                          have Nbq88 := Aside0.mk hbq88
                                                          clear hbq88
                                                          by_cases c89 : bq88 = true
                                                          · subst c89
                                                            have H1 : (some false) = some r := by rw [if_pos rfl] at H; exact H
                                                            clear H
                                                            have H := H1
                                                            clear H1
                                                            exact absurd (Option.some.inj H) (by rw [HRT.out]; decide)
                                                          · replace c89 := Bool.eq_false_iff.mpr c89
                                                            subst c89
                                                            have H1 : (slotmeshlaw21_DownTree.l4 k6 t318 (ji11) x9_2 x11_3 x101_4 x16_5 (ji11) x101_4 (ji11) (wrap64 (x120_6 + 1))) = some r := by rw [if_neg (show ¬ (false = true) by decide)] at H; exact H
                                                            clear H
                                                            have H := H1
                                                            clear H1
                                                            have H' := Aside0.mk H
                                                            clear H
                                                            obtain ⟨Ao90, co90, eo90⟩ := Kd.S_slice HO_11.out
                                                            subst eo90
                                                            have p346 : 0 ≤ (x120_6 : Int) := of_decide_eq_true (by first | (with_reducible assumption) | assumption)
                                                            have q346 : x120_6 < (x11_3.length : Int) := of_decide_eq_true (by first | (with_reducible assumption) | assumption)
                                                            obtain ⟨ad346, A346_0, c346_0, e346, hx346_0, hl346_0, hi346_0⟩ := at_L2 (Kd.S_reads' HO_11.out).2.2 x120_6 p346 q346
                                                            cases e346
                                                            obtain ⟨ce346, hce346, hMe346, hcc346⟩ := Kd.S_get HO_11.out [] x120_6 p346 (by first | exact q346 | exact of_decide_eq_true (by first | (with_reducible assumption) | assumption) | (have e_ := (Kd.S_reads' HO_11.out).1; omega))
                                                            obtain ⟨ve346_0, rfl, ge346_0⟩ := hMe346
                                                            have hv346_0 := hcc346 0 _ rfl
                                                            rw [Nat.add_zero, show ((Kd.slice 35 k35)).sz = 1 from rfl, Nat.mul_one] at hv346_0
                                                            replace hv346_0 := Option.some.inj (hv346_0.symm.trans hx346_0)
                                                            rw [hv346_0] at ge346_0
                                                            have HL346_0 := Aside0.mk (show Kd.R k35 35 _ _ _ _ (rd_L2 x11_3 x120_6) from ge346_0)
                                                            clear hv346_0 ge346_0
                                                            clear hcc346 hce346
                                                            have HR346_0 := Aside0.mk hi346_0
                                                            have HC346_0 := Aside0.mk hl346_0
                                                            clear hi346_0 hl346_0
                                                            replace p346 := eq_true p346
                                                            replace q346 := eq_true q346
                                                            go_wp2_with (first | ((with_reducible refine gate_callee (f := 14) rfl ?_); refine goesL_ (some 129) rfl rfl Try.func14 (by kernel_rfl) rfl #[.slice A346_0 (rd_L2 x11_3 x120_6).length c346_0, .int .i64 x101_4] rfl (by (try simp only [List.map_toArray, List.map_cons, List.map_nil]); first | done | rfl | (simp only [List.length_drop, List.length_take]; rfl)) ?_; (with_reducible refine (down_Next.calls k6 _ _ (rd_L2 x11_3 x120_6) x101_4 t347 false _ ?side1 ?side2 A66.out).mono ?_); (case side1 => repeat (first | exact (by repeat (first | (with_reducible exact HR346_0.out) | (with_reducible refine Kd.C_alloc ?_ _) | (with_reducible refine Kd.C_drewN ?_ _) | (with_reducible refine Kd.C_drew ?_) | exact HR346_0.out)) | (with_reducible refine Kd.C_alloc ?_ _) | (with_reducible refine Kd.C_drewN ?_ _) | (with_reducible refine Kd.C_drew ?_))); (case side2 => exact HC346_0.out); rintro e w91 ⟨rfl, hb⟩; refine ⟨_, rfl, ?_⟩; have n0_ := Aside0.mk (Kd.R_below (by (with_reducible repeat (first | apply Kd.R_alloc | apply Kd.R_drewN | apply Kd.R_drew)); exact HO_9.out) hb); have n1_ := Aside0.mk (Kd.S_below (by (with_reducible repeat (first | apply Kd.S_alloc | apply Kd.S_drewN | apply Kd.S_drew)); exact HO_11.out) hb); have n2_ := Aside0.mk (Kd.R_below (by (with_reducible repeat (first | apply Kd.R_alloc | apply Kd.R_drewN | apply Kd.R_drew)); exact HO_16.out) hb); have n3_ := Aside0.mk (Kd.R_below (by (with_reducible repeat (first | apply Kd.R_alloc | apply Kd.R_drewN | apply Kd.R_drew)); exact HL346_0.out) hb); have n4_ := Aside0.mk (Kd.C_below (by repeat (first | (with_reducible exact HR346_0.out) | (with_reducible refine Kd.C_alloc ?_ _) | (with_reducible refine Kd.C_drewN ?_ _) | (with_reducible refine Kd.C_drew ?_) | exact HR346_0.out)) hb); have n5_ := Aside0.mk (below_step (by repeat (first | (with_reducible first | exact HB.out | apply below_alloc | apply pw_below_drewN | apply below_drew1) | exact HB.out)) hb); clear HO_9; clear HO_11; clear HO_16; clear HL346_0; clear HR346_0; clear HB; have HO_9 := n0_; have HO_11 := n1_; have HO_16 := n2_; have HL346_0 := n3_; have HR346_0 := n4_; have HB := n5_; clear n0_ n1_ n2_ n3_ n4_ n5_; (try clear hb); (try clear hb2); (try clear hk); (try clear hi); obtain ⟨Ao92, co92, eo92⟩ := Kd.R_slice HO_16.out; subst eo92; have p349 : 0 ≤ (x120_6 : Int) := of_decide_eq_true (by first | (with_reducible assumption) | assumption); have q349 : x120_6 < (x16_5.length : Int) := of_decide_eq_true (by first | (with_reducible assumption) | assumption); obtain ⟨ad349, e349, hx349_0⟩ := Kd.at_bool (Kd.R_reads' HO_16.out).2.2 x120_6 p349 q349; (try rw [← Nbq88.out] at hx349_0); cases e349; replace p349 := eq_true p349; replace q349 := eq_true q349))
                                                            go_roundg k6
                                                            case measure => have := HJ4.out; have := HK2.out; have := HK3.out; have := HK4.out; have := HK5.out; have := HK6.out; omega
                                                            case rel => exact ⟨(wrap64 (x120_6 + 1)), (by first | rfl | (simp; done) | (simp [*]; done)), H', ⟨by have := HJ4.out; have := HK2.out; have := HK3.out; have := HK4.out; have := HK5.out; have := HK6.out; omega⟩, ⟨by (with_reducible repeat (first | apply Kd.R_alloc | apply Kd.R_drewN | apply Kd.R_drew)); exact HO_9.out⟩, ⟨by (with_reducible repeat (first | apply Kd.S_alloc | apply Kd.S_drewN | apply Kd.S_drew)); exact HO_11.out⟩, ⟨by (with_reducible repeat (first | apply Kd.R_alloc | apply Kd.R_drewN | apply Kd.R_drew)); exact HO_16.out⟩, ⟨by repeat (first | (with_reducible first | exact HB.out | apply below_alloc | apply pw_below_drewN | apply below_drew1) | exact HB.out)⟩⟩
                                                      · rw [if_neg c67] at H
                                                        exact absurd H (by simp)
                                                    · rw [if_neg c65] at H
                                                      exact absurd H (by simp)
                                                  · rw [if_neg c64] at H
                                                    exact absurd H (by simp)
                                                · rw [if_neg c63] at H
                                                  have c63b0 : decide (x120_6 < (ji11)) = false := decide_eq_false c63
                                                  clear c63
                                                  have H' := Aside0.mk H
                                                  clear H
                                                  go_wp2
                                                  go_roundg k6
                                                  case measure => have := HJ4.out; have := HK2.out; have := HK3.out; have := HK4.out; have := HK5.out; have := HK6.out; omega
                                                  case rel => exact ⟨(wrap64 (x101_4 + 1)), (by first | rfl | (simp; done) | (simp [*]; done)), H', ⟨by have := HJ4.out; have := HK2.out; have := HK3.out; have := HK4.out; have := HK5.out; have := HK6.out; omega⟩, ⟨by (with_reducible repeat (first | apply Kd.R_alloc | apply Kd.R_drewN | apply Kd.R_drew)); exact HO_9.out⟩, ⟨by (with_reducible repeat (first | apply Kd.S_alloc | apply Kd.S_drewN | apply Kd.S_drew)); exact HO_11.out⟩, ⟨by repeat (first | (with_reducible first | exact HB.out | apply below_alloc | apply pw_below_drewN | apply below_drew1) | exact HB.out)⟩⟩
                                    · rw [if_neg c51] at H
                                      exact absurd H (by simp)
                                  · rw [if_neg c50] at H
                                    exact absurd H (by simp)
                                · rw [if_neg c49] at H
                                  have c49b0 : decide (x101_4 < (ji11)) = false := decide_eq_false c49
                                  clear c49
                                  obtain rfl := Option.some.inj H
                                  go_wp2
                                  go_ret
                                  exact ⟨by first | rfl | (simp [errW_none, errW_some] <;> rfl) | (simp only [← hji11]; first | rfl | (simp [errW_none, errW_some] <;> rfl)) | (simp [*, errW_none, errW_some] <;> rfl), by repeat (first | (with_reducible first | exact HB.out | apply below_alloc | apply pw_below_drewN | apply below_drew1) | exact HB.out)⟩
                    · rw [if_neg c27] at H
                      exact absurd H (by simp)
                  · rw [if_neg c26] at H
                    exact absurd H (by simp)
          · rw [if_neg c13] at H
            exact absurd H (by simp)
        · rw [if_neg c12] at H
          exact absurd H (by simp)

end Go.Proofs.Ythobfempjekhdaa.Px
