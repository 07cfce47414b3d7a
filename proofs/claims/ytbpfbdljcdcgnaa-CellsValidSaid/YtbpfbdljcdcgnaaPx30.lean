/- Walks of functions of this seat, written by a program of this workplace out of the translation. -/
import Derived.Test.YtbpfbdljcdcgnaaPx0
import Derived.Test.YtbpfbdljcdcgnaaPx2
import Derived.Test.YtbpfbdljcdcgnaaPx3
import Derived.Test.YtbpfbdljcdcgnaaPx4
import Derived.Test.YtbpfbdljcdcgnaaPx8
namespace Go.Proofs.Ytbpfbdljcdcgnaa.Px
open Go.RowKit Go.Proofs.YtbpfbdljcdcgnaaW.PrintWords Go.Proofs.YtbpfbdljcdcgnaaW.PrintLast Go.Proofs.YtbpfbdljcdcgnaaW.PrintMore
attribute [local go_sem] max2_int min2_int max_two min_two max_three min_three max_four min_four   -- for this text's walks alone
set_option linter.unusedVariables false
set_option linter.unusedSimpArgs false

attribute [local go_sem high] eqA32 eqA34 eqA51
/-! ### slotmeshlaw12_counts: function 25 -/
mutual
def slotmeshlaw12_counts.l0 : Nat → Int → Int → Int → List (S32) → Int → Int → List (S32) → List (S34) → List (S51) → List (S32) → List (S34) → List (S51) → Option (Int × Int × Int)
 | 0, _, _, _, _, _, _, _, _, _, _, _, _ => none
 | k + 1, x7, x8, x9, x23, x24, x25, x442000, x442001, x442002, x443000, x443001, x443002 => if x25 < x24 then (if 0 ≤ x25 then (if x25 < (x23.length : Int) then (slotmeshlaw12_counts.l1 k x7 x8 x9 x23 x24 x25 x443000 (x443000.length : Int) 0 x442000 x442001 x442002 x443000 x443001 x443002 ((rd_T32 x23 x25).f0.f0) ((rd_T32 x23 x25).f0.f1) ((rd_T32 x23 x25).f1) ((rd_T32 x23 x25).f2)) else (none)) else (none)) else (slotmeshlaw12_counts.l2 k x7 x8 x9 x442001 (x442001.length : Int) 0 x442000 x442001 x442002 x443000 x443001 x443002)
def slotmeshlaw12_counts.l1 : Nat → Int → Int → Int → List (S32) → Int → Int → List (S32) → Int → Int → List (S32) → List (S34) → List (S51) → List (S32) → List (S34) → List (S51) → Int → Int → Int → Int → Option (Int × Int × Int)
 | 0, _, _, _, _, _, _, _, _, _, _, _, _, _, _, _, _, _, _, _ => none
 | k + 1, x7, x8, x9, x23, x24, x25, x30, x31, x32, x442000, x442001, x442002, x443000, x443001, x443002, x445000, x445001, x445002, x445003 => if x32 < x31 then (if 0 ≤ x32 then (if x32 < (x30.length : Int) then (if ((x445000 == ((rd_T32 x30 x32).f0.f0) && (x445001 == ((rd_T32 x30 x32).f0.f1))) && (x445002 == ((rd_T32 x30 x32).f1) && (x445003 == ((rd_T32 x30 x32).f2)))) = true then (slotmeshlaw12_counts.l1 k (wrap64 (x7 + 1)) x8 x9 x23 x24 x25 x30 x31 (wrap64 (x32 + 1)) x442000 x442001 x442002 x443000 x443001 x443002 x445000 x445001 x445002 x445003) else (slotmeshlaw12_counts.l1 k x7 x8 x9 x23 x24 x25 x30 x31 (wrap64 (x32 + 1)) x442000 x442001 x442002 x443000 x443001 x443002 x445000 x445001 x445002 x445003)) else (none)) else (none)) else (slotmeshlaw12_counts.l0 k x7 x8 x9 x23 x24 (wrap64 (x25 + 1)) x442000 x442001 x442002 x443000 x443001 x443002)
def slotmeshlaw12_counts.l2 : Nat → Int → Int → Int → List (S34) → Int → Int → List (S32) → List (S34) → List (S51) → List (S32) → List (S34) → List (S51) → Option (Int × Int × Int)
 | 0, _, _, _, _, _, _, _, _, _, _, _, _ => none
 | k + 1, x7, x8, x9, x44, x45, x46, x442000, x442001, x442002, x443000, x443001, x443002 => if x46 < x45 then (if 0 ≤ x46 then (if x46 < (x44.length : Int) then (slotmeshlaw12_counts.l3 k x7 x8 x9 x44 x45 x46 x443001 (x443001.length : Int) 0 x442000 x442001 x442002 x443000 x443001 x443002 ((rd_T34 x44 x46).f0.f0) ((rd_T34 x44 x46).f0.f1) ((rd_T34 x44 x46).f1) ((rd_T34 x44 x46).f2) ((rd_T34 x44 x46).f3)) else (none)) else (none)) else (slotmeshlaw12_counts.l4 k x7 x8 x9 x442002 (x442002.length : Int) 0 x443000 x443001 x443002)
def slotmeshlaw12_counts.l3 : Nat → Int → Int → Int → List (S34) → Int → Int → List (S34) → Int → Int → List (S32) → List (S34) → List (S51) → List (S32) → List (S34) → List (S51) → Int → Int → Int → Int → Int → Option (Int × Int × Int)
 | 0, _, _, _, _, _, _, _, _, _, _, _, _, _, _, _, _, _, _, _, _ => none
 | k + 1, x7, x8, x9, x44, x45, x46, x51, x52, x53, x442000, x442001, x442002, x443000, x443001, x443002, x449000, x449001, x449002, x449003, x449004 => if x53 < x52 then (if 0 ≤ x53 then (if x53 < (x51.length : Int) then (if ((x449000 == ((rd_T34 x51 x53).f0.f0) && (x449001 == ((rd_T34 x51 x53).f0.f1))) && (x449002 == ((rd_T34 x51 x53).f1) && (x449003 == ((rd_T34 x51 x53).f2) && (x449004 == ((rd_T34 x51 x53).f3))))) = true then (slotmeshlaw12_counts.l3 k x7 (wrap64 (x8 + 1)) x9 x44 x45 x46 x51 x52 (wrap64 (x53 + 1)) x442000 x442001 x442002 x443000 x443001 x443002 x449000 x449001 x449002 x449003 x449004) else (slotmeshlaw12_counts.l3 k x7 x8 x9 x44 x45 x46 x51 x52 (wrap64 (x53 + 1)) x442000 x442001 x442002 x443000 x443001 x443002 x449000 x449001 x449002 x449003 x449004)) else (none)) else (none)) else (slotmeshlaw12_counts.l2 k x7 x8 x9 x44 x45 (wrap64 (x46 + 1)) x442000 x442001 x442002 x443000 x443001 x443002)
def slotmeshlaw12_counts.l4 : Nat → Int → Int → Int → List (S51) → Int → Int → List (S32) → List (S34) → List (S51) → Option (Int × Int × Int)
 | 0, _, _, _, _, _, _, _, _, _ => none
 | k + 1, x7, x8, x9, x65, x66, x67, x443000, x443001, x443002 => if x67 < x66 then (if 0 ≤ x67 then (if x67 < (x65.length : Int) then (slotmeshlaw12_counts.l5 k x7 x8 x9 x65 x66 x67 x443002 (x443002.length : Int) 0 x443000 x443001 x443002 ((rd_T51 x65 x67).f0.f0) ((rd_T51 x65 x67).f0.f1) ((rd_T51 x65 x67).f1)) else (none)) else (none)) else (some (x7, x8, x9))
def slotmeshlaw12_counts.l5 : Nat → Int → Int → Int → List (S51) → Int → Int → List (S51) → Int → Int → List (S32) → List (S34) → List (S51) → Int → Int → Int → Option (Int × Int × Int)
 | 0, _, _, _, _, _, _, _, _, _, _, _, _, _, _, _ => none
 | k + 1, x7, x8, x9, x65, x66, x67, x72, x73, x74, x443000, x443001, x443002, x453000, x453001, x453002 => if x74 < x73 then (if 0 ≤ x74 then (if x74 < (x72.length : Int) then (if ((x453000 == ((rd_T51 x72 x74).f0.f0) && (x453001 == ((rd_T51 x72 x74).f0.f1))) && (x453002 == ((rd_T51 x72 x74).f1))) = true then (slotmeshlaw12_counts.l5 k x7 x8 (wrap64 (x9 + 1)) x65 x66 x67 x72 x73 (wrap64 (x74 + 1)) x443000 x443001 x443002 x453000 x453001 x453002) else (slotmeshlaw12_counts.l5 k x7 x8 x9 x65 x66 x67 x72 x73 (wrap64 (x74 + 1)) x443000 x443001 x443002 x453000 x453001 x453002)) else (none)) else (none)) else (slotmeshlaw12_counts.l4 k x7 x8 x9 x65 x66 (wrap64 (x67 + 1)) x443000 x443001 x443002)
end
def slotmeshlaw12_counts.f (k : Nat) (l0_0 : List (S32)) (l0_1 : List (S34)) (l0_2 : List (S51)) (l1_0 : List (S32)) (l1_1 : List (S34)) (l1_2 : List (S51)) : Option (Int × Int × Int) := slotmeshlaw12_counts.l0 k 0 0 0 l0_0 (l0_0.length : Int) 0 l0_0 l0_1 l0_2 l1_0 l1_1 l1_2
theorem slotmeshlaw12_counts.mono_l : ∀ k, (∀ y0 y1 y2 y3 y4 y5 y6 y7 y8 y9 y10 y11, LeO (slotmeshlaw12_counts.l0 k y0 y1 y2 y3 y4 y5 y6 y7 y8 y9 y10 y11) (slotmeshlaw12_counts.l0 (k + 1) y0 y1 y2 y3 y4 y5 y6 y7 y8 y9 y10 y11)) ∧ (∀ y0 y1 y2 y3 y4 y5 y6 y7 y8 y9 y10 y11 y12 y13 y14 y15 y16 y17 y18, LeO (slotmeshlaw12_counts.l1 k y0 y1 y2 y3 y4 y5 y6 y7 y8 y9 y10 y11 y12 y13 y14 y15 y16 y17 y18) (slotmeshlaw12_counts.l1 (k + 1) y0 y1 y2 y3 y4 y5 y6 y7 y8 y9 y10 y11 y12 y13 y14 y15 y16 y17 y18)) ∧ (∀ y0 y1 y2 y3 y4 y5 y6 y7 y8 y9 y10 y11, LeO (slotmeshlaw12_counts.l2 k y0 y1 y2 y3 y4 y5 y6 y7 y8 y9 y10 y11) (slotmeshlaw12_counts.l2 (k + 1) y0 y1 y2 y3 y4 y5 y6 y7 y8 y9 y10 y11)) ∧ (∀ y0 y1 y2 y3 y4 y5 y6 y7 y8 y9 y10 y11 y12 y13 y14 y15 y16 y17 y18 y19, LeO (slotmeshlaw12_counts.l3 k y0 y1 y2 y3 y4 y5 y6 y7 y8 y9 y10 y11 y12 y13 y14 y15 y16 y17 y18 y19) (slotmeshlaw12_counts.l3 (k + 1) y0 y1 y2 y3 y4 y5 y6 y7 y8 y9 y10 y11 y12 y13 y14 y15 y16 y17 y18 y19)) ∧ (∀ y0 y1 y2 y3 y4 y5 y6 y7 y8, LeO (slotmeshlaw12_counts.l4 k y0 y1 y2 y3 y4 y5 y6 y7 y8) (slotmeshlaw12_counts.l4 (k + 1) y0 y1 y2 y3 y4 y5 y6 y7 y8)) ∧ (∀ y0 y1 y2 y3 y4 y5 y6 y7 y8 y9 y10 y11 y12 y13 y14, LeO (slotmeshlaw12_counts.l5 k y0 y1 y2 y3 y4 y5 y6 y7 y8 y9 y10 y11 y12 y13 y14) (slotmeshlaw12_counts.l5 (k + 1) y0 y1 y2 y3 y4 y5 y6 y7 y8 y9 y10 y11 y12 y13 y14))
 | 0 => ⟨fun _ _ _ _ _ _ _ _ _ _ _ _ r h => by simp [slotmeshlaw12_counts.l0] at h, fun _ _ _ _ _ _ _ _ _ _ _ _ _ _ _ _ _ _ _ r h => by simp [slotmeshlaw12_counts.l1] at h, fun _ _ _ _ _ _ _ _ _ _ _ _ r h => by simp [slotmeshlaw12_counts.l2] at h, fun _ _ _ _ _ _ _ _ _ _ _ _ _ _ _ _ _ _ _ _ r h => by simp [slotmeshlaw12_counts.l3] at h, fun _ _ _ _ _ _ _ _ _ r h => by simp [slotmeshlaw12_counts.l4] at h, fun _ _ _ _ _ _ _ _ _ _ _ _ _ _ _ r h => by simp [slotmeshlaw12_counts.l5] at h⟩
 | k + 1 => by
  obtain ⟨ih0, ih1, ih2, ih3, ih4, ih5⟩ := slotmeshlaw12_counts.mono_l k
  refine ⟨?_, ?_, ?_, ?_, ?_, ?_⟩
  ·intro y0 y1 y2 y3 y4 y5 y6 y7 y8 y9 y10 y11
   unfold slotmeshlaw12_counts.l0
   repeat' first
   | (with_reducible exact ih0 _ _ _ _ _ _ _ _ _ _ _ _)
   | (with_reducible exact ih1 _ _ _ _ _ _ _ _ _ _ _ _ _ _ _ _ _ _ _)
   | (with_reducible exact ih2 _ _ _ _ _ _ _ _ _ _ _ _)
   | (with_reducible exact ih3 _ _ _ _ _ _ _ _ _ _ _ _ _ _ _ _ _ _ _ _)
   | (with_reducible exact ih4 _ _ _ _ _ _ _ _ _)
   | (with_reducible exact ih5 _ _ _ _ _ _ _ _ _ _ _ _ _ _ _)
   | (with_reducible exact LeO.refl _)
   | (with_reducible exact LeO.none _)
   | (with_reducible refine LeO.ite ?_ ?_)
   | (with_reducible refine LeO.bind ?_ (fun _ => ?_))
   | exact ih0 _ _ _ _ _ _ _ _ _ _ _ _
   | exact ih1 _ _ _ _ _ _ _ _ _ _ _ _ _ _ _ _ _ _ _
   | exact ih2 _ _ _ _ _ _ _ _ _ _ _ _
   | exact ih3 _ _ _ _ _ _ _ _ _ _ _ _ _ _ _ _ _ _ _ _
   | exact ih4 _ _ _ _ _ _ _ _ _
   | exact ih5 _ _ _ _ _ _ _ _ _ _ _ _ _ _ _
   | exact LeO.none _
   | refine LeO.ite ?_ ?_
   | refine LeO.bind ?_ (fun _ => ?_)
  ·intro y0 y1 y2 y3 y4 y5 y6 y7 y8 y9 y10 y11 y12 y13 y14 y15 y16 y17 y18
   unfold slotmeshlaw12_counts.l1
   repeat' first
   | (with_reducible exact ih0 _ _ _ _ _ _ _ _ _ _ _ _)
   | (with_reducible exact ih1 _ _ _ _ _ _ _ _ _ _ _ _ _ _ _ _ _ _ _)
   | (with_reducible exact ih2 _ _ _ _ _ _ _ _ _ _ _ _)
   | (with_reducible exact ih3 _ _ _ _ _ _ _ _ _ _ _ _ _ _ _ _ _ _ _ _)
   | (with_reducible exact ih4 _ _ _ _ _ _ _ _ _)
   | (with_reducible exact ih5 _ _ _ _ _ _ _ _ _ _ _ _ _ _ _)
   | (with_reducible exact LeO.refl _)
   | (with_reducible exact LeO.none _)
   | (with_reducible refine LeO.ite ?_ ?_)
   | (with_reducible refine LeO.bind ?_ (fun _ => ?_))
   | exact ih0 _ _ _ _ _ _ _ _ _ _ _ _
   | exact ih1 _ _ _ _ _ _ _ _ _ _ _ _ _ _ _ _ _ _ _
   | exact ih2 _ _ _ _ _ _ _ _ _ _ _ _
   | exact ih3 _ _ _ _ _ _ _ _ _ _ _ _ _ _ _ _ _ _ _ _
   | exact ih4 _ _ _ _ _ _ _ _ _
   | exact ih5 _ _ _ _ _ _ _ _ _ _ _ _ _ _ _
   | exact LeO.none _
   | refine LeO.ite ?_ ?_
   | refine LeO.bind ?_ (fun _ => ?_)
  ·intro y0 y1 y2 y3 y4 y5 y6 y7 y8 y9 y10 y11
   unfold slotmeshlaw12_counts.l2
   repeat' first
   | (with_reducible exact ih0 _ _ _ _ _ _ _ _ _ _ _ _)
   | (with_reducible exact ih1 _ _ _ _ _ _ _ _ _ _ _ _ _ _ _ _ _ _ _)
   | (with_reducible exact ih2 _ _ _ _ _ _ _ _ _ _ _ _)
   | (with_reducible exact ih3 _ _ _ _ _ _ _ _ _ _ _ _ _ _ _ _ _ _ _ _)
   | (with_reducible exact ih4 _ _ _ _ _ _ _ _ _)
   | (with_reducible exact ih5 _ _ _ _ _ _ _ _ _ _ _ _ _ _ _)
   | (with_reducible exact LeO.refl _)
   | (with_reducible exact LeO.none _)
   | (with_reducible refine LeO.ite ?_ ?_)
   | (with_reducible refine LeO.bind ?_ (fun _ => ?_))
   | exact ih0 _ _ _ _ _ _ _ _ _ _ _ _
   | exact ih1 _ _ _ _ _ _ _ _ _ _ _ _ _ _ _ _ _ _ _
   | exact ih2 _ _ _ _ _ _ _ _ _ _ _ _
   | exact ih3 _ _ _ _ _ _ _ _ _ _ _ _ _ _ _ _ _ _ _ _
   | exact ih4 _ _ _ _ _ _ _ _ _
   | exact ih5 _ _ _ _ _ _ _ _ _ _ _ _ _ _ _
   | exact LeO.none _
   | refine LeO.ite ?_ ?_
   | refine LeO.bind ?_ (fun _ => ?_)
  ·intro y0 y1 y2 y3 y4 y5 y6 y7 y8 y9 y10 y11 y12 y13 y14 y15 y16 y17 y18 y19
   unfold slotmeshlaw12_counts.l3
   repeat' first
   | (with_reducible exact ih0 _ _ _ _ _ _ _ _ _ _ _ _)
   | (with_reducible exact ih1 _ _ _ _ _ _ _ _ _ _ _ _ _ _ _ _ _ _ _)
   | (with_reducible exact ih2 _ _ _ _ _ _ _ _ _ _ _ _)
   | (with_reducible exact ih3 _ _ _ _ _ _ _ _ _ _ _ _ _ _ _ _ _ _ _ _)
   | (with_reducible exact ih4 _ _ _ _ _ _ _ _ _)
   | (with_reducible exact ih5 _ _ _ _ _ _ _ _ _ _ _ _ _ _ _)
   | (with_reducible exact LeO.refl _)
   | (with_reducible exact LeO.none _)
   | (with_reducible refine LeO.ite ?_ ?_)
   | (with_reducible refine LeO.bind ?_ (fun _ => ?_))
   | exact ih0 _ _ _ _ _ _ _ _ _ _ _ _
   | exact ih1 _ _ _ _ _ _ _ _ _ _ _ _ _ _ _ _ _ _ _
   | exact ih2 _ _ _ _ _ _ _ _ _ _ _ _
   | exact ih3 _ _ _ _ _ _ _ _ _ _ _ _ _ _ _ _ _ _ _ _
   | exact ih4 _ _ _ _ _ _ _ _ _
   | exact ih5 _ _ _ _ _ _ _ _ _ _ _ _ _ _ _
   | exact LeO.none _
   | refine LeO.ite ?_ ?_
   | refine LeO.bind ?_ (fun _ => ?_)
  ·intro y0 y1 y2 y3 y4 y5 y6 y7 y8
   unfold slotmeshlaw12_counts.l4
   repeat' first
   | (with_reducible exact ih0 _ _ _ _ _ _ _ _ _ _ _ _)
   | (with_reducible exact ih1 _ _ _ _ _ _ _ _ _ _ _ _ _ _ _ _ _ _ _)
   | (with_reducible exact ih2 _ _ _ _ _ _ _ _ _ _ _ _)
   | (with_reducible exact ih3 _ _ _ _ _ _ _ _ _ _ _ _ _ _ _ _ _ _ _ _)
   | (with_reducible exact ih4 _ _ _ _ _ _ _ _ _)
   | (with_reducible exact ih5 _ _ _ _ _ _ _ _ _ _ _ _ _ _ _)
   | (with_reducible exact LeO.refl _)
   | (with_reducible exact LeO.none _)
   | (with_reducible refine LeO.ite ?_ ?_)
   | (with_reducible refine LeO.bind ?_ (fun _ => ?_))
   | exact ih0 _ _ _ _ _ _ _ _ _ _ _ _
   | exact ih1 _ _ _ _ _ _ _ _ _ _ _ _ _ _ _ _ _ _ _
   | exact ih2 _ _ _ _ _ _ _ _ _ _ _ _
   | exact ih3 _ _ _ _ _ _ _ _ _ _ _ _ _ _ _ _ _ _ _ _
   | exact ih4 _ _ _ _ _ _ _ _ _
   | exact ih5 _ _ _ _ _ _ _ _ _ _ _ _ _ _ _
   | exact LeO.none _
   | refine LeO.ite ?_ ?_
   | refine LeO.bind ?_ (fun _ => ?_)
  intro y0 y1 y2 y3 y4 y5 y6 y7 y8 y9 y10 y11 y12 y13 y14
  unfold slotmeshlaw12_counts.l5
  repeat' first
  | (with_reducible exact ih0 _ _ _ _ _ _ _ _ _ _ _ _)
  | (with_reducible exact ih1 _ _ _ _ _ _ _ _ _ _ _ _ _ _ _ _ _ _ _)
  | (with_reducible exact ih2 _ _ _ _ _ _ _ _ _ _ _ _)
  | (with_reducible exact ih3 _ _ _ _ _ _ _ _ _ _ _ _ _ _ _ _ _ _ _ _)
  | (with_reducible exact ih4 _ _ _ _ _ _ _ _ _)
  | (with_reducible exact ih5 _ _ _ _ _ _ _ _ _ _ _ _ _ _ _)
  | (with_reducible exact LeO.refl _)
  | (with_reducible exact LeO.none _)
  | (with_reducible refine LeO.ite ?_ ?_)
  | (with_reducible refine LeO.bind ?_ (fun _ => ?_))
  | exact ih0 _ _ _ _ _ _ _ _ _ _ _ _
  | exact ih1 _ _ _ _ _ _ _ _ _ _ _ _ _ _ _ _ _ _ _
  | exact ih2 _ _ _ _ _ _ _ _ _ _ _ _
  | exact ih3 _ _ _ _ _ _ _ _ _ _ _ _ _ _ _ _ _ _ _ _
  | exact ih4 _ _ _ _ _ _ _ _ _
  | exact ih5 _ _ _ _ _ _ _ _ _ _ _ _ _ _ _
  | exact LeO.none _
  | refine LeO.ite ?_ ?_
  | refine LeO.bind ?_ (fun _ => ?_)
theorem slotmeshlaw12_counts.mono : ∀ a0 a1 a2 a3 a4 a5 k, LeO (slotmeshlaw12_counts.f k a0 a1 a2 a3 a4 a5) (slotmeshlaw12_counts.f (k + 1) a0 a1 a2 a3 a4 a5) := by
 intro a0 a1 a2 a3 a4 a5 k
 obtain ⟨ih0, ih1, ih2, ih3, ih4, ih5⟩ := slotmeshlaw12_counts.mono_l k
 unfold slotmeshlaw12_counts.f
 repeat' first
   | (with_reducible exact ih0 _ _ _ _ _ _ _ _ _ _ _ _)
   | (with_reducible exact ih1 _ _ _ _ _ _ _ _ _ _ _ _ _ _ _ _ _ _ _)
   | (with_reducible exact ih2 _ _ _ _ _ _ _ _ _ _ _ _)
   | (with_reducible exact ih3 _ _ _ _ _ _ _ _ _ _ _ _ _ _ _ _ _ _ _ _)
   | (with_reducible exact ih4 _ _ _ _ _ _ _ _ _)
   | (with_reducible exact ih5 _ _ _ _ _ _ _ _ _ _ _ _ _ _ _)
   | (with_reducible exact LeO.refl _)
   | (with_reducible exact LeO.none _)
   | (with_reducible refine LeO.ite ?_ ?_)
   | (with_reducible refine LeO.bind ?_ (fun _ => ?_))
   | exact ih0 _ _ _ _ _ _ _ _ _ _ _ _
   | exact ih1 _ _ _ _ _ _ _ _ _ _ _ _ _ _ _ _ _ _ _
   | exact ih2 _ _ _ _ _ _ _ _ _ _ _ _
   | exact ih3 _ _ _ _ _ _ _ _ _ _ _ _ _ _ _ _ _ _ _ _
   | exact ih4 _ _ _ _ _ _ _ _ _
   | exact ih5 _ _ _ _ _ _ _ _ _ _ _ _ _ _ _
   | exact LeO.none _
   | refine LeO.ite ?_ ?_
   | refine LeO.bind ?_ (fun _ => ?_)
set_option maxHeartbeats 8000000 in
set_option maxRecDepth 100000 in
theorem slotmeshlaw12_counts.calls (k : Nat) (A0_0 : Option Addr) (c0_0 : Nat) (l0_0 : List (S32)) (A0_1 : Option Addr) (c0_1 : Nat) (l0_1 : List (S34)) (A0_2 : Option Addr) (c0_2 : Nat) (l0_2 : List (S51)) (A1_0 : Option Addr) (c1_0 : Nat) (l1_0 : List (S32)) (A1_1 : Option Addr) (c1_1 : Nat) (l1_1 : List (S34)) (A1_2 : Option Addr) (c1_2 : Nat) (l1_2 : List (S51)) (r1 : Int) (r2 : Int) (r3 : Int) (w : World) (hr0_0 : Kd.C k32 w A0_0 l0_0.length l0_0) (hc0_0 : l0_0.length ≤ c0_0) (hr0_1 : Kd.C k34 w A0_1 l0_1.length l0_1) (hc0_1 : l0_1.length ≤ c0_1) (hr0_2 : Kd.C k51 w A0_2 l0_2.length l0_2) (hc0_2 : l0_2.length ≤ c0_2) (hr1_0 : Kd.C k32 w A1_0 l1_0.length l1_0) (hc1_0 : l1_0.length ≤ c1_0) (hr1_1 : Kd.C k34 w A1_1 l1_1.length l1_1) (hc1_1 : l1_1.length ≤ c1_1) (hr1_2 : Kd.C k51 w A1_2 l1_2.length l1_2) (hc1_2 : l1_2.length ≤ c1_2) (h : slotmeshlaw12_counts.f k l0_0 l0_1 l0_2 l1_0 l1_1 l1_2 = some (r1, r2, r3)) :
  Calls Try.prog 25 #[.agg #[.slice A0_0 l0_0.length c0_0, .slice A0_1 l0_1.length c0_1, .slice A0_2 l0_2.length c0_2], .agg #[.slice A1_0 l1_0.length c1_0, .slice A1_1 l1_1.length c1_1, .slice A1_2 l1_2.length c1_2]] w fun e w' => e = .returned (.tuple #[.int .i64 r1, .int .i64 r2, .int .i64 r3]) ∧ Below w.heap.size w w' := by
 have hu26 := Try.underlying26
 have hu32 := Try.underlying32
 have hu34 := Try.underlying34
 have hu51 := Try.underlying51
 have HR0_0 := Aside0.mk hr0_0
 have HC0_0 := Aside0.mk hc0_0
 clear hr0_0 hc0_0
 have HR0_1 := Aside0.mk hr0_1
 have HC0_1 := Aside0.mk hc0_1
 clear hr0_1 hc0_1
 have HR0_2 := Aside0.mk hr0_2
 have HC0_2 := Aside0.mk hc0_2
 clear hr0_2 hc0_2
 have HR1_0 := Aside0.mk hr1_0
 have HC1_0 := Aside0.mk hc1_0
 clear hr1_0 hc1_0
 have HR1_1 := Aside0.mk hr1_1
 have HC1_1 := Aside0.mk hc1_1
 clear hr1_1 hc1_1
 have HR1_2 := Aside0.mk hr1_2
 have HC1_2 := Aside0.mk hc1_2
 clear hr1_2 hc1_2
 have HB := Aside0.mk (Below.refl w.heap.size w)
 have H : (slotmeshlaw12_counts.l0 k 0 0 0 l0_0 (l0_0.length : Int) 0 l0_0 l0_1 l0_2 l1_0 l1_1 l1_2) = some (r1, r2, r3) := h
 clear h
 have H' := Aside0.mk H
 clear H
 go_enter Try.func25, Try.ntmps25
 go_wp2_with (first | ((with_reducible refine gate_dst (N := 2) rfl ?_); refine bE (N := 2) (cs := #[.slice A0_0 l0_0.length c0_0, .slice A0_1 l0_1.length c0_1, .slice A0_2 l0_2.length c0_2]) (t := 26) ?_; intro gb441 hg w3 hbox hb; have BK441 := Aside0.mk (hbox); have GW441 := gW hg HB; have GE441 := GW441; replace HB := tW HB hb; clear hb hbox hg) | ((with_reducible refine gate_dst (N := 3) rfl ?_); refine bE (N := 3) (cs := #[.slice A1_0 l1_0.length c1_0, .slice A1_1 l1_1.length c1_1, .slice A1_2 l1_2.length c1_2]) (t := 26) ?_; intro gb442 hg w4 hbox hb; have BK442 := Aside0.mk (hbox); have GW442 := gW hg HB; have GE442 := GW442; replace HB := tW HB hb; have NB441_442 := gL hg BK441; have NB442_441 := gG hg BK441; replace BK441 := tB BK441 hb; clear hb hbox hg; have hnb5 := NB441_442.out; have hnc5 := NB442_441.out; have hcz6_0 : w4.cell? ⟨gb441, 0, none⟩ = some (.slice A0_0 l0_0.length c0_0) := bt BK441 0; have hcz6_1 : w4.cell? ⟨gb441, 1, none⟩ = some (.slice A0_1 l0_1.length c0_1) := bt BK441 1; have hcz6_2 : w4.cell? ⟨gb441, 2, none⟩ = some (.slice A0_2 l0_2.length c0_2) := bt BK441 2; have hfz6_0 := blk_frozen BK441.out 0; have hfz6_1 := blk_frozen BK441.out 1; have hfz6_2 := blk_frozen BK441.out 2))
 go_loopg [7, 25] k (fun kq v7 v25 w' => ∃ (x7_1 : Int) (x25_1 : Int), v7 = .int .i64 x7_1 ∧ v25 = .int .i64 x25_1 ∧ Aside0 (slotmeshlaw12_counts.l0 kq x7_1 0 0 l0_0 (l0_0.length : Int) x25_1 l0_0 l0_1 l0_2 l1_0 l1_1 l1_2 = some (r1, r2, r3)) ∧ Aside0 (kq ≤ k) ∧ Aside0 (w'.heap[gb441]? = some (.cells #[(.slice A0_0 l0_0.length c0_0), (.slice A0_1 l0_1.length c0_1), (.slice A0_2 l0_2.length c0_2)] 26 (0, 0))) ∧ Aside0 (w'.heap[gb442]? = some (.cells #[(.slice A1_0 l1_0.length c1_0), (.slice A1_1 l1_1.length c1_1), (.slice A1_2 l1_2.length c1_2)] 26 (0, 0))) ∧ Aside0 (Below w.heap.size w w'))
 case atStart => exact ⟨(0), (0), aR, aR, H', ⟨Nat.le_refl _⟩, ⟨sB BK441⟩, ⟨sB BK442⟩, ⟨sW HB⟩⟩
 case round =>
  clear H'
  try clear c1
  try clear c2
  try clear p2
  try clear c5
  try clear hcz6_0 hcz6_1 hcz6_2 hfz6_0 hfz6_1 hfz6_2
  obtain ⟨x7_1, x25_1, rfl, rfl, HA, HK1, BK441, BK442, HB⟩ := hrel
  cases gk with
  | zero => exact absurd HA.out (by simp [slotmeshlaw12_counts.l0])
  | succ k1 =>
   have H := HA.out
   clear HA
   simp only [slotmeshlaw12_counts.l0] at H
   by_cases c7 : x25_1 < (l0_0.length : Int)
   ·rw [if_pos c7] at H
    have c7b0 : decide (x25_1 < (l0_0.length : Int)) = true := decide_eq_true c7
    clear c7
    by_cases c8 : 0 ≤ x25_1
    ·rw [if_pos c8] at H
     have c8b0 : decide (0 ≤ x25_1) = true := decide_eq_true c8
     clear c8
     by_cases c9 : x25_1 < (l0_0.length : Int)
     ·rw [if_pos c9] at H
      have c9b0 : decide (x25_1 < (l0_0.length : Int)) = true := decide_eq_true c9
      clear c9
      have H' := Aside0.mk H
      clear H
      have p443 : 0 ≤ (x25_1 : Int) := dA
      have q443 : x25_1 < (l0_0.length : Int) := dA
      obtain ⟨ad443, e443, hx443_0, hx443_1, hx443_2, hx443_3⟩ := at_T32 HR0_0.out x25_1 p443 q443
      cases e443
      replace hx443_0 := (HB.out.cell (World.block_lt_of_cell? w _ hx443_0)).trans hx443_0
      replace hx443_1 := (HB.out.cell (World.block_lt_of_cell? w _ hx443_1)).trans hx443_1
      replace hx443_2 := (HB.out.cell (World.block_lt_of_cell? w _ hx443_2)).trans hx443_2
      replace hx443_3 := (HB.out.cell (World.block_lt_of_cell? w _ hx443_3)).trans hx443_3
      replace p443 := eq_true p443
      replace q443 := eq_true q443
      go_wp2_with (first | ((with_reducible refine gate_dst (N := 11) rfl ?_); refine bE (N := 11) (cs := #[.int .i64 0, .int .i64 0, .int .i64 0, .int .i64 0]) (t := 32) ?_; intro gb444 hg w10 hbox hb; have BK444 := Aside0.mk (hbox); have GW444 := gW hg HB; have GE444 := GW444; replace HB := tW HB hb; have NB441_444 := gL hg BK441; have NB444_441 := gG hg BK441; replace BK441 := tB BK441 hb; have NB442_444 := gL hg BK442; have NB444_442 := gG hg BK442; replace BK442 := tB BK442 hb; clear hb hbox hg; have hnb11 := NB444_441.out; have hnc11 := NB441_444.out; have hnb12 := NB444_442.out; have hnc12 := NB442_444.out; have hcz13_0 : w10.cell? ⟨gb444, 0, none⟩ = some (.int .i64 0) := bt BK444 0; have hcz13_1 : w10.cell? ⟨gb444, 1, none⟩ = some (.int .i64 0) := bt BK444 1; have hcz13_2 : w10.cell? ⟨gb444, 2, none⟩ = some (.int .i64 0) := bt BK444 2; have hcz13_3 : w10.cell? ⟨gb444, 3, none⟩ = some (.int .i64 0) := bt BK444 3; have hfz13_0 := blk_frozen BK444.out 0; have hfz13_1 := blk_frozen BK444.out 1; have hfz13_2 := blk_frozen BK444.out 2; have hfz13_3 := blk_frozen BK444.out 3; have hnb14 := NB442_441.out; have hnc14 := NB441_442.out; have hcz15_0 : w10.cell? ⟨gb442, 0, none⟩ = some (.slice A1_0 l1_0.length c1_0) := bt BK442 0; have hcz15_1 : w10.cell? ⟨gb442, 1, none⟩ = some (.slice A1_1 l1_1.length c1_1) := bt BK442 1; have hcz15_2 : w10.cell? ⟨gb442, 2, none⟩ = some (.slice A1_2 l1_2.length c1_2) := bt BK442 2; have hfz15_0 := blk_frozen BK442.out 0; have hfz15_1 := blk_frozen BK442.out 1; have hfz15_2 := blk_frozen BK442.out 2))
      go_loopg [7, 32] k1 (fun kq v7 v32 w' => ∃ (x7_2 : Int) (x32_2 : Int), v7 = .int .i64 x7_2 ∧ v32 = .int .i64 x32_2 ∧ Aside0 (slotmeshlaw12_counts.l1 kq x7_2 0 0 l0_0 (l0_0.length : Int) x25_1 l1_0 (l1_0.length : Int) x32_2 l0_0 l0_1 l0_2 l1_0 l1_1 l1_2 ((rd_T32 l0_0 x25_1).f0.f0) ((rd_T32 l0_0 x25_1).f0.f1) ((rd_T32 l0_0 x25_1).f1) ((rd_T32 l0_0 x25_1).f2) = some (r1, r2, r3)) ∧ Aside0 (kq ≤ k1) ∧ Aside0 (w'.heap[gb441]? = some (.cells #[(.slice (some ad443) l0_0.length c0_0), (.slice A0_1 l0_1.length c0_1), (.slice A0_2 l0_2.length c0_2)] 26 (0, 0))) ∧ Aside0 (w'.heap[gb442]? = some (.cells #[(.slice A1_0 l1_0.length c1_0), (.slice A1_1 l1_1.length c1_1), (.slice A1_2 l1_2.length c1_2)] 26 (0, 0))) ∧ Aside0 (w'.heap[gb444]? = some (.cells #[.int .i64 ((rd_T32 l0_0 x25_1).f0.f0), .int .i64 ((rd_T32 l0_0 x25_1).f0.f1), .int .i64 ((rd_T32 l0_0 x25_1).f1), .int .i64 ((rd_T32 l0_0 x25_1).f2)] 32 (0, 0))) ∧ Aside0 (Below w.heap.size w w'))
      case atStart => exact ⟨(x7_1), (0), aR, aR, H', ⟨Nat.le_refl _⟩, ⟨sB BK441⟩, ⟨sB BK442⟩, ⟨by (with_reducible repeat (first | refine blk_drewN ?_ _ | refine blk_drew ?_ | refine blk_alloc ?_ _)); refine blk_put (cs := #[.int .i64 ((rd_T32 l0_0 x25_1).f0.f0), .int .i64 ((rd_T32 l0_0 x25_1).f0.f1), .int .i64 ((rd_T32 l0_0 x25_1).f1), .int .i64 0]) ?_ 3 _ rfl; (with_reducible repeat (first | refine blk_drewN ?_ _ | refine blk_drew ?_ | refine blk_alloc ?_ _)); refine blk_put (cs := #[.int .i64 ((rd_T32 l0_0 x25_1).f0.f0), .int .i64 ((rd_T32 l0_0 x25_1).f0.f1), .int .i64 0, .int .i64 0]) ?_ 2 _ rfl; (with_reducible repeat (first | refine blk_drewN ?_ _ | refine blk_drew ?_ | refine blk_alloc ?_ _)); refine blk_put (cs := #[.int .i64 ((rd_T32 l0_0 x25_1).f0.f0), .int .i64 0, .int .i64 0, .int .i64 0]) ?_ 1 _ rfl; (with_reducible repeat (first | refine blk_drewN ?_ _ | refine blk_drew ?_ | refine blk_alloc ?_ _)); refine blk_put (cs := #[.int .i64 0, .int .i64 0, .int .i64 0, .int .i64 0]) ?_ 0 _ rfl; (with_reducible repeat (first | refine blk_drewN ?_ _ | refine blk_drew ?_ | refine blk_alloc ?_ _)); exact BK444.out⟩, ⟨sW HB⟩⟩
      case round =>
       clear H'
       try clear c1
       try clear c2
       try clear p2
       try clear p4
       try clear q4
       try clear hx4
       try clear c5
       try clear c7
       try clear c7b0
       try clear c8
       try clear c8b0
       try clear c9
       try clear c9b0
       try clear c11
       try clear c12
       try clear c14
       try clear hcz13_0 hcz13_1 hcz13_2 hcz13_3 hfz13_0 hfz13_1 hfz13_2 hfz13_3
       try clear hcz15_0 hcz15_1 hcz15_2 hfz15_0 hfz15_1 hfz15_2
       try clear hcz6_0 hcz6_1 hcz6_2 hfz6_0 hfz6_1 hfz6_2
       try clear hx443_0
       try clear hx443_1
       try clear hx443_2
       try clear hx443_3
       try clear p2
       try clear p443
       try clear q443
       obtain ⟨x7_2, x32_2, rfl, rfl, HA, HK2, BK441, BK442, BK444, HB⟩ := hrel
       cases gk with
       | zero => exact absurd HA.out (by simp [slotmeshlaw12_counts.l1])
       | succ k2 =>
        have H := HA.out
        clear HA
        simp only [slotmeshlaw12_counts.l1] at H
        by_cases c16 : x32_2 < (l1_0.length : Int)
        ·rw [if_pos c16] at H
         have c16b0 : decide (x32_2 < (l1_0.length : Int)) = true := decide_eq_true c16
         clear c16
         by_cases c17 : 0 ≤ x32_2
         ·rw [if_pos c17] at H
          have c17b0 : decide (0 ≤ x32_2) = true := decide_eq_true c17
          clear c17
          by_cases c18 : x32_2 < (l1_0.length : Int)
          ·rw [if_pos c18] at H
           have c18b0 : decide (x32_2 < (l1_0.length : Int)) = true := decide_eq_true c18
           clear c18
           by_cases c19 : ((((rd_T32 l0_0 x25_1).f0.f0) == ((rd_T32 l1_0 x32_2).f0.f0) && (((rd_T32 l0_0 x25_1).f0.f1) == ((rd_T32 l1_0 x32_2).f0.f1))) && (((rd_T32 l0_0 x25_1).f1) == ((rd_T32 l1_0 x32_2).f1) && (((rd_T32 l0_0 x25_1).f2) == ((rd_T32 l1_0 x32_2).f2)))) = true
           ·rw [if_pos c19] at H
            have c19b0 : ((((rd_T32 l0_0 x25_1).f0.f0) == ((rd_T32 l1_0 x32_2).f0.f0) && (((rd_T32 l0_0 x25_1).f0.f1) == ((rd_T32 l1_0 x32_2).f0.f1))) && (((rd_T32 l0_0 x25_1).f1) == ((rd_T32 l1_0 x32_2).f1) && (((rd_T32 l0_0 x25_1).f2) == ((rd_T32 l1_0 x32_2).f2)))) = true := c19
            clear c19
            have H' := Aside0.mk H
            clear H
            have p445 : 0 ≤ (x32_2 : Int) := dA
            have q445 : x32_2 < (l1_0.length : Int) := dA
            obtain ⟨ad445, e445, hx445_0, hx445_1, hx445_2, hx445_3⟩ := at_T32 HR1_0.out x32_2 p445 q445
            cases e445
            replace hx445_0 := (HB.out.cell (World.block_lt_of_cell? w _ hx445_0)).trans hx445_0
            replace hx445_1 := (HB.out.cell (World.block_lt_of_cell? w _ hx445_1)).trans hx445_1
            replace hx445_2 := (HB.out.cell (World.block_lt_of_cell? w _ hx445_2)).trans hx445_2
            replace hx445_3 := (HB.out.cell (World.block_lt_of_cell? w _ hx445_3)).trans hx445_3
            replace p445 := eq_true p445
            replace q445 := eq_true q445
            go_wp2_with (first | ((with_reducible refine gate_dst (N := 13) rfl ?_); refine bE (N := 13) (cs := #[.int .i64 0, .int .i64 0, .int .i64 0, .int .i64 0]) (t := 32) ?_; intro gb446 hg w20 hbox hb; have BK446 := Aside0.mk (hbox); have GW446 := gW hg HB; have GE446 := GW446; replace HB := tW HB hb; have NB441_446 := gL hg BK441; have NB446_441 := gG hg BK441; replace BK441 := tB BK441 hb; have NB442_446 := gL hg BK442; have NB446_442 := gG hg BK442; replace BK442 := tB BK442 hb; have NB444_446 := gL hg BK444; have NB446_444 := gG hg BK444; replace BK444 := tB BK444 hb; clear hb hbox hg; have hnb21 := NB446_441.out; have hnc21 := NB441_446.out; have hnb22 := NB446_442.out; have hnc22 := NB442_446.out; have hnb23 := NB446_444.out; have hnc23 := NB444_446.out; have hcz24_0 : w20.cell? ⟨gb446, 0, none⟩ = some (.int .i64 0) := bt BK446 0; have hcz24_1 : w20.cell? ⟨gb446, 1, none⟩ = some (.int .i64 0) := bt BK446 1; have hcz24_2 : w20.cell? ⟨gb446, 2, none⟩ = some (.int .i64 0) := bt BK446 2; have hcz24_3 : w20.cell? ⟨gb446, 3, none⟩ = some (.int .i64 0) := bt BK446 3; have hfz24_0 := blk_frozen BK446.out 0; have hfz24_1 := blk_frozen BK446.out 1; have hfz24_2 := blk_frozen BK446.out 2; have hfz24_3 := blk_frozen BK446.out 3; have hnb25 := NB444_441.out; have hnc25 := NB441_444.out; have hnb26 := NB444_442.out; have hnc26 := NB442_444.out; have hcz27_0 : w20.cell? ⟨gb444, 0, none⟩ = some (.int .i64 ((rd_T32 l0_0 x25_1).f0.f0)) := bt BK444 0; have hcz27_1 : w20.cell? ⟨gb444, 1, none⟩ = some (.int .i64 ((rd_T32 l0_0 x25_1).f0.f1)) := bt BK444 1; have hcz27_2 : w20.cell? ⟨gb444, 2, none⟩ = some (.int .i64 ((rd_T32 l0_0 x25_1).f1)) := bt BK444 2; have hcz27_3 : w20.cell? ⟨gb444, 3, none⟩ = some (.int .i64 ((rd_T32 l0_0 x25_1).f2)) := bt BK444 3; have hfz27_0 := blk_frozen BK444.out 0; have hfz27_1 := blk_frozen BK444.out 1; have hfz27_2 := blk_frozen BK444.out 2; have hfz27_3 := blk_frozen BK444.out 3))
            go_roundg k2
            case measure => have := HK1.out; have := HK2.out; omega
            case rel => exact ⟨(wrap64 (x7_2 + 1)), (wrap64 (x32_2 + 1)), aR, aR, H', ⟨by have := HK1.out; have := HK2.out; omega⟩, ⟨sB BK441⟩, ⟨sB BK442⟩, ⟨sB BK444⟩, ⟨sW HB⟩⟩
           rw [if_neg c19] at H
           have c19b0 : ((((rd_T32 l0_0 x25_1).f0.f0) == ((rd_T32 l1_0 x32_2).f0.f0) && (((rd_T32 l0_0 x25_1).f0.f1) == ((rd_T32 l1_0 x32_2).f0.f1))) && (((rd_T32 l0_0 x25_1).f1) == ((rd_T32 l1_0 x32_2).f1) && (((rd_T32 l0_0 x25_1).f2) == ((rd_T32 l1_0 x32_2).f2)))) = false := by simpa using c19
           clear c19
           have H' := Aside0.mk H
           clear H
           have p445 : 0 ≤ (x32_2 : Int) := dA
           have q445 : x32_2 < (l1_0.length : Int) := dA
           obtain ⟨ad445, e445, hx445_0, hx445_1, hx445_2, hx445_3⟩ := at_T32 HR1_0.out x32_2 p445 q445
           cases e445
           replace hx445_0 := (HB.out.cell (World.block_lt_of_cell? w _ hx445_0)).trans hx445_0
           replace hx445_1 := (HB.out.cell (World.block_lt_of_cell? w _ hx445_1)).trans hx445_1
           replace hx445_2 := (HB.out.cell (World.block_lt_of_cell? w _ hx445_2)).trans hx445_2
           replace hx445_3 := (HB.out.cell (World.block_lt_of_cell? w _ hx445_3)).trans hx445_3
           replace p445 := eq_true p445
           replace q445 := eq_true q445
           go_wp2_with (first | ((with_reducible refine gate_dst (N := 13) rfl ?_); refine bE (N := 13) (cs := #[.int .i64 0, .int .i64 0, .int .i64 0, .int .i64 0]) (t := 32) ?_; intro gb446 hg w28 hbox hb; have BK446 := Aside0.mk (hbox); have GW446 := gW hg HB; have GE446 := GW446; replace HB := tW HB hb; have NB441_446 := gL hg BK441; have NB446_441 := gG hg BK441; replace BK441 := tB BK441 hb; have NB442_446 := gL hg BK442; have NB446_442 := gG hg BK442; replace BK442 := tB BK442 hb; have NB444_446 := gL hg BK444; have NB446_444 := gG hg BK444; replace BK444 := tB BK444 hb; clear hb hbox hg; have hnb29 := NB446_441.out; have hnc29 := NB441_446.out; have hnb30 := NB446_442.out; have hnc30 := NB442_446.out; have hnb31 := NB446_444.out; have hnc31 := NB444_446.out; have hcz32_0 : w28.cell? ⟨gb446, 0, none⟩ = some (.int .i64 0) := bt BK446 0; have hcz32_1 : w28.cell? ⟨gb446, 1, none⟩ = some (.int .i64 0) := bt BK446 1; have hcz32_2 : w28.cell? ⟨gb446, 2, none⟩ = some (.int .i64 0) := bt BK446 2; have hcz32_3 : w28.cell? ⟨gb446, 3, none⟩ = some (.int .i64 0) := bt BK446 3; have hfz32_0 := blk_frozen BK446.out 0; have hfz32_1 := blk_frozen BK446.out 1; have hfz32_2 := blk_frozen BK446.out 2; have hfz32_3 := blk_frozen BK446.out 3; have hnb33 := NB444_441.out; have hnc33 := NB441_444.out; have hnb34 := NB444_442.out; have hnc34 := NB442_444.out; have hcz35_0 : w28.cell? ⟨gb444, 0, none⟩ = some (.int .i64 ((rd_T32 l0_0 x25_1).f0.f0)) := bt BK444 0; have hcz35_1 : w28.cell? ⟨gb444, 1, none⟩ = some (.int .i64 ((rd_T32 l0_0 x25_1).f0.f1)) := bt BK444 1; have hcz35_2 : w28.cell? ⟨gb444, 2, none⟩ = some (.int .i64 ((rd_T32 l0_0 x25_1).f1)) := bt BK444 2; have hcz35_3 : w28.cell? ⟨gb444, 3, none⟩ = some (.int .i64 ((rd_T32 l0_0 x25_1).f2)) := bt BK444 3; have hfz35_0 := blk_frozen BK444.out 0; have hfz35_1 := blk_frozen BK444.out 1; have hfz35_2 := blk_frozen BK444.out 2; have hfz35_3 := blk_frozen BK444.out 3))
           go_roundg k2
           case measure => have := HK1.out; have := HK2.out; omega
           case rel => exact ⟨(x7_2), (wrap64 (x32_2 + 1)), aR, aR, H', ⟨by have := HK1.out; have := HK2.out; omega⟩, ⟨sB BK441⟩, ⟨sB BK442⟩, ⟨sB BK444⟩, ⟨sW HB⟩⟩
          rw [if_neg c18] at H
          exact absurd H (by simp)
         rw [if_neg c17] at H
         exact absurd H (by simp)
        rw [if_neg c16] at H
        have c16b0 : decide (x32_2 < (l1_0.length : Int)) = false := decide_eq_false c16
        clear c16
        have H' := Aside0.mk H
        clear H
        go_wp2
        go_roundg k2
        case measure => have := HK1.out; have := HK2.out; omega
        case rel => exact ⟨(x7_2), (wrap64 (x25_1 + 1)), aR, aR, H', ⟨by have := HK1.out; have := HK2.out; omega⟩, ⟨sB BK441⟩, ⟨sB BK442⟩, ⟨sW HB⟩⟩
     rw [if_neg c9] at H
     exact absurd H (by simp)
    rw [if_neg c8] at H
    exact absurd H (by simp)
   rw [if_neg c7] at H
   have c7b0 : decide (x25_1 < (l0_0.length : Int)) = false := decide_eq_false c7
   clear c7
   have H' := Aside0.mk H
   clear H
   have hnb36 := NB441_442.out
   have hnc36 := NB442_441.out
   have hcz37_0 : wr.cell? ⟨gb441, 0, none⟩ = some (.slice A0_0 l0_0.length c0_0) := bt BK441 0
   have hcz37_1 : wr.cell? ⟨gb441, 1, none⟩ = some (.slice A0_1 l0_1.length c0_1) := bt BK441 1
   have hcz37_2 : wr.cell? ⟨gb441, 2, none⟩ = some (.slice A0_2 l0_2.length c0_2) := bt BK441 2
   have hfz37_0 := blk_frozen BK441.out 0
   have hfz37_1 := blk_frozen BK441.out 1
   have hfz37_2 := blk_frozen BK441.out 2
   go_wp2
   go_loopg [8, 46] k1 (fun kq v8 v46 w' => ∃ (x8_2 : Int) (x46_2 : Int), v8 = .int .i64 x8_2 ∧ v46 = .int .i64 x46_2 ∧ Aside0 (slotmeshlaw12_counts.l2 kq x7_1 x8_2 0 l0_1 (l0_1.length : Int) x46_2 l0_0 l0_1 l0_2 l1_0 l1_1 l1_2 = some (r1, r2, r3)) ∧ Aside0 (kq ≤ k1) ∧ Aside0 (w'.heap[gb441]? = some (.cells #[(.slice A0_0 l0_0.length c0_0), (.slice A0_1 l0_1.length c0_1), (.slice A0_2 l0_2.length c0_2)] 26 (0, 0))) ∧ Aside0 (w'.heap[gb442]? = some (.cells #[(.slice A1_0 l1_0.length c1_0), (.slice A1_1 l1_1.length c1_1), (.slice A1_2 l1_2.length c1_2)] 26 (0, 0))) ∧ Aside0 (Below w.heap.size w w'))
   case atStart => exact ⟨(0), (0), aR, aR, H', ⟨Nat.le_refl _⟩, ⟨sB BK441⟩, ⟨sB BK442⟩, ⟨sW HB⟩⟩
   case round =>
    clear H'
    try clear c1
    try clear c2
    try clear p2
    try clear c3
    try clear p4
    try clear q4
    try clear hx4
    try clear c5
    try clear p6
    try clear c7
    try clear c7b0
    try clear c8
    try clear c8b0
    try clear c9
    try clear c9b0
    try clear c11
    try clear c12
    try clear c14
    try clear c16
    try clear c16b0
    try clear c17
    try clear c17b0
    try clear c18
    try clear c18b0
    try clear c19
    try clear c19b0
    try clear c21
    try clear c22
    try clear c23
    try clear c25
    try clear c26
    try clear c29
    try clear c30
    try clear c31
    try clear c33
    try clear c34
    try clear c36
    try clear hcz13_0 hcz13_1 hcz13_2 hcz13_3 hfz13_0 hfz13_1 hfz13_2 hfz13_3
    try clear hcz15_0 hcz15_1 hcz15_2 hfz15_0 hfz15_1 hfz15_2
    try clear hcz24_0 hcz24_1 hcz24_2 hcz24_3 hfz24_0 hfz24_1 hfz24_2 hfz24_3
    try clear hcz27_0 hcz27_1 hcz27_2 hcz27_3 hfz27_0 hfz27_1 hfz27_2 hfz27_3
    try clear hcz32_0 hcz32_1 hcz32_2 hcz32_3 hfz32_0 hfz32_1 hfz32_2 hfz32_3
    try clear hcz35_0 hcz35_1 hcz35_2 hcz35_3 hfz35_0 hfz35_1 hfz35_2 hfz35_3
    try clear hcz37_0 hcz37_1 hcz37_2 hfz37_0 hfz37_1 hfz37_2
    try clear hcz6_0 hcz6_1 hcz6_2 hfz6_0 hfz6_1 hfz6_2
    try clear hx443_0
    try clear hx443_1
    try clear hx443_2
    try clear hx443_3
    try clear hx445_0
    try clear hx445_1
    try clear hx445_2
    try clear hx445_3
    try clear p2
    try clear p4
    try clear p443
    try clear p445
    try clear q4
    try clear q443
    try clear q445
    obtain ⟨x8_2, x46_2, rfl, rfl, HA, HK2, BK441, BK442, HB⟩ := hrel
    cases gk with
    | zero => exact absurd HA.out (by simp [slotmeshlaw12_counts.l2])
    | succ k2 =>
     have H := HA.out
     clear HA
     simp only [slotmeshlaw12_counts.l2] at H
     by_cases c38 : x46_2 < (l0_1.length : Int)
     ·rw [if_pos c38] at H
      have c38b0 : decide (x46_2 < (l0_1.length : Int)) = true := decide_eq_true c38
      clear c38
      by_cases c39 : 0 ≤ x46_2
      ·rw [if_pos c39] at H
       have c39b0 : decide (0 ≤ x46_2) = true := decide_eq_true c39
       clear c39
       by_cases c40 : x46_2 < (l0_1.length : Int)
       ·rw [if_pos c40] at H
        have c40b0 : decide (x46_2 < (l0_1.length : Int)) = true := decide_eq_true c40
        clear c40
        have H' := Aside0.mk H
        clear H
        have p447 : 0 ≤ (x46_2 : Int) := dA
        have q447 : x46_2 < (l0_1.length : Int) := dA
        obtain ⟨ad447, e447, hx447_0, hx447_1, hx447_2, hx447_3, hx447_4⟩ := at_T34 HR0_1.out x46_2 p447 q447
        cases e447
        replace hx447_0 := (HB.out.cell (World.block_lt_of_cell? w _ hx447_0)).trans hx447_0
        replace hx447_1 := (HB.out.cell (World.block_lt_of_cell? w _ hx447_1)).trans hx447_1
        replace hx447_2 := (HB.out.cell (World.block_lt_of_cell? w _ hx447_2)).trans hx447_2
        replace hx447_3 := (HB.out.cell (World.block_lt_of_cell? w _ hx447_3)).trans hx447_3
        replace hx447_4 := (HB.out.cell (World.block_lt_of_cell? w _ hx447_4)).trans hx447_4
        replace p447 := eq_true p447
        replace q447 := eq_true q447
        go_wp2_with (first | ((with_reducible refine gate_dst (N := 15) rfl ?_); refine bE (N := 15) (cs := #[.int .i64 0, .int .i64 0, .int .i64 0, .int .i64 0, .int .i64 0]) (t := 34) ?_; intro gb448 hg w41 hbox hb; have BK448 := Aside0.mk (hbox); have GW448 := gW hg HB; have GE448 := GW448; replace HB := tW HB hb; have NB441_448 := gL hg BK441; have NB448_441 := gG hg BK441; replace BK441 := tB BK441 hb; have NB442_448 := gL hg BK442; have NB448_442 := gG hg BK442; replace BK442 := tB BK442 hb; clear hb hbox hg; have hnb42 := NB448_441.out; have hnc42 := NB441_448.out; have hnb43 := NB448_442.out; have hnc43 := NB442_448.out; have hcz44_0 : w41.cell? ⟨gb448, 0, none⟩ = some (.int .i64 0) := bt BK448 0; have hcz44_1 : w41.cell? ⟨gb448, 1, none⟩ = some (.int .i64 0) := bt BK448 1; have hcz44_2 : w41.cell? ⟨gb448, 2, none⟩ = some (.int .i64 0) := bt BK448 2; have hcz44_3 : w41.cell? ⟨gb448, 3, none⟩ = some (.int .i64 0) := bt BK448 3; have hcz44_4 : w41.cell? ⟨gb448, 4, none⟩ = some (.int .i64 0) := bt BK448 4; have hfz44_0 := blk_frozen BK448.out 0; have hfz44_1 := blk_frozen BK448.out 1; have hfz44_2 := blk_frozen BK448.out 2; have hfz44_3 := blk_frozen BK448.out 3; have hfz44_4 := blk_frozen BK448.out 4; have hnb45 := NB442_441.out; have hnc45 := NB441_442.out; have hcz46_0 : w41.cell? ⟨gb442, 0, none⟩ = some (.slice A1_0 l1_0.length c1_0) := bt BK442 0; have hcz46_1 : w41.cell? ⟨gb442, 1, none⟩ = some (.slice A1_1 l1_1.length c1_1) := bt BK442 1; have hcz46_2 : w41.cell? ⟨gb442, 2, none⟩ = some (.slice A1_2 l1_2.length c1_2) := bt BK442 2; have hfz46_0 := blk_frozen BK442.out 0; have hfz46_1 := blk_frozen BK442.out 1; have hfz46_2 := blk_frozen BK442.out 2))
        go_loopg [8, 53] k2 (fun kq v8 v53 w' => ∃ (x8_3 : Int) (x53_3 : Int), v8 = .int .i64 x8_3 ∧ v53 = .int .i64 x53_3 ∧ Aside0 (slotmeshlaw12_counts.l3 kq x7_1 x8_3 0 l0_1 (l0_1.length : Int) x46_2 l1_1 (l1_1.length : Int) x53_3 l0_0 l0_1 l0_2 l1_0 l1_1 l1_2 ((rd_T34 l0_1 x46_2).f0.f0) ((rd_T34 l0_1 x46_2).f0.f1) ((rd_T34 l0_1 x46_2).f1) ((rd_T34 l0_1 x46_2).f2) ((rd_T34 l0_1 x46_2).f3) = some (r1, r2, r3)) ∧ Aside0 (kq ≤ k2) ∧ Aside0 (w'.heap[gb441]? = some (.cells #[(.slice A0_0 l0_0.length c0_0), (.slice (some ad447) l0_1.length c0_1), (.slice A0_2 l0_2.length c0_2)] 26 (0, 0))) ∧ Aside0 (w'.heap[gb442]? = some (.cells #[(.slice A1_0 l1_0.length c1_0), (.slice A1_1 l1_1.length c1_1), (.slice A1_2 l1_2.length c1_2)] 26 (0, 0))) ∧ Aside0 (w'.heap[gb448]? = some (.cells #[.int .i64 ((rd_T34 l0_1 x46_2).f0.f0), .int .i64 ((rd_T34 l0_1 x46_2).f0.f1), .int .i64 ((rd_T34 l0_1 x46_2).f1), .int .i64 ((rd_T34 l0_1 x46_2).f2), .int .i64 ((rd_T34 l0_1 x46_2).f3)] 34 (0, 0))) ∧ Aside0 (Below w.heap.size w w'))
        case atStart => exact ⟨(x8_2), (0), aR, aR, H', ⟨Nat.le_refl _⟩, ⟨sB BK441⟩, ⟨sB BK442⟩, ⟨by (with_reducible repeat (first | refine blk_drewN ?_ _ | refine blk_drew ?_ | refine blk_alloc ?_ _)); refine blk_put (cs := #[.int .i64 ((rd_T34 l0_1 x46_2).f0.f0), .int .i64 ((rd_T34 l0_1 x46_2).f0.f1), .int .i64 ((rd_T34 l0_1 x46_2).f1), .int .i64 ((rd_T34 l0_1 x46_2).f2), .int .i64 0]) ?_ 4 _ rfl; (with_reducible repeat (first | refine blk_drewN ?_ _ | refine blk_drew ?_ | refine blk_alloc ?_ _)); refine blk_put (cs := #[.int .i64 ((rd_T34 l0_1 x46_2).f0.f0), .int .i64 ((rd_T34 l0_1 x46_2).f0.f1), .int .i64 ((rd_T34 l0_1 x46_2).f1), .int .i64 0, .int .i64 0]) ?_ 3 _ rfl; (with_reducible repeat (first | refine blk_drewN ?_ _ | refine blk_drew ?_ | refine blk_alloc ?_ _)); refine blk_put (cs := #[.int .i64 ((rd_T34 l0_1 x46_2).f0.f0), .int .i64 ((rd_T34 l0_1 x46_2).f0.f1), .int .i64 0, .int .i64 0, .int .i64 0]) ?_ 2 _ rfl; (with_reducible repeat (first | refine blk_drewN ?_ _ | refine blk_drew ?_ | refine blk_alloc ?_ _)); refine blk_put (cs := #[.int .i64 ((rd_T34 l0_1 x46_2).f0.f0), .int .i64 0, .int .i64 0, .int .i64 0, .int .i64 0]) ?_ 1 _ rfl; (with_reducible repeat (first | refine blk_drewN ?_ _ | refine blk_drew ?_ | refine blk_alloc ?_ _)); refine blk_put (cs := #[.int .i64 0, .int .i64 0, .int .i64 0, .int .i64 0, .int .i64 0]) ?_ 0 _ rfl; (with_reducible repeat (first | refine blk_drewN ?_ _ | refine blk_drew ?_ | refine blk_alloc ?_ _)); exact BK448.out⟩, ⟨sW HB⟩⟩
        case round =>
         clear H'
         try clear c1
         try clear c2
         try clear p2
         try clear c3
         try clear c4
         try clear p4
         try clear q4
         try clear hx4
         try clear c5
         try clear p6
         try clear c7
         try clear c7b0
         try clear c8
         try clear c8b0
         try clear c9
         try clear c9b0
         try clear c11
         try clear c12
         try clear c14
         try clear c16
         try clear c16b0
         try clear c17
         try clear c17b0
         try clear c18
         try clear c18b0
         try clear c19
         try clear c19b0
         try clear c21
         try clear c22
         try clear c23
         try clear c25
         try clear c26
         try clear c29
         try clear c30
         try clear c31
         try clear c33
         try clear c34
         try clear c36
         try clear c38
         try clear c38b0
         try clear c39
         try clear c39b0
         try clear c40
         try clear c40b0
         try clear c42
         try clear c43
         try clear p44
         try clear q44
         try clear hx44
         try clear c45
         try clear hcz13_0 hcz13_1 hcz13_2 hcz13_3 hfz13_0 hfz13_1 hfz13_2 hfz13_3
         try clear hcz15_0 hcz15_1 hcz15_2 hfz15_0 hfz15_1 hfz15_2
         try clear hcz24_0 hcz24_1 hcz24_2 hcz24_3 hfz24_0 hfz24_1 hfz24_2 hfz24_3
         try clear hcz27_0 hcz27_1 hcz27_2 hcz27_3 hfz27_0 hfz27_1 hfz27_2 hfz27_3
         try clear hcz32_0 hcz32_1 hcz32_2 hcz32_3 hfz32_0 hfz32_1 hfz32_2 hfz32_3
         try clear hcz35_0 hcz35_1 hcz35_2 hcz35_3 hfz35_0 hfz35_1 hfz35_2 hfz35_3
         try clear hcz37_0 hcz37_1 hcz37_2 hfz37_0 hfz37_1 hfz37_2
         try clear hcz44_0 hcz44_1 hcz44_2 hcz44_3 hcz44_4 hfz44_0 hfz44_1 hfz44_2 hfz44_3 hfz44_4
         try clear hcz46_0 hcz46_1 hcz46_2 hfz46_0 hfz46_1 hfz46_2
         try clear hcz6_0 hcz6_1 hcz6_2 hfz6_0 hfz6_1 hfz6_2
         try clear hx443_0
         try clear hx443_1
         try clear hx443_2
         try clear hx443_3
         try clear hx445_0
         try clear hx445_1
         try clear hx445_2
         try clear hx445_3
         try clear hx447_0
         try clear hx447_1
         try clear hx447_2
         try clear hx447_3
         try clear hx447_4
         try clear p2
         try clear p4
         try clear p443
         try clear p445
         try clear p447
         try clear p6
         try clear q4
         try clear q443
         try clear q445
         try clear q447
         obtain ⟨x8_3, x53_3, rfl, rfl, HA, HK3, BK441, BK442, BK448, HB⟩ := hrel
         cases gk with
         | zero => exact absurd HA.out (by simp [slotmeshlaw12_counts.l3])
         | succ k3 =>
          have H := HA.out
          clear HA
          simp only [slotmeshlaw12_counts.l3] at H
          by_cases c47 : x53_3 < (l1_1.length : Int)
          ·rw [if_pos c47] at H
           have c47b0 : decide (x53_3 < (l1_1.length : Int)) = true := decide_eq_true c47
           clear c47
           by_cases c48 : 0 ≤ x53_3
           ·rw [if_pos c48] at H
            have c48b0 : decide (0 ≤ x53_3) = true := decide_eq_true c48
            clear c48
            by_cases c49 : x53_3 < (l1_1.length : Int)
            ·rw [if_pos c49] at H
             have c49b0 : decide (x53_3 < (l1_1.length : Int)) = true := decide_eq_true c49
             clear c49
             by_cases c50 : ((((rd_T34 l0_1 x46_2).f0.f0) == ((rd_T34 l1_1 x53_3).f0.f0) && (((rd_T34 l0_1 x46_2).f0.f1) == ((rd_T34 l1_1 x53_3).f0.f1))) && (((rd_T34 l0_1 x46_2).f1) == ((rd_T34 l1_1 x53_3).f1) && (((rd_T34 l0_1 x46_2).f2) == ((rd_T34 l1_1 x53_3).f2) && (((rd_T34 l0_1 x46_2).f3) == ((rd_T34 l1_1 x53_3).f3))))) = true
             ·rw [if_pos c50] at H
              have c50b0 : ((((rd_T34 l0_1 x46_2).f0.f0) == ((rd_T34 l1_1 x53_3).f0.f0) && (((rd_T34 l0_1 x46_2).f0.f1) == ((rd_T34 l1_1 x53_3).f0.f1))) && (((rd_T34 l0_1 x46_2).f1) == ((rd_T34 l1_1 x53_3).f1) && (((rd_T34 l0_1 x46_2).f2) == ((rd_T34 l1_1 x53_3).f2) && (((rd_T34 l0_1 x46_2).f3) == ((rd_T34 l1_1 x53_3).f3))))) = true := c50
              clear c50
              have H' := Aside0.mk H
              clear H
              have p449 : 0 ≤ (x53_3 : Int) := dA
              have q449 : x53_3 < (l1_1.length : Int) := dA
              obtain ⟨ad449, e449, hx449_0, hx449_1, hx449_2, hx449_3, hx449_4⟩ := at_T34 HR1_1.out x53_3 p449 q449
              cases e449
              replace hx449_0 := (HB.out.cell (World.block_lt_of_cell? w _ hx449_0)).trans hx449_0
              replace hx449_1 := (HB.out.cell (World.block_lt_of_cell? w _ hx449_1)).trans hx449_1
              replace hx449_2 := (HB.out.cell (World.block_lt_of_cell? w _ hx449_2)).trans hx449_2
              replace hx449_3 := (HB.out.cell (World.block_lt_of_cell? w _ hx449_3)).trans hx449_3
              replace hx449_4 := (HB.out.cell (World.block_lt_of_cell? w _ hx449_4)).trans hx449_4
              replace p449 := eq_true p449
              replace q449 := eq_true q449
              go_wp2_with (first | ((with_reducible refine gate_dst (N := 17) rfl ?_); refine bE (N := 17) (cs := #[.int .i64 0, .int .i64 0, .int .i64 0, .int .i64 0, .int .i64 0]) (t := 34) ?_; intro gb450 hg w51 hbox hb; have BK450 := Aside0.mk (hbox); have GW450 := gW hg HB; have GE450 := GW450; replace HB := tW HB hb; have NB441_450 := gL hg BK441; have NB450_441 := gG hg BK441; replace BK441 := tB BK441 hb; have NB442_450 := gL hg BK442; have NB450_442 := gG hg BK442; replace BK442 := tB BK442 hb; have NB448_450 := gL hg BK448; have NB450_448 := gG hg BK448; replace BK448 := tB BK448 hb; clear hb hbox hg; have hnb52 := NB450_441.out; have hnc52 := NB441_450.out; have hnb53 := NB450_442.out; have hnc53 := NB442_450.out; have hnb54 := NB450_448.out; have hnc54 := NB448_450.out; have hcz55_0 : w51.cell? ⟨gb450, 0, none⟩ = some (.int .i64 0) := bt BK450 0; have hcz55_1 : w51.cell? ⟨gb450, 1, none⟩ = some (.int .i64 0) := bt BK450 1; have hcz55_2 : w51.cell? ⟨gb450, 2, none⟩ = some (.int .i64 0) := bt BK450 2; have hcz55_3 : w51.cell? ⟨gb450, 3, none⟩ = some (.int .i64 0) := bt BK450 3; have hcz55_4 : w51.cell? ⟨gb450, 4, none⟩ = some (.int .i64 0) := bt BK450 4; have hfz55_0 := blk_frozen BK450.out 0; have hfz55_1 := blk_frozen BK450.out 1; have hfz55_2 := blk_frozen BK450.out 2; have hfz55_3 := blk_frozen BK450.out 3; have hfz55_4 := blk_frozen BK450.out 4; have hnb56 := NB448_441.out; have hnc56 := NB441_448.out; have hnb57 := NB448_442.out; have hnc57 := NB442_448.out; have hcz58_0 : w51.cell? ⟨gb448, 0, none⟩ = some (.int .i64 ((rd_T34 l0_1 x46_2).f0.f0)) := bt BK448 0; have hcz58_1 : w51.cell? ⟨gb448, 1, none⟩ = some (.int .i64 ((rd_T34 l0_1 x46_2).f0.f1)) := bt BK448 1; have hcz58_2 : w51.cell? ⟨gb448, 2, none⟩ = some (.int .i64 ((rd_T34 l0_1 x46_2).f1)) := bt BK448 2; have hcz58_3 : w51.cell? ⟨gb448, 3, none⟩ = some (.int .i64 ((rd_T34 l0_1 x46_2).f2)) := bt BK448 3; have hcz58_4 : w51.cell? ⟨gb448, 4, none⟩ = some (.int .i64 ((rd_T34 l0_1 x46_2).f3)) := bt BK448 4; have hfz58_0 := blk_frozen BK448.out 0; have hfz58_1 := blk_frozen BK448.out 1; have hfz58_2 := blk_frozen BK448.out 2; have hfz58_3 := blk_frozen BK448.out 3; have hfz58_4 := blk_frozen BK448.out 4))
              go_roundg k3
              case measure => have := HK1.out; have := HK2.out; have := HK3.out; omega
              case rel => exact ⟨(wrap64 (x8_3 + 1)), (wrap64 (x53_3 + 1)), aR, aR, H', ⟨by have := HK1.out; have := HK2.out; have := HK3.out; omega⟩, ⟨sB BK441⟩, ⟨sB BK442⟩, ⟨sB BK448⟩, ⟨sW HB⟩⟩
             rw [if_neg c50] at H
             have c50b0 : ((((rd_T34 l0_1 x46_2).f0.f0) == ((rd_T34 l1_1 x53_3).f0.f0) && (((rd_T34 l0_1 x46_2).f0.f1) == ((rd_T34 l1_1 x53_3).f0.f1))) && (((rd_T34 l0_1 x46_2).f1) == ((rd_T34 l1_1 x53_3).f1) && (((rd_T34 l0_1 x46_2).f2) == ((rd_T34 l1_1 x53_3).f2) && (((rd_T34 l0_1 x46_2).f3) == ((rd_T34 l1_1 x53_3).f3))))) = false := by simpa using c50
             clear c50
             have H' := Aside0.mk H
             clear H
             have p449 : 0 ≤ (x53_3 : Int) := dA
             have q449 : x53_3 < (l1_1.length : Int) := dA
             obtain ⟨ad449, e449, hx449_0, hx449_1, hx449_2, hx449_3, hx449_4⟩ := at_T34 HR1_1.out x53_3 p449 q449
             cases e449
             replace hx449_0 := (HB.out.cell (World.block_lt_of_cell? w _ hx449_0)).trans hx449_0
             replace hx449_1 := (HB.out.cell (World.block_lt_of_cell? w _ hx449_1)).trans hx449_1
             replace hx449_2 := (HB.out.cell (World.block_lt_of_cell? w _ hx449_2)).trans hx449_2
             replace hx449_3 := (HB.out.cell (World.block_lt_of_cell? w _ hx449_3)).trans hx449_3
             replace hx449_4 := (HB.out.cell (World.block_lt_of_cell? w _ hx449_4)).trans hx449_4
             replace p449 := eq_true p449
             replace q449 := eq_true q449
             go_wp2_with (first | ((with_reducible refine gate_dst (N := 17) rfl ?_); refine bE (N := 17) (cs := #[.int .i64 0, .int .i64 0, .int .i64 0, .int .i64 0, .int .i64 0]) (t := 34) ?_; intro gb450 hg w59 hbox hb; have BK450 := Aside0.mk (hbox); have GW450 := gW hg HB; have GE450 := GW450; replace HB := tW HB hb; have NB441_450 := gL hg BK441; have NB450_441 := gG hg BK441; replace BK441 := tB BK441 hb; have NB442_450 := gL hg BK442; have NB450_442 := gG hg BK442; replace BK442 := tB BK442 hb; have NB448_450 := gL hg BK448; have NB450_448 := gG hg BK448; replace BK448 := tB BK448 hb; clear hb hbox hg; have hnb60 := NB450_441.out; have hnc60 := NB441_450.out; have hnb61 := NB450_442.out; have hnc61 := NB442_450.out; have hnb62 := NB450_448.out; have hnc62 := NB448_450.out; have hcz63_0 : w59.cell? ⟨gb450, 0, none⟩ = some (.int .i64 0) := bt BK450 0; have hcz63_1 : w59.cell? ⟨gb450, 1, none⟩ = some (.int .i64 0) := bt BK450 1; have hcz63_2 : w59.cell? ⟨gb450, 2, none⟩ = some (.int .i64 0) := bt BK450 2; have hcz63_3 : w59.cell? ⟨gb450, 3, none⟩ = some (.int .i64 0) := bt BK450 3; have hcz63_4 : w59.cell? ⟨gb450, 4, none⟩ = some (.int .i64 0) := bt BK450 4; have hfz63_0 := blk_frozen BK450.out 0; have hfz63_1 := blk_frozen BK450.out 1; have hfz63_2 := blk_frozen BK450.out 2; have hfz63_3 := blk_frozen BK450.out 3; have hfz63_4 := blk_frozen BK450.out 4; have hnb64 := NB448_441.out; have hnc64 := NB441_448.out; have hnb65 := NB448_442.out; have hnc65 := NB442_448.out; have hcz66_0 : w59.cell? ⟨gb448, 0, none⟩ = some (.int .i64 ((rd_T34 l0_1 x46_2).f0.f0)) := bt BK448 0; have hcz66_1 : w59.cell? ⟨gb448, 1, none⟩ = some (.int .i64 ((rd_T34 l0_1 x46_2).f0.f1)) := bt BK448 1; have hcz66_2 : w59.cell? ⟨gb448, 2, none⟩ = some (.int .i64 ((rd_T34 l0_1 x46_2).f1)) := bt BK448 2; have hcz66_3 : w59.cell? ⟨gb448, 3, none⟩ = some (.int .i64 ((rd_T34 l0_1 x46_2).f2)) := bt BK448 3; have hcz66_4 : w59.cell? ⟨gb448, 4, none⟩ = some (.int .i64 ((rd_T34 l0_1 x46_2).f3)) := bt BK448 4; have hfz66_0 := blk_frozen BK448.out 0; have hfz66_1 := blk_frozen BK448.out 1; have hfz66_2 := blk_frozen BK448.out 2; have hfz66_3 := blk_frozen BK448.out 3; have hfz66_4 := blk_frozen BK448.out 4))
             go_roundg k3
             case measure => have := HK1.out; have := HK2.out; have := HK3.out; omega
             case rel => exact ⟨(x8_3), (wrap64 (x53_3 + 1)), aR, aR, H', ⟨by have := HK1.out; have := HK2.out; have := HK3.out; omega⟩, ⟨sB BK441⟩, ⟨sB BK442⟩, ⟨sB BK448⟩, ⟨sW HB⟩⟩
            rw [if_neg c49] at H
            exact absurd H (by simp)
           rw [if_neg c48] at H
           exact absurd H (by simp)
          rw [if_neg c47] at H
          have c47b0 : decide (x53_3 < (l1_1.length : Int)) = false := decide_eq_false c47
          clear c47
          have H' := Aside0.mk H
          clear H
          go_wp2
          go_roundg k3
          case measure => have := HK1.out; have := HK2.out; have := HK3.out; omega
          case rel => exact ⟨(x8_3), (wrap64 (x46_2 + 1)), aR, aR, H', ⟨by have := HK1.out; have := HK2.out; have := HK3.out; omega⟩, ⟨sB BK441⟩, ⟨sB BK442⟩, ⟨sW HB⟩⟩
       rw [if_neg c40] at H
       exact absurd H (by simp)
      rw [if_neg c39] at H
      exact absurd H (by simp)
     rw [if_neg c38] at H
     have c38b0 : decide (x46_2 < (l0_1.length : Int)) = false := decide_eq_false c38
     clear c38
     have H' := Aside0.mk H
     clear H
     have hnb67 := NB441_442.out
     have hnc67 := NB442_441.out
     have hcz68_0 : wr.cell? ⟨gb441, 0, none⟩ = some (.slice A0_0 l0_0.length c0_0) := bt BK441 0
     have hcz68_1 : wr.cell? ⟨gb441, 1, none⟩ = some (.slice A0_1 l0_1.length c0_1) := bt BK441 1
     have hcz68_2 : wr.cell? ⟨gb441, 2, none⟩ = some (.slice A0_2 l0_2.length c0_2) := bt BK441 2
     have hfz68_0 := blk_frozen BK441.out 0
     have hfz68_1 := blk_frozen BK441.out 1
     have hfz68_2 := blk_frozen BK441.out 2
     go_wp2
     go_loopg [9, 67] k2 (fun kq v9 v67 w' => ∃ (x9_3 : Int) (x67_3 : Int), v9 = .int .i64 x9_3 ∧ v67 = .int .i64 x67_3 ∧ Aside0 (slotmeshlaw12_counts.l4 kq x7_1 x8_2 x9_3 l0_2 (l0_2.length : Int) x67_3 l1_0 l1_1 l1_2 = some (r1, r2, r3)) ∧ Aside0 (kq ≤ k2) ∧ Aside0 (w'.heap[gb441]? = some (.cells #[(.slice A0_0 l0_0.length c0_0), (.slice A0_1 l0_1.length c0_1), (.slice A0_2 l0_2.length c0_2)] 26 (0, 0))) ∧ Aside0 (w'.heap[gb442]? = some (.cells #[(.slice A1_0 l1_0.length c1_0), (.slice A1_1 l1_1.length c1_1), (.slice A1_2 l1_2.length c1_2)] 26 (0, 0))) ∧ Aside0 (Below w.heap.size w w'))
     case atStart => exact ⟨(0), (0), aR, aR, H', ⟨Nat.le_refl _⟩, ⟨sB BK441⟩, ⟨sB BK442⟩, ⟨sW HB⟩⟩
     case round =>
      clear H'
      try clear c1
      try clear c2
      try clear p2
      try clear c3
      try clear c4
      try clear p4
      try clear q4
      try clear hx4
      try clear c5
      try clear c6
      try clear p6
      try clear c7
      try clear c7b0
      try clear c8
      try clear c8b0
      try clear c9
      try clear c9b0
      try clear c11
      try clear c12
      try clear c14
      try clear c16
      try clear c16b0
      try clear c17
      try clear c17b0
      try clear c18
      try clear c18b0
      try clear c19
      try clear c19b0
      try clear c21
      try clear c22
      try clear c23
      try clear c25
      try clear c26
      try clear c29
      try clear c30
      try clear c31
      try clear c33
      try clear c34
      try clear c36
      try clear c38
      try clear c38b0
      try clear c39
      try clear c39b0
      try clear c40
      try clear c40b0
      try clear c42
      try clear c43
      try clear p44
      try clear q44
      try clear hx44
      try clear c45
      try clear c47
      try clear c47b0
      try clear c48
      try clear c48b0
      try clear c49
      try clear c49b0
      try clear c50
      try clear c50b0
      try clear c52
      try clear c53
      try clear c54
      try clear c56
      try clear c57
      try clear c60
      try clear c61
      try clear c62
      try clear c64
      try clear p64
      try clear c65
      try clear c67
      try clear hcz13_0 hcz13_1 hcz13_2 hcz13_3 hfz13_0 hfz13_1 hfz13_2 hfz13_3
      try clear hcz15_0 hcz15_1 hcz15_2 hfz15_0 hfz15_1 hfz15_2
      try clear hcz24_0 hcz24_1 hcz24_2 hcz24_3 hfz24_0 hfz24_1 hfz24_2 hfz24_3
      try clear hcz27_0 hcz27_1 hcz27_2 hcz27_3 hfz27_0 hfz27_1 hfz27_2 hfz27_3
      try clear hcz32_0 hcz32_1 hcz32_2 hcz32_3 hfz32_0 hfz32_1 hfz32_2 hfz32_3
      try clear hcz35_0 hcz35_1 hcz35_2 hcz35_3 hfz35_0 hfz35_1 hfz35_2 hfz35_3
      try clear hcz37_0 hcz37_1 hcz37_2 hfz37_0 hfz37_1 hfz37_2
      try clear hcz44_0 hcz44_1 hcz44_2 hcz44_3 hcz44_4 hfz44_0 hfz44_1 hfz44_2 hfz44_3 hfz44_4
      try clear hcz46_0 hcz46_1 hcz46_2 hfz46_0 hfz46_1 hfz46_2
      try clear hcz55_0 hcz55_1 hcz55_2 hcz55_3 hcz55_4 hfz55_0 hfz55_1 hfz55_2 hfz55_3 hfz55_4
      try clear hcz58_0 hcz58_1 hcz58_2 hcz58_3 hcz58_4 hfz58_0 hfz58_1 hfz58_2 hfz58_3 hfz58_4
      try clear hcz63_0 hcz63_1 hcz63_2 hcz63_3 hcz63_4 hfz63_0 hfz63_1 hfz63_2 hfz63_3 hfz63_4
      try clear hcz66_0 hcz66_1 hcz66_2 hcz66_3 hcz66_4 hfz66_0 hfz66_1 hfz66_2 hfz66_3 hfz66_4
      try clear hcz68_0 hcz68_1 hcz68_2 hfz68_0 hfz68_1 hfz68_2
      try clear hcz6_0 hcz6_1 hcz6_2 hfz6_0 hfz6_1 hfz6_2
      try clear hx443_0
      try clear hx443_1
      try clear hx443_2
      try clear hx443_3
      try clear hx445_0
      try clear hx445_1
      try clear hx445_2
      try clear hx445_3
      try clear hx447_0
      try clear hx447_1
      try clear hx447_2
      try clear hx447_3
      try clear hx447_4
      try clear hx449_0
      try clear hx449_1
      try clear hx449_2
      try clear hx449_3
      try clear hx449_4
      try clear p2
      try clear p4
      try clear p44
      try clear p443
      try clear p445
      try clear p447
      try clear p449
      try clear p6
      try clear q4
      try clear q44
      try clear q443
      try clear q445
      try clear q447
      try clear q449
      obtain ⟨x9_3, x67_3, rfl, rfl, HA, HK3, BK441, BK442, HB⟩ := hrel
      cases gk with
      | zero => exact absurd HA.out (by simp [slotmeshlaw12_counts.l4])
      | succ k3 =>
       have H := HA.out
       clear HA
       simp only [slotmeshlaw12_counts.l4] at H
       by_cases c69 : x67_3 < (l0_2.length : Int)
       ·rw [if_pos c69] at H
        have c69b0 : decide (x67_3 < (l0_2.length : Int)) = true := decide_eq_true c69
        clear c69
        by_cases c70 : 0 ≤ x67_3
        ·rw [if_pos c70] at H
         have c70b0 : decide (0 ≤ x67_3) = true := decide_eq_true c70
         clear c70
         by_cases c71 : x67_3 < (l0_2.length : Int)
         ·rw [if_pos c71] at H
          have c71b0 : decide (x67_3 < (l0_2.length : Int)) = true := decide_eq_true c71
          clear c71
          have H' := Aside0.mk H
          clear H
          have p451 : 0 ≤ (x67_3 : Int) := dA
          have q451 : x67_3 < (l0_2.length : Int) := dA
          obtain ⟨ad451, e451, hx451_0, hx451_1, hx451_2⟩ := at_T51 HR0_2.out x67_3 p451 q451
          cases e451
          replace hx451_0 := (HB.out.cell (World.block_lt_of_cell? w _ hx451_0)).trans hx451_0
          replace hx451_1 := (HB.out.cell (World.block_lt_of_cell? w _ hx451_1)).trans hx451_1
          replace hx451_2 := (HB.out.cell (World.block_lt_of_cell? w _ hx451_2)).trans hx451_2
          replace p451 := eq_true p451
          replace q451 := eq_true q451
          go_wp2_with (first | ((with_reducible refine gate_dst (N := 19) rfl ?_); refine bE (N := 19) (cs := #[.int .i64 0, .int .i64 0, .int .i64 0]) (t := 51) ?_; intro gb452 hg w72 hbox hb; have BK452 := Aside0.mk (hbox); have GW452 := gW hg HB; have GE452 := GW452; replace HB := tW HB hb; have NB441_452 := gL hg BK441; have NB452_441 := gG hg BK441; replace BK441 := tB BK441 hb; have NB442_452 := gL hg BK442; have NB452_442 := gG hg BK442; replace BK442 := tB BK442 hb; clear hb hbox hg; have hnb73 := NB452_441.out; have hnc73 := NB441_452.out; have hnb74 := NB452_442.out; have hnc74 := NB442_452.out; have hcz75_0 : w72.cell? ⟨gb452, 0, none⟩ = some (.int .i64 0) := bt BK452 0; have hcz75_1 : w72.cell? ⟨gb452, 1, none⟩ = some (.int .i64 0) := bt BK452 1; have hcz75_2 : w72.cell? ⟨gb452, 2, none⟩ = some (.int .i64 0) := bt BK452 2; have hfz75_0 := blk_frozen BK452.out 0; have hfz75_1 := blk_frozen BK452.out 1; have hfz75_2 := blk_frozen BK452.out 2; have hnb76 := NB442_441.out; have hnc76 := NB441_442.out; have hcz77_0 : w72.cell? ⟨gb442, 0, none⟩ = some (.slice A1_0 l1_0.length c1_0) := bt BK442 0; have hcz77_1 : w72.cell? ⟨gb442, 1, none⟩ = some (.slice A1_1 l1_1.length c1_1) := bt BK442 1; have hcz77_2 : w72.cell? ⟨gb442, 2, none⟩ = some (.slice A1_2 l1_2.length c1_2) := bt BK442 2; have hfz77_0 := blk_frozen BK442.out 0; have hfz77_1 := blk_frozen BK442.out 1; have hfz77_2 := blk_frozen BK442.out 2))
          go_loopg [9, 74] k3 (fun kq v9 v74 w' => ∃ (x9_4 : Int) (x74_4 : Int), v9 = .int .i64 x9_4 ∧ v74 = .int .i64 x74_4 ∧ Aside0 (slotmeshlaw12_counts.l5 kq x7_1 x8_2 x9_4 l0_2 (l0_2.length : Int) x67_3 l1_2 (l1_2.length : Int) x74_4 l1_0 l1_1 l1_2 ((rd_T51 l0_2 x67_3).f0.f0) ((rd_T51 l0_2 x67_3).f0.f1) ((rd_T51 l0_2 x67_3).f1) = some (r1, r2, r3)) ∧ Aside0 (kq ≤ k3) ∧ Aside0 (w'.heap[gb441]? = some (.cells #[(.slice A0_0 l0_0.length c0_0), (.slice A0_1 l0_1.length c0_1), (.slice (some ad451) l0_2.length c0_2)] 26 (0, 0))) ∧ Aside0 (w'.heap[gb442]? = some (.cells #[(.slice A1_0 l1_0.length c1_0), (.slice A1_1 l1_1.length c1_1), (.slice A1_2 l1_2.length c1_2)] 26 (0, 0))) ∧ Aside0 (w'.heap[gb452]? = some (.cells #[.int .i64 ((rd_T51 l0_2 x67_3).f0.f0), .int .i64 ((rd_T51 l0_2 x67_3).f0.f1), .int .i64 ((rd_T51 l0_2 x67_3).f1)] 51 (0, 0))) ∧ Aside0 (Below w.heap.size w w'))
          case atStart => exact ⟨(x9_3), (0), aR, aR, H', ⟨Nat.le_refl _⟩, ⟨sB BK441⟩, ⟨sB BK442⟩, ⟨by (with_reducible repeat (first | refine blk_drewN ?_ _ | refine blk_drew ?_ | refine blk_alloc ?_ _)); refine blk_put (cs := #[.int .i64 ((rd_T51 l0_2 x67_3).f0.f0), .int .i64 ((rd_T51 l0_2 x67_3).f0.f1), .int .i64 0]) ?_ 2 _ rfl; (with_reducible repeat (first | refine blk_drewN ?_ _ | refine blk_drew ?_ | refine blk_alloc ?_ _)); refine blk_put (cs := #[.int .i64 ((rd_T51 l0_2 x67_3).f0.f0), .int .i64 0, .int .i64 0]) ?_ 1 _ rfl; (with_reducible repeat (first | refine blk_drewN ?_ _ | refine blk_drew ?_ | refine blk_alloc ?_ _)); refine blk_put (cs := #[.int .i64 0, .int .i64 0, .int .i64 0]) ?_ 0 _ rfl; (with_reducible repeat (first | refine blk_drewN ?_ _ | refine blk_drew ?_ | refine blk_alloc ?_ _)); exact BK452.out⟩, ⟨sW HB⟩⟩
          case round =>
           clear H'
           try clear c1
           try clear c2
           try clear p2
           try clear c3
           try clear c4
           try clear p4
           try clear q4
           try clear hx4
           try clear c5
           try clear c6
           try clear p6
           try clear c7
           try clear c7b0
           try clear c8
           try clear c8b0
           try clear c9
           try clear c9b0
           try clear c11
           try clear c12
           try clear c14
           try clear c16
           try clear c16b0
           try clear c17
           try clear c17b0
           try clear c18
           try clear c18b0
           try clear c19
           try clear c19b0
           try clear c21
           try clear c22
           try clear c23
           try clear c25
           try clear c26
           try clear c29
           try clear c30
           try clear c31
           try clear c33
           try clear c34
           try clear c36
           try clear c38
           try clear c38b0
           try clear c39
           try clear c39b0
           try clear c40
           try clear c40b0
           try clear c42
           try clear c43
           try clear p44
           try clear q44
           try clear hx44
           try clear c45
           try clear p45
           try clear q45
           try clear hx45
           try clear c47
           try clear c47b0
           try clear c48
           try clear c48b0
           try clear c49
           try clear c49b0
           try clear c50
           try clear c50b0
           try clear c52
           try clear c53
           try clear c54
           try clear c56
           try clear c57
           try clear c60
           try clear c61
           try clear c62
           try clear c64
           try clear p64
           try clear c65
           try clear c67
           try clear c69
           try clear c69b0
           try clear c70
           try clear c70b0
           try clear c71
           try clear c71b0
           try clear c73
           try clear c74
           try clear c76
           try clear hcz13_0 hcz13_1 hcz13_2 hcz13_3 hfz13_0 hfz13_1 hfz13_2 hfz13_3
           try clear hcz15_0 hcz15_1 hcz15_2 hfz15_0 hfz15_1 hfz15_2
           try clear hcz24_0 hcz24_1 hcz24_2 hcz24_3 hfz24_0 hfz24_1 hfz24_2 hfz24_3
           try clear hcz27_0 hcz27_1 hcz27_2 hcz27_3 hfz27_0 hfz27_1 hfz27_2 hfz27_3
           try clear hcz32_0 hcz32_1 hcz32_2 hcz32_3 hfz32_0 hfz32_1 hfz32_2 hfz32_3
           try clear hcz35_0 hcz35_1 hcz35_2 hcz35_3 hfz35_0 hfz35_1 hfz35_2 hfz35_3
           try clear hcz37_0 hcz37_1 hcz37_2 hfz37_0 hfz37_1 hfz37_2
           try clear hcz44_0 hcz44_1 hcz44_2 hcz44_3 hcz44_4 hfz44_0 hfz44_1 hfz44_2 hfz44_3 hfz44_4
           try clear hcz46_0 hcz46_1 hcz46_2 hfz46_0 hfz46_1 hfz46_2
           try clear hcz55_0 hcz55_1 hcz55_2 hcz55_3 hcz55_4 hfz55_0 hfz55_1 hfz55_2 hfz55_3 hfz55_4
           try clear hcz58_0 hcz58_1 hcz58_2 hcz58_3 hcz58_4 hfz58_0 hfz58_1 hfz58_2 hfz58_3 hfz58_4
           try clear hcz63_0 hcz63_1 hcz63_2 hcz63_3 hcz63_4 hfz63_0 hfz63_1 hfz63_2 hfz63_3 hfz63_4
           try clear hcz66_0 hcz66_1 hcz66_2 hcz66_3 hcz66_4 hfz66_0 hfz66_1 hfz66_2 hfz66_3 hfz66_4
           try clear hcz68_0 hcz68_1 hcz68_2 hfz68_0 hfz68_1 hfz68_2
           try clear hcz6_0 hcz6_1 hcz6_2 hfz6_0 hfz6_1 hfz6_2
           try clear hcz75_0 hcz75_1 hcz75_2 hfz75_0 hfz75_1 hfz75_2
           try clear hcz77_0 hcz77_1 hcz77_2 hfz77_0 hfz77_1 hfz77_2
           try clear hx443_0
           try clear hx443_1
           try clear hx443_2
           try clear hx443_3
           try clear hx445_0
           try clear hx445_1
           try clear hx445_2
           try clear hx445_3
           try clear hx447_0
           try clear hx447_1
           try clear hx447_2
           try clear hx447_3
           try clear hx447_4
           try clear hx449_0
           try clear hx449_1
           try clear hx449_2
           try clear hx449_3
           try clear hx449_4
           try clear hx451_0
           try clear hx451_1
           try clear hx451_2
           try clear p2
           try clear p4
           try clear p44
           try clear p443
           try clear p445
           try clear p447
           try clear p449
           try clear p451
           try clear p6
           try clear p64
           try clear q4
           try clear q44
           try clear q443
           try clear q445
           try clear q447
           try clear q449
           try clear q451
           obtain ⟨x9_4, x74_4, rfl, rfl, HA, HK4, BK441, BK442, BK452, HB⟩ := hrel
           cases gk with
           | zero => exact absurd HA.out (by simp [slotmeshlaw12_counts.l5])
           | succ k4 =>
            have H := HA.out
            clear HA
            simp only [slotmeshlaw12_counts.l5] at H
            by_cases c78 : x74_4 < (l1_2.length : Int)
            ·rw [if_pos c78] at H
             have c78b0 : decide (x74_4 < (l1_2.length : Int)) = true := decide_eq_true c78
             clear c78
             by_cases c79 : 0 ≤ x74_4
             ·rw [if_pos c79] at H
              have c79b0 : decide (0 ≤ x74_4) = true := decide_eq_true c79
              clear c79
              by_cases c80 : x74_4 < (l1_2.length : Int)
              ·rw [if_pos c80] at H
               have c80b0 : decide (x74_4 < (l1_2.length : Int)) = true := decide_eq_true c80
               clear c80
               by_cases c81 : ((((rd_T51 l0_2 x67_3).f0.f0) == ((rd_T51 l1_2 x74_4).f0.f0) && (((rd_T51 l0_2 x67_3).f0.f1) == ((rd_T51 l1_2 x74_4).f0.f1))) && (((rd_T51 l0_2 x67_3).f1) == ((rd_T51 l1_2 x74_4).f1))) = true
               ·rw [if_pos c81] at H
                have c81b0 : ((((rd_T51 l0_2 x67_3).f0.f0) == ((rd_T51 l1_2 x74_4).f0.f0) && (((rd_T51 l0_2 x67_3).f0.f1) == ((rd_T51 l1_2 x74_4).f0.f1))) && (((rd_T51 l0_2 x67_3).f1) == ((rd_T51 l1_2 x74_4).f1))) = true := c81
                clear c81
                have H' := Aside0.mk H
                clear H
                have p453 : 0 ≤ (x74_4 : Int) := dA
                have q453 : x74_4 < (l1_2.length : Int) := dA
                obtain ⟨ad453, e453, hx453_0, hx453_1, hx453_2⟩ := at_T51 HR1_2.out x74_4 p453 q453
                cases e453
                replace hx453_0 := (HB.out.cell (World.block_lt_of_cell? w _ hx453_0)).trans hx453_0
                replace hx453_1 := (HB.out.cell (World.block_lt_of_cell? w _ hx453_1)).trans hx453_1
                replace hx453_2 := (HB.out.cell (World.block_lt_of_cell? w _ hx453_2)).trans hx453_2
                replace p453 := eq_true p453
                replace q453 := eq_true q453
                go_wp2_with (first | ((with_reducible refine gate_dst (N := 21) rfl ?_); refine bE (N := 21) (cs := #[.int .i64 0, .int .i64 0, .int .i64 0]) (t := 51) ?_; intro gb454 hg w82 hbox hb; have BK454 := Aside0.mk (hbox); have GW454 := gW hg HB; have GE454 := GW454; replace HB := tW HB hb; have NB441_454 := gL hg BK441; have NB454_441 := gG hg BK441; replace BK441 := tB BK441 hb; have NB442_454 := gL hg BK442; have NB454_442 := gG hg BK442; replace BK442 := tB BK442 hb; have NB452_454 := gL hg BK452; have NB454_452 := gG hg BK452; replace BK452 := tB BK452 hb; clear hb hbox hg; have hnb83 := NB454_441.out; have hnc83 := NB441_454.out; have hnb84 := NB454_442.out; have hnc84 := NB442_454.out; have hnb85 := NB454_452.out; have hnc85 := NB452_454.out; have hcz86_0 : w82.cell? ⟨gb454, 0, none⟩ = some (.int .i64 0) := bt BK454 0; have hcz86_1 : w82.cell? ⟨gb454, 1, none⟩ = some (.int .i64 0) := bt BK454 1; have hcz86_2 : w82.cell? ⟨gb454, 2, none⟩ = some (.int .i64 0) := bt BK454 2; have hfz86_0 := blk_frozen BK454.out 0; have hfz86_1 := blk_frozen BK454.out 1; have hfz86_2 := blk_frozen BK454.out 2; have hnb87 := NB452_441.out; have hnc87 := NB441_452.out; have hnb88 := NB452_442.out; have hnc88 := NB442_452.out; have hcz89_0 : w82.cell? ⟨gb452, 0, none⟩ = some (.int .i64 ((rd_T51 l0_2 x67_3).f0.f0)) := bt BK452 0; have hcz89_1 : w82.cell? ⟨gb452, 1, none⟩ = some (.int .i64 ((rd_T51 l0_2 x67_3).f0.f1)) := bt BK452 1; have hcz89_2 : w82.cell? ⟨gb452, 2, none⟩ = some (.int .i64 ((rd_T51 l0_2 x67_3).f1)) := bt BK452 2; have hfz89_0 := blk_frozen BK452.out 0; have hfz89_1 := blk_frozen BK452.out 1; have hfz89_2 := blk_frozen BK452.out 2))
                go_roundg k4
                case measure => have := HK1.out; have := HK2.out; have := HK3.out; have := HK4.out; omega
                case rel => exact ⟨(wrap64 (x9_4 + 1)), (wrap64 (x74_4 + 1)), aR, aR, H', ⟨by have := HK1.out; have := HK2.out; have := HK3.out; have := HK4.out; omega⟩, ⟨sB BK441⟩, ⟨sB BK442⟩, ⟨sB BK452⟩, ⟨sW HB⟩⟩
               rw [if_neg c81] at H
               have c81b0 : ((((rd_T51 l0_2 x67_3).f0.f0) == ((rd_T51 l1_2 x74_4).f0.f0) && (((rd_T51 l0_2 x67_3).f0.f1) == ((rd_T51 l1_2 x74_4).f0.f1))) && (((rd_T51 l0_2 x67_3).f1) == ((rd_T51 l1_2 x74_4).f1))) = false := by simpa using c81
               clear c81
               have H' := Aside0.mk H
               clear H
               have p453 : 0 ≤ (x74_4 : Int) := dA
               have q453 : x74_4 < (l1_2.length : Int) := dA
               obtain ⟨ad453, e453, hx453_0, hx453_1, hx453_2⟩ := at_T51 HR1_2.out x74_4 p453 q453
               cases e453
               replace hx453_0 := (HB.out.cell (World.block_lt_of_cell? w _ hx453_0)).trans hx453_0
               replace hx453_1 := (HB.out.cell (World.block_lt_of_cell? w _ hx453_1)).trans hx453_1
               replace hx453_2 := (HB.out.cell (World.block_lt_of_cell? w _ hx453_2)).trans hx453_2
               replace p453 := eq_true p453
               replace q453 := eq_true q453
               go_wp2_with (first | ((with_reducible refine gate_dst (N := 21) rfl ?_); refine bE (N := 21) (cs := #[.int .i64 0, .int .i64 0, .int .i64 0]) (t := 51) ?_; intro gb454 hg w90 hbox hb; have BK454 := Aside0.mk (hbox); have GW454 := gW hg HB; have GE454 := GW454; replace HB := tW HB hb; have NB441_454 := gL hg BK441; have NB454_441 := gG hg BK441; replace BK441 := tB BK441 hb; have NB442_454 := gL hg BK442; have NB454_442 := gG hg BK442; replace BK442 := tB BK442 hb; have NB452_454 := gL hg BK452; have NB454_452 := gG hg BK452; replace BK452 := tB BK452 hb; clear hb hbox hg; have hnb91 := NB454_441.out; have hnc91 := NB441_454.out; have hnb92 := NB454_442.out; have hnc92 := NB442_454.out; have hnb93 := NB454_452.out; have hnc93 := NB452_454.out; have hcz94_0 : w90.cell? ⟨gb454, 0, none⟩ = some (.int .i64 0) := bt BK454 0; have hcz94_1 : w90.cell? ⟨gb454, 1, none⟩ = some (.int .i64 0) := bt BK454 1; have hcz94_2 : w90.cell? ⟨gb454, 2, none⟩ = some (.int .i64 0) := bt BK454 2; have hfz94_0 := blk_frozen BK454.out 0; have hfz94_1 := blk_frozen BK454.out 1; have hfz94_2 := blk_frozen BK454.out 2; have hnb95 := NB452_441.out; have hnc95 := NB441_452.out; have hnb96 := NB452_442.out; have hnc96 := NB442_452.out; have hcz97_0 : w90.cell? ⟨gb452, 0, none⟩ = some (.int .i64 ((rd_T51 l0_2 x67_3).f0.f0)) := bt BK452 0; have hcz97_1 : w90.cell? ⟨gb452, 1, none⟩ = some (.int .i64 ((rd_T51 l0_2 x67_3).f0.f1)) := bt BK452 1; have hcz97_2 : w90.cell? ⟨gb452, 2, none⟩ = some (.int .i64 ((rd_T51 l0_2 x67_3).f1)) := bt BK452 2; have hfz97_0 := blk_frozen BK452.out 0; have hfz97_1 := blk_frozen BK452.out 1; have hfz97_2 := blk_frozen BK452.out 2))
               go_roundg k4
               case measure => have := HK1.out; have := HK2.out; have := HK3.out; have := HK4.out; omega
               case rel => exact ⟨(x9_4), (wrap64 (x74_4 + 1)), aR, aR, H', ⟨by have := HK1.out; have := HK2.out; have := HK3.out; have := HK4.out; omega⟩, ⟨sB BK441⟩, ⟨sB BK442⟩, ⟨sB BK452⟩, ⟨sW HB⟩⟩
              rw [if_neg c80] at H
              exact absurd H (by simp)
             rw [if_neg c79] at H
             exact absurd H (by simp)
            rw [if_neg c78] at H
            have c78b0 : decide (x74_4 < (l1_2.length : Int)) = false := decide_eq_false c78
            clear c78
            have H' := Aside0.mk H
            clear H
            go_wp2
            go_roundg k4
            case measure => have := HK1.out; have := HK2.out; have := HK3.out; have := HK4.out; omega
            case rel => exact ⟨(x9_4), (wrap64 (x67_3 + 1)), aR, aR, H', ⟨by have := HK1.out; have := HK2.out; have := HK3.out; have := HK4.out; omega⟩, ⟨sB BK441⟩, ⟨sB BK442⟩, ⟨sW HB⟩⟩
         rw [if_neg c71] at H
         exact absurd H (by simp)
        rw [if_neg c70] at H
        exact absurd H (by simp)
       rw [if_neg c69] at H
       have c69b0 : decide (x67_3 < (l0_2.length : Int)) = false := decide_eq_false c69
       clear c69
       simp only [Option.some.injEq, Prod.mk.injEq] at H
       obtain ⟨rfl, rfl, rfl⟩ := H
       go_wp2
       go_ret3
       exact ⟨aE, sW HB⟩

end Go.Proofs.Ytbpfbdljcdcgnaa.Px
