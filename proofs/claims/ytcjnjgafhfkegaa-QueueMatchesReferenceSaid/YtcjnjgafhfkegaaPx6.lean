/- Walks of functions of this seat, written by a program of this workplace out of the translation. -/
import Derived.Test.YtcjnjgafhfkegaaPx0
import Derived.Test.YtcjnjgafhfkegaaPx1
import Derived.Test.YtcjnjgafhfkegaaPx4
import Derived.Test.YtcjnjgafhfkegaaPx5
namespace Go.Proofs.Ytcjnjgafhfkegaa.Px
open Go.RowKit Go.Proofs.YtcjnjgafhfkegaaW.PrintWords Go.Proofs.YtcjnjgafhfkegaaW.PrintLast Go.Proofs.YtcjnjgafhfkegaaW.PrintMore
attribute [local go_sem] max2_int min2_int max_two min_two max_three min_three max_four min_four   -- for this text's walks alone
set_option linter.unusedVariables false
set_option linter.unusedSimpArgs false

attribute [local go_sem high] eqA26
/-! ### slotmeshlaw27_head: function 9 -/
def slotmeshlaw27_head.f  : Option (Bool) := some true
def slotmeshlaw27_head.T2 : Bool × List (List Nat × List Nat) := (true, [([], []), ([], []), ([0, 1, 1], [0, 1]), ([2], [2]), ([3], [3]), ([3], [3]), ([], []), ([6, 4, 2, 0, 1, 2, 3, 4, 6], [4, 6]), ([5, 7, 0, 1, 2, 3, 4, 5, 6, 7], [5])])
def slotmeshlaw27_head.B2 : List Nat := [0, 0, 3, 7, 15, 15, 0, 95, 255]
theorem slotmeshlaw27_head.tab2 : rtab .any (opsOf Try.f9 2) = slotmeshlaw27_head.T2 := by kernel_rfl
theorem slotmeshlaw27_head.bits2 : waitsOk slotmeshlaw27_head.T2.2 slotmeshlaw27_head.B2 = true := by kernel_rfl
def slotmeshlaw27_head.T6 : Bool × List (List Nat × List Nat) := (true, [([], []), ([], []), ([0, 1, 1], [0, 1]), ([2], [2]), ([3], [3]), ([3], [3]), ([], []), ([6, 4, 2, 0, 1, 2, 3, 4, 6], [4, 6]), ([5, 7, 0, 1, 2, 3, 4, 5, 6, 7], [5])])
def slotmeshlaw27_head.B6 : List Nat := [0, 0, 3, 7, 15, 15, 0, 95, 255]
theorem slotmeshlaw27_head.tab6 : rtab .any (opsOf Try.f9 6) = slotmeshlaw27_head.T6 := by kernel_rfl
theorem slotmeshlaw27_head.bits6 : waitsOk slotmeshlaw27_head.T6.2 slotmeshlaw27_head.B6 = true := by kernel_rfl
def slotmeshlaw27_head.T7 : Bool × List (List Nat × List Nat) := (true, [([], []), ([], []), ([0, 1, 1], [0, 1]), ([2], [2]), ([3], [3]), ([3], [3]), ([], []), ([6, 4, 2, 0, 1, 2, 3, 4, 6], [4, 6]), ([5, 7, 0, 1, 2, 3, 4, 5, 6, 7], [5])])
def slotmeshlaw27_head.B7 : List Nat := [0, 0, 3, 7, 15, 15, 0, 95, 255]
theorem slotmeshlaw27_head.tab7 : rtab .any (opsOf Try.f9 7) = slotmeshlaw27_head.T7 := by kernel_rfl
theorem slotmeshlaw27_head.bits7 : waitsOk slotmeshlaw27_head.T7.2 slotmeshlaw27_head.B7 = true := by kernel_rfl
def slotmeshlaw27_head.T9 : Bool × List (List Nat × List Nat) := (true, [([], []), ([0], [0]), ([1], [1]), ([2], [2]), ([3, 2], [2, 3]), ([2, 4], [2, 4]), ([5, 2], [5]), ([6], [6]), ([7, 6], [6, 7]), ([6, 8], [6, 8]), ([9, 6], [9]), ([10], [10]), ([11, 10], [10, 11]), ([10, 12], [10, 12]), ([13, 10], [13]), ([14], [14]), ([14, 15], [14, 15]), ([16, 14], [16]), ([17], [17]), ([17, 18], [17, 18]), ([19, 17], [19]), ([20], [20]), ([21, 20], [20, 21]), ([20, 22], [20, 22]), ([23, 20], [23]), ([24], [24]), ([24, 24], [24]), ([25, 26, 24], [24, 25, 26]), ([24, 27], [24, 27]), ([28, 26], [28]), ([29], [29]), ([29, 29], [29]), ([30, 31, 29], [29, 30, 31]), ([29, 32], [29, 32]), ([33, 31], [33]), ([34], [34]), ([35, 34, 34], [34, 35]), ([36, 34], [34, 36]), ([34, 37], [34, 37]), ([38, 36, 0, 1, 2, 3, 4, 5, 6, 7, 8, 9, 10, 11, 12, 13, 14, 15, 16, 17, 18, 19, 20, 21, 22, 23, 24, 25, 26, 27, 28, 29, 30, 31, 32, 33, 34, 35, 36, 37, 38], [38])])
def slotmeshlaw27_head.B9 : List Nat := [0, 1, 3, 7, 15, 31, 63, 127, 255, 511, 1023, 2047, 4095, 8191, 16383, 32767, 65535, 131071, 262143, 524287, 1048575, 2097151, 4194303, 8388607, 16777215, 33554431, 33554431, 134217727, 268435455, 536870911, 1073741823, 1073741823, 4294967295, 8589934591, 17179869183, 34359738367, 68719476735, 137438953471, 274877906943, 549755813887]
theorem slotmeshlaw27_head.tab9 : rtab .any (opsOf Try.f9 9) = slotmeshlaw27_head.T9 := by kernel_rfl
theorem slotmeshlaw27_head.bits9 : waitsOk slotmeshlaw27_head.T9.2 slotmeshlaw27_head.B9 = true := by kernel_rfl
set_option maxHeartbeats 8000000 in
set_option maxRecDepth 100000 in
theorem slotmeshlaw27_head.calls  (r : Bool) (w : World) (h : slotmeshlaw27_head.f  = some r) :
  Calls Try.prog 9 #[] w fun e w' => e = .returned (.bool r) ∧ Below w.heap.size w w' := by
 have hu24 := Try.underlying24
 have hu26 := Try.underlying26
 have HB := Aside0.mk (Below.refl w.heap.size w)
 have H : (some true) = some r := h
 clear h
 obtain ⟨t163, Nt163⟩ : ∃ t_ : Int, Aside0 (t_ = 2) := ⟨_, ⟨rfl⟩⟩
 obtain ⟨t164, Nt164⟩ : ∃ t_ : Int, Aside0 (t_ = 1) := ⟨_, ⟨rfl⟩⟩
 obtain ⟨t165, Nt165⟩ : ∃ t_ : Int, Aside0 (t_ = 0) := ⟨_, ⟨rfl⟩⟩
 obtain ⟨t166, Nt166⟩ : ∃ t_ : Int, Aside0 (t_ = 0) := ⟨_, ⟨rfl⟩⟩
 obtain ⟨t167, Nt167⟩ : ∃ t_ : Int, Aside0 (t_ = 0) := ⟨_, ⟨rfl⟩⟩
 have A1 : Aside0 (slotmeshlaw27_reading.f 2 1 = some (t163, t164, t165, t166, t167)) := ⟨by (try simp only [Nt163.out, Nt164.out, Nt165.out, Nt166.out, Nt167.out]); kernel_rfl⟩
 obtain ⟨t168, Nt168⟩ : ∃ t_ : List (S26), Aside0 (t_ = [⟨2, 1, 0, 0, 0⟩]) := ⟨_, ⟨rfl⟩⟩
 obtain ⟨t171, Nt171⟩ : ∃ t_ : Int, Aside0 (t_ = 0) := ⟨_, ⟨rfl⟩⟩
 have A2 : Aside0 (queue_Put.f 64 ([] : List (S26)) t163 t164 t165 t166 t167 2 = some (t168, t171)) := ⟨by (try simp only [Nt163.out, Nt164.out, Nt165.out, Nt166.out, Nt167.out, Nt168.out, Nt171.out]); kernel_rfl⟩
 obtain ⟨t173, Nt173⟩ : ∃ t_ : Int, Aside0 (t_ = 2) := ⟨_, ⟨rfl⟩⟩
 obtain ⟨t174, Nt174⟩ : ∃ t_ : Int, Aside0 (t_ = 2) := ⟨_, ⟨rfl⟩⟩
 obtain ⟨t175, Nt175⟩ : ∃ t_ : Int, Aside0 (t_ = 0) := ⟨_, ⟨rfl⟩⟩
 obtain ⟨t176, Nt176⟩ : ∃ t_ : Int, Aside0 (t_ = 0) := ⟨_, ⟨rfl⟩⟩
 obtain ⟨t177, Nt177⟩ : ∃ t_ : Int, Aside0 (t_ = 0) := ⟨_, ⟨rfl⟩⟩
 have A3 : Aside0 (slotmeshlaw27_reading.f 2 2 = some (t173, t174, t175, t176, t177)) := ⟨by (try simp only [Nt173.out, Nt174.out, Nt175.out, Nt176.out, Nt177.out]); kernel_rfl⟩
 obtain ⟨t178, Nt178⟩ : ∃ t_ : List (S26), Aside0 (t_ = [⟨2, 1, 0, 0, 0⟩, ⟨2, 2, 0, 0, 0⟩]) := ⟨_, ⟨rfl⟩⟩
 obtain ⟨t181, Nt181⟩ : ∃ t_ : Int, Aside0 (t_ = 0) := ⟨_, ⟨rfl⟩⟩
 have A4 : Aside0 (queue_Put.f 64 t168 t173 t174 t175 t176 t177 2 = some (t178, t181)) := ⟨by (try simp only [Nt168.out, Nt173.out, Nt174.out, Nt175.out, Nt176.out, Nt177.out, Nt178.out, Nt181.out]); kernel_rfl⟩
 obtain ⟨t183, Nt183⟩ : ∃ t_ : Int, Aside0 (t_ = 2) := ⟨_, ⟨rfl⟩⟩
 obtain ⟨t184, Nt184⟩ : ∃ t_ : Int, Aside0 (t_ = 1) := ⟨_, ⟨rfl⟩⟩
 obtain ⟨t185, Nt185⟩ : ∃ t_ : Int, Aside0 (t_ = 0) := ⟨_, ⟨rfl⟩⟩
 obtain ⟨t186, Nt186⟩ : ∃ t_ : Int, Aside0 (t_ = 0) := ⟨_, ⟨rfl⟩⟩
 obtain ⟨t187, Nt187⟩ : ∃ t_ : Int, Aside0 (t_ = 0) := ⟨_, ⟨rfl⟩⟩
 obtain ⟨t188, Nt188⟩ : ∃ t_ : Bool, Aside0 (t_ = true) := ⟨_, ⟨rfl⟩⟩
 have A5 : Aside0 (queue_Head.f 64 t178 = some (t183, t184, t185, t186, t187, t188)) := ⟨by (try simp only [Nt178.out, Nt183.out, Nt184.out, Nt185.out, Nt186.out, Nt187.out, Nt188.out]); kernel_rfl⟩
 obtain ⟨t190, Nt190⟩ : ∃ t_ : List (S26), Aside0 (t_ = [⟨2, 2, 0, 0, 0⟩]) := ⟨_, ⟨rfl⟩⟩
 have A6 : Aside0 (queue_Drop.f 64 t178 2 1 = some t190) := ⟨by (try simp only [Nt178.out, Nt190.out]); kernel_rfl⟩
 obtain ⟨t194, Nt194⟩ : ∃ t_ : Int, Aside0 (t_ = 2) := ⟨_, ⟨rfl⟩⟩
 obtain ⟨t195, Nt195⟩ : ∃ t_ : Int, Aside0 (t_ = 2) := ⟨_, ⟨rfl⟩⟩
 obtain ⟨t196, Nt196⟩ : ∃ t_ : Int, Aside0 (t_ = 0) := ⟨_, ⟨rfl⟩⟩
 obtain ⟨t197, Nt197⟩ : ∃ t_ : Int, Aside0 (t_ = 0) := ⟨_, ⟨rfl⟩⟩
 obtain ⟨t198, Nt198⟩ : ∃ t_ : Int, Aside0 (t_ = 0) := ⟨_, ⟨rfl⟩⟩
 obtain ⟨t199, Nt199⟩ : ∃ t_ : Bool, Aside0 (t_ = true) := ⟨_, ⟨rfl⟩⟩
 have A7 : Aside0 (queue_Head.f 64 t190 = some (t194, t195, t196, t197, t198, t199)) := ⟨by (try simp only [Nt190.out, Nt194.out, Nt195.out, Nt196.out, Nt197.out, Nt198.out, Nt199.out]); kernel_rfl⟩
 obtain ⟨t201, Nt201⟩ : ∃ t_ : Int, Aside0 (t_ = 2) := ⟨_, ⟨rfl⟩⟩
 obtain ⟨t202, Nt202⟩ : ∃ t_ : Int, Aside0 (t_ = 2) := ⟨_, ⟨rfl⟩⟩
 obtain ⟨t203, Nt203⟩ : ∃ t_ : Int, Aside0 (t_ = 0) := ⟨_, ⟨rfl⟩⟩
 obtain ⟨t204, Nt204⟩ : ∃ t_ : Int, Aside0 (t_ = 0) := ⟨_, ⟨rfl⟩⟩
 obtain ⟨t205, Nt205⟩ : ∃ t_ : Int, Aside0 (t_ = 0) := ⟨_, ⟨rfl⟩⟩
 have A8 : Aside0 (slotmeshlaw27_reading.f 2 2 = some (t201, t202, t203, t204, t205)) := ⟨by (try simp only [Nt201.out, Nt202.out, Nt203.out, Nt204.out, Nt205.out]); kernel_rfl⟩
 obtain ⟨t206, Nt206⟩ : ∃ t_ : List (S26), Aside0 (t_ = []) := ⟨_, ⟨rfl⟩⟩
 obtain ⟨t209, Nt209⟩ : ∃ t_ : Int, Aside0 (t_ = 5) := ⟨_, ⟨rfl⟩⟩
 have A9 : Aside0 (queue_Put.f 64 t190 t201 t202 t203 t204 t205 1 = some (t206, t209)) := ⟨by (try simp only [Nt190.out, Nt201.out, Nt202.out, Nt203.out, Nt204.out, Nt205.out, Nt206.out, Nt209.out]); kernel_rfl⟩
 obtain ⟨t211, Nt211⟩ : ∃ t_ : Int, Aside0 (t_ = 2) := ⟨_, ⟨rfl⟩⟩
 obtain ⟨t212, Nt212⟩ : ∃ t_ : Int, Aside0 (t_ = 0) := ⟨_, ⟨rfl⟩⟩
 obtain ⟨t213, Nt213⟩ : ∃ t_ : Int, Aside0 (t_ = 0) := ⟨_, ⟨rfl⟩⟩
 obtain ⟨t214, Nt214⟩ : ∃ t_ : Int, Aside0 (t_ = 0) := ⟨_, ⟨rfl⟩⟩
 obtain ⟨t215, Nt215⟩ : ∃ t_ : Int, Aside0 (t_ = 0) := ⟨_, ⟨rfl⟩⟩
 have A10 : Aside0 (slotmeshlaw27_reading.f 2 0 = some (t211, t212, t213, t214, t215)) := ⟨by (try simp only [Nt211.out, Nt212.out, Nt213.out, Nt214.out, Nt215.out]); kernel_rfl⟩
 obtain ⟨t216, Nt216⟩ : ∃ t_ : List (S26), Aside0 (t_ = []) := ⟨_, ⟨rfl⟩⟩
 obtain ⟨t219, Nt219⟩ : ∃ t_ : Int, Aside0 (t_ = 1) := ⟨_, ⟨rfl⟩⟩
 have A11 : Aside0 (queue_Put.f 64 t190 t211 t212 t213 t214 t215 1 = some (t216, t219)) := ⟨by (try simp only [Nt190.out, Nt211.out, Nt212.out, Nt213.out, Nt214.out, Nt215.out, Nt216.out, Nt219.out]); kernel_rfl⟩
 obtain ⟨t221, Nt221⟩ : ∃ t_ : List (S26), Aside0 (t_ = []) := ⟨_, ⟨rfl⟩⟩
 have A12 : Aside0 (queue_Drop.f 64 t190 2 2 = some t221) := ⟨by (try simp only [Nt190.out, Nt221.out]); kernel_rfl⟩
 obtain ⟨t224, Nt224⟩ : ∃ t_ : Int, Aside0 (t_ = 0) := ⟨_, ⟨rfl⟩⟩
 obtain ⟨t225, Nt225⟩ : ∃ t_ : Int, Aside0 (t_ = 0) := ⟨_, ⟨rfl⟩⟩
 obtain ⟨t226, Nt226⟩ : ∃ t_ : Int, Aside0 (t_ = 0) := ⟨_, ⟨rfl⟩⟩
 obtain ⟨t227, Nt227⟩ : ∃ t_ : Int, Aside0 (t_ = 0) := ⟨_, ⟨rfl⟩⟩
 obtain ⟨t228, Nt228⟩ : ∃ t_ : Int, Aside0 (t_ = 0) := ⟨_, ⟨rfl⟩⟩
 obtain ⟨t229, Nt229⟩ : ∃ t_ : Bool, Aside0 (t_ = false) := ⟨_, ⟨rfl⟩⟩
 have A13 : Aside0 (queue_Head.f 64 t221 = some (t224, t225, t226, t227, t228, t229)) := ⟨by (try simp only [Nt221.out, Nt224.out, Nt225.out, Nt226.out, Nt227.out, Nt228.out, Nt229.out]); kernel_rfl⟩
 have c14 : t171 = 0 := by (try simp only [Nt171.out]) <;> decide
 have c14b0 : (t171 == 0) = true := beq_iff_eq.mpr c14
 have c14b1 : (t171 != 0) = false := bne_eq_false_iff_eq.mpr c14
 clear c14
 have c15 : t181 = 0 := by (try simp only [Nt181.out]) <;> decide
 have c15b0 : (t181 == 0) = true := beq_iff_eq.mpr c15
 have c15b1 : (t181 != 0) = false := bne_eq_false_iff_eq.mpr c15
 clear c15
 have c16 : t209 = 5 := by (try simp only [Nt209.out]) <;> decide
 have c16b0 : (t209 == 5) = true := beq_iff_eq.mpr c16
 have c16b1 : (t209 != 5) = false := bne_eq_false_iff_eq.mpr c16
 clear c16
 have c17 : t219 = 1 := by (try simp only [Nt219.out]) <;> decide
 have c17b0 : (t219 == 1) = true := beq_iff_eq.mpr c17
 have c17b1 : (t219 != 1) = false := bne_eq_false_iff_eq.mpr c17
 clear c17
 obtain rfl : t188 = true := by (try simp only [Nt188.out]) <;> decide
 obtain rfl : t199 = true := by (try simp only [Nt199.out]) <;> decide
 obtain rfl : t229 = false := by (try simp only [Nt229.out]) <;> decide
 obtain ⟨t231, Nt231⟩ : ∃ t_ : Int, Aside0 (t_ = 2) := ⟨_, ⟨rfl⟩⟩
 obtain ⟨t232, Nt232⟩ : ∃ t_ : Int, Aside0 (t_ = 1) := ⟨_, ⟨rfl⟩⟩
 obtain ⟨t233, Nt233⟩ : ∃ t_ : Int, Aside0 (t_ = 0) := ⟨_, ⟨rfl⟩⟩
 obtain ⟨t234, Nt234⟩ : ∃ t_ : Int, Aside0 (t_ = 0) := ⟨_, ⟨rfl⟩⟩
 obtain ⟨t235, Nt235⟩ : ∃ t_ : Int, Aside0 (t_ = 0) := ⟨_, ⟨rfl⟩⟩
 have A18 : Aside0 (slotmeshlaw27_reading.f 2 1 = some (t231, t232, t233, t234, t235)) := ⟨by (try simp only [Nt231.out, Nt232.out, Nt233.out, Nt234.out, Nt235.out]); kernel_rfl⟩
 have c19 : (t183 == t231 && (t184 == t232 && (t185 == t233 && (t186 == t234 && (t187 == t235))))) = true := by (try simp only [Nt183.out, Nt184.out, Nt185.out, Nt186.out, Nt187.out, Nt231.out, Nt232.out, Nt233.out, Nt234.out, Nt235.out]) <;> decide
 have c19b0 : (t183 == t231 && (t184 == t232 && (t185 == t233 && (t186 == t234 && (t187 == t235))))) = true := c19
 (try (have c19b1 : decide (t183 = t231 && (t184 == t232 && (t185 == t233 && (t186 == t234 && (t187 == t235))))) = true := by simpa using c19))
 (try (have c19b2 : (t183 == t231 && (t184 == t232 && (t185 == t233 && (t186 == t234 && (t187 == t235))))) = true := by simpa using c19))
 clear c19
 obtain ⟨t236, Nt236⟩ : ∃ t_ : Int, Aside0 (t_ = 2) := ⟨_, ⟨rfl⟩⟩
 obtain ⟨t237, Nt237⟩ : ∃ t_ : Int, Aside0 (t_ = 2) := ⟨_, ⟨rfl⟩⟩
 obtain ⟨t238, Nt238⟩ : ∃ t_ : Int, Aside0 (t_ = 0) := ⟨_, ⟨rfl⟩⟩
 obtain ⟨t239, Nt239⟩ : ∃ t_ : Int, Aside0 (t_ = 0) := ⟨_, ⟨rfl⟩⟩
 obtain ⟨t240, Nt240⟩ : ∃ t_ : Int, Aside0 (t_ = 0) := ⟨_, ⟨rfl⟩⟩
 have A20 : Aside0 (slotmeshlaw27_reading.f 2 2 = some (t236, t237, t238, t239, t240)) := ⟨by (try simp only [Nt236.out, Nt237.out, Nt238.out, Nt239.out, Nt240.out]); kernel_rfl⟩
 have c21 : (t194 == t236 && (t195 == t237 && (t196 == t238 && (t197 == t239 && (t198 == t240))))) = true := by (try simp only [Nt194.out, Nt195.out, Nt196.out, Nt197.out, Nt198.out, Nt236.out, Nt237.out, Nt238.out, Nt239.out, Nt240.out]) <;> decide
 have c21b0 : (t194 == t236 && (t195 == t237 && (t196 == t238 && (t197 == t239 && (t198 == t240))))) = true := c21
 (try (have c21b1 : decide (t194 = t236 && (t195 == t237 && (t196 == t238 && (t197 == t239 && (t198 == t240))))) = true := by simpa using c21))
 (try (have c21b2 : (t194 == t236 && (t195 == t237 && (t196 == t238 && (t197 == t239 && (t198 == t240))))) = true := by simpa using c21))
 clear c21
 obtain ⟨t241, Nt241⟩ : ∃ t_ : Bool, Aside0 (t_ = false) := ⟨_, ⟨rfl⟩⟩
 have A22 : Aside0 (queue_Full.f 64 t178 = some t241) := ⟨by (try simp only [Nt178.out, Nt241.out]); kernel_rfl⟩
 obtain rfl := Option.some.inj H
 go_enter Try.func9, Try.ntmps9
 try go_wp2_with (first | ((with_reducible refine gate_callee (f := 23) rfl ?_); refine goesL_ (some 18) rfl rfl Try.func23 (by kernel_rfl) rfl #[.int .i64 2, .int .i64 1] rfl (by (try simp only [List.map_toArray, List.map_cons, List.map_nil]); first | done | rfl | (simp only [List.length_drop, List.length_take]; rfl)) ?_; (with_reducible refine (slotmeshlaw27_reading.calls 2 1 t163 t164 t165 t166 t167 _ A1.out).mono ?_); rintro e w23 ⟨rfl, hb⟩; refine ⟨_, rfl, ?_⟩; have n0_ := Aside0.mk (below_step (by with_reducible exact HB.out) hb); clear HB; have HB := n0_; clear n0_; (try clear hb); (try clear hb2); (try clear hk); (try clear hi)) | ((with_reducible refine gate_callee (f := 11) rfl ?_); refine goesL_ (some 19) rfl rfl Try.func11 (by kernel_rfl) rfl #[.agg #[.slice none 0 0], .agg #[.int .i64 t163, .int .i64 t164, .int .i64 t165, .int .i64 t166, .int .i64 t167], .int .i64 2] rfl (by (try simp only [List.map_toArray, List.map_cons, List.map_nil]); first | done | rfl | (simp only [List.length_drop, List.length_take]; rfl)) ?_; (refine (queue_Put.calls 64 _ _ ([] : List (S26)) t163 t164 t165 t166 t167 2 t168 t171 _ ?side1 ?side2 A2.out).mono ?_); (case side1 => exact Kd.C_nil _ _); (case side2 => exact Nat.le_refl _); rintro e w24 ⟨v169, rfl, ho0, hb⟩; refine ⟨_, rfl, ?_⟩; have n0_ := Aside0.mk (Kd.R_lower ho0 (below_size (by with_reducible exact HB.out))); have n1_ := Aside0.mk (below_step (by with_reducible exact HB.out) hb); clear HB; have HO170 := n0_; have HB := n1_; clear n0_ n1_; (try clear hb); (try clear hb2); (try clear hk); (try clear hi); (try clear ho0)) | ((with_reducible refine gate_dst (N := 1) rfl ?_); refine box_event ?hg (N := 1) ?hd (cs := #[.slice none 0 0]) (t := 24) ?hr ?_; (case hd => rfl); (case hg => rfl); (case hr => first | (go_simp; done) | (go_simp; rfl)); intro gb172 hg w25 hbox hb; have n0_ := Aside0.mk (Kd.R_below (by with_reducible exact HO170.out) hb); have n1_ := Aside0.mk (below_step (by with_reducible exact HB.out) hb); have n2_ := Aside0.mk (hbox); have n3_ := Aside0.mk ((by rw [hg]; exact (below_size (by with_reducible exact HB.out)) : w.heap.size ≤ gb172)); have n4_ := Aside0.mk ((by rw [hg]; exact (below_size (by with_reducible exact HB.out)) : w.heap.size ≤ gb172)); clear HO170; clear HB; have HO170 := n0_; have HB := n1_; have BK172 := n2_; have GW172 := n3_; have GE172 := n4_; clear n0_ n1_ n2_ n3_ n4_; clear hb hbox hg; obtain ⟨Ao26, co26, eo26⟩ := Kd.R_slice HO170.out; subst eo26; have hcz27_0 : w25.cell? ⟨gb172, 0, none⟩ = some (.slice none 0 0) := (blk_cell BK172.out 0).trans rfl; have hfz27_0 := blk_frozen BK172.out 0))
 have n0_ : Aside0 (Kd.R k26 26 (w25.setCell ⟨gb172, 0, none⟩ (.slice Ao26 t168.length co26)) w.heap.size (fun _ => True) (.slice Ao26 t168.length co26) t168) := ⟨by (with_reducible repeat (first | apply Kd.R_alloc | apply Kd.R_drewN | apply Kd.R_drew)); exact Kd.R_mono (Kd.R_far (p := ⟨gb172, 0, none⟩) (Kd.R_types HO170.out BK172.out (by decide)) (fun _ hk => hk.2) (.slice Ao26 t168.length co26)) (fun _ hk => trivial)⟩
 have n1_ : Aside0 ((w25.setCell ⟨gb172, 0, none⟩ (.slice Ao26 t168.length co26)).heap[gb172]? = some (.cells #[.slice Ao26 t168.length co26] 24 (0, 0))) := ⟨by (with_reducible repeat (first | refine blk_drewN ?_ _ | refine blk_drew ?_ | refine blk_alloc ?_ _)); refine blk_put (cs := #[.slice none 0 0]) ?_ 0 _ rfl; (with_reducible repeat (first | refine blk_drewN ?_ _ | refine blk_drew ?_ | refine blk_alloc ?_ _)); exact BK172.out⟩
 have n2_ : Aside0 (Below w.heap.size w (w25.setCell ⟨gb172, 0, none⟩ (.slice Ao26 t168.length co26))) := ⟨by repeat (first | (with_reducible first | exact HB.out | apply below_alloc | apply pw_below_drewN | apply below_drew1 | refine below_set ?_ GE172.out) | exact HB.out)⟩
 (try clear HO170)
 (try clear BK172)
 (try clear HB)
 generalize (w25.setCell ⟨gb172, 0, none⟩ (.slice Ao26 t168.length co26)) = w28 at n0_ n1_ n2_ ⊢
 have HO170 := n0_
 have BK172 := n1_
 have HB := n2_
 clear n0_ n1_ n2_
 have n0_ := Aside0.mk (Kd.R_drew HO170.out)
 have n1_ := Aside0.mk (blk_drew BK172.out)
 have n2_ := Aside0.mk (below_drew1 HB.out)
 clear HO170
 clear BK172
 clear HB
 have HO170 := n0_
 have BK172 := n1_
 have HB := n2_
 clear n0_ n1_ n2_
 refine start_ (n := 9) (S := fun w' => w'.cell? ⟨gb172, 0, none⟩ = some (.slice Ao26 t168.length co26)) (ds := []) #[false, false, false, false, false, false, false, false, false] (by kernel_rfl) rfl rfl ((blk_cell BK172.out 0).trans rfl) (fun hHeld => ?_); refine with_tabW slotmeshlaw27_head.tab2 slotmeshlaw27_head.bits2 (fun HT_ HW_ => ?_)
 generalize w28.drew = w29 at HO170 BK172 HB hHeld ⊢
 refine take_ (i := 0) (N := some 23) (v := ?_) (a' := ?_) #[true, false, false, false, false, false, false, false, false] rfl rfl (take_ofW HT_.out HW_.out (by kernel_rfl)) (fun _ _ _ h => h) (Or.inl ⟨by rfl, ?_⟩) hHeld ?_ ?_
 rotate_left
 ·intro w' s0
  go_simp
  with_reducible rfl
 rotate_left
 ·simp only [Act.put, List.setIfInBounds_toArray, List.set_cons_zero, List.set_cons_succ, i64_w, i32_w]
  rfl
 refine join_ (σ := Value × Nat) 2 #[true, true, true, true, true, true, true, false, false] (fun s_ => [(24, .agg #[.int .i64 t173, .int .i64 t174, .int .i64 t175, .int .i64 t176, .int .i64 t177]), (25, .tuple #[.agg #[s_.1], .int .i64 t181]), (3, .pointer (some ⟨s_.2, 0, none⟩)), (22, .tuple #[.agg #[s_.1], .int .i64 t181]), (26, .agg #[s_.1]), (27, .int .i64 t181)]) (fun s_ w' => (w'.cell? ⟨gb172, 0, none⟩ = some (.slice Ao26 t168.length co26)) ∧ (Kd.R k26 26 w' w.heap.size (fun k_ => some k_ ≠ (s_.1 : Value).ownBlock) (.slice Ao26 t168.length co26) t168) ∧ (Kd.R k26 26 w' w.heap.size (fun k_ => some k_ ≠ (.slice Ao26 t168.length co26 : Value).ownBlock) s_.1 t178) ∧ (w'.heap[gb172]? = some (.cells #[.slice Ao26 t168.length co26] 24 (0, 0))) ∧ (w'.heap[s_.2]? = some (.cells #[.slice none 0 0] 24 (0, 0))) ∧ (w.heap.size ≤ s_.2) ∧ (w.heap.size ≤ s_.2) ∧ (gb172 ≠ s_.2) ∧ (s_.2 ≠ gb172) ∧ (Below w.heap.size w w')) ?_ ?_
 rotate_left
 ·intro hCont
  refine two_ (i := 1) (j := 6) (Ni := some 24) (Nj := some 3) #[true, true, false, false, false, false, false, false, false] #[true, false, false, false, false, false, true, false, false] rfl rfl rfl rfl (two_of HT_.out (by kernel_rfl)) (by decide) (by decide) (fun K hK => ?_) (fun K hK => ?_)
  ·skip
   refine goes_ Try.func23 (by kernel_rfl) rfl #[.int .i64 2, .int .i64 2] (by rfl) rfl rfl (by (try simp only [List.map_toArray, List.map_cons, List.map_nil]); first | done | rfl | (simp only [List.length_drop, List.length_take]; rfl)) ?_
   with_reducible refine (slotmeshlaw27_reading.calls 2 2 t173 t174 t175 t176 t177 _ A3.out).mono ?_
   rintro e w30 ⟨rfl, hb⟩
   refine ⟨_, rfl, ?_⟩
   have n0_ := Aside0.mk (Kd.R_below (by with_reducible exact HO170.out) hb)
   have n1_ := Aside0.mk (blk_below (g := gb172) (o := .cells #[.slice Ao26 t168.length co26] 24 (0, 0)) (by with_reducible exact BK172.out) hb)
   have n2_ := Aside0.mk (below_step (by with_reducible exact HB.out) hb)
   clear HO170
   clear BK172
   clear HB
   have HO170 := n0_
   have BK172 := n1_
   have HB := n2_
   clear n0_ n1_ n2_
   (try clear hb)
   (try clear hb2)
   (try clear hk)
   (try clear hi)
   refine hK.out _ _ ((blk_cell BK172.out 0).trans rfl) (fun hHeld => ?_)
   clear hK K
   refine norm_ (a' := ?_) ?_ ?_
   rotate_left
   ·show Act.put _ (some 24) _ = _
    simp only [Act.put, List.setIfInBounds_toArray, List.set_cons_zero, List.set_cons_succ, i64_w, i32_w]
    rfl
   refine two_ (i := 2) (j := 6) (Ni := some 25) (Nj := some 3) #[true, true, true, false, false, false, false, false, false] #[true, true, false, false, false, false, true, false, false] rfl rfl rfl rfl (two_of HT_.out (by kernel_rfl)) (by decide) (by decide) (fun K hK => ?_) (fun K hK => ?_)
   ·skip
    refine goes_ Try.func11 (by kernel_rfl) rfl #[.agg #[.slice Ao26 t168.length co26], .agg #[.int .i64 t173, .int .i64 t174, .int .i64 t175, .int .i64 t176, .int .i64 t177], .int .i64 2] (by rfl) rfl rfl (by (try simp only [List.map_toArray, List.map_cons, List.map_nil]); first | done | rfl | (simp only [List.length_drop, List.length_take]; rfl)) ?_
    with_reducible refine (queue_Put.calls 64 _ _ t168 t173 t174 t175 t176 t177 2 t178 t181 _ ?side1 ?side2 A4.out).mono ?_
    (case side1 => repeat (first | exact (Kd.R_reads' HO170.out).2.2 | (with_reducible refine Kd.C_alloc ?_ _) | (with_reducible refine Kd.C_drewN ?_ _) | (with_reducible refine Kd.C_drew ?_)))
    (case side2 => exact (Kd.R_reads' HO170.out).2.1)
    rintro e w31 ⟨v179, rfl, ho0, hb⟩
    refine ⟨_, rfl, ?_⟩
    have n0_ := Aside0.mk (Kd.R_elder' (by with_reducible exact HO170.out) (Kd.R_base ho0) hb)
    have n1_ := Aside0.mk (Kd.R_lower (Kd.R_new' ho0 (Kd.R_lt (by with_reducible exact HO170.out))) (below_size (by with_reducible exact HB.out)))
    have n2_ := Aside0.mk (blk_below (g := gb172) (o := .cells #[.slice Ao26 t168.length co26] 24 (0, 0)) (by with_reducible exact BK172.out) hb)
    have n3_ := Aside0.mk (below_step (by with_reducible exact HB.out) hb)
    clear HO170
    clear BK172
    clear HB
    have HO170 := n0_
    have HO180 := n1_
    have BK172 := n2_
    have HB := n3_
    clear n0_ n1_ n2_ n3_
    (try clear hb)
    (try clear hb2)
    (try clear hk)
    (try clear hi)
    (try clear ho0)
    refine hK.out _ _ ((blk_cell BK172.out 0).trans rfl) (fun hHeld => ?_)
    clear hK K
    refine norm_ (a' := ?_) ?_ ?_
    rotate_left
    ·show Act.put _ (some 25) _ = _
     simp only [Act.put, List.setIfInBounds_toArray, List.set_cons_zero, List.set_cons_succ, i64_w, i32_w]
     rfl
    refine pure_ (i := 3) (N := some 22) (v := ?_) (a' := ?_) #[true, true, true, true, false, false, false, false, false] rfl rfl (any_of HT_.out (by kernel_rfl)) (fun _ _ _ h => h) (Or.inl ⟨by rfl, ?_⟩) ?_ ?_
    rotate_left
    ·intro w'
     go_simp
     with_reducible rfl
    rotate_left
    ·simp only [Act.put, List.setIfInBounds_toArray, List.set_cons_zero, List.set_cons_succ, i64_w, i32_w]
     rfl
    refine pure_ (i := 4) (N := some 26) (v := ?_) (a' := ?_) #[true, true, true, true, true, false, false, false, false] rfl rfl (any_of HT_.out (by kernel_rfl)) (fun _ _ _ h => h) (Or.inl ⟨by rfl, ?_⟩) ?_ ?_
    rotate_left
    ·intro w'
     go_simp
     with_reducible rfl
    rotate_left
    ·simp only [Act.put, List.setIfInBounds_toArray, List.set_cons_zero, List.set_cons_succ, i64_w, i32_w]
     rfl
    refine pure_ (i := 5) (N := some 27) (v := ?_) (a' := ?_) #[true, true, true, true, true, true, false, false, false] rfl rfl (any_of HT_.out (by kernel_rfl)) (fun _ _ _ h => h) (Or.inl ⟨by rfl, ?_⟩) ?_ ?_
    rotate_left
    ·intro w'
     go_simp
     with_reducible rfl
    rotate_left
    ·simp only [Act.put, List.setIfInBounds_toArray, List.set_cons_zero, List.set_cons_succ, i64_w, i32_w]
     rfl
    refine one_ (i := 6) (N := some 3) #[true, true, true, true, true, true, true, false, false] rfl rfl (one_of HT_.out (by kernel_rfl)) (by decide) (fun K hK => ?_)
    refine box_step ?hg (N := 3) ?hd (cs := #[.slice none 0 0]) (t := 24) ?hr ?_; (case hd => rfl); (case hg => rfl); (case hr => first | (go_simp; done) | (go_simp; rfl))
    intro gb182 hg w32 hbox hb
    have n0_ := Aside0.mk (Kd.R_below (by with_reducible exact HO170.out) hb)
    have n1_ := Aside0.mk (Kd.R_below (by with_reducible exact HO180.out) hb)
    have n2_ := Aside0.mk (blk_below (g := gb172) (o := .cells #[.slice Ao26 t168.length co26] 24 (0, 0)) (by with_reducible exact BK172.out) hb)
    have n3_ := Aside0.mk (below_step (by with_reducible exact HB.out) hb)
    have n4_ := Aside0.mk (hbox)
    have n5_ := Aside0.mk ((by rw [hg]; exact (below_size (by with_reducible exact HB.out)) : w.heap.size ≤ gb182))
    have n6_ := Aside0.mk ((by rw [hg]; exact (below_size (by with_reducible exact HB.out)) : w.heap.size ≤ gb182))
    have n7_ := Aside0.mk ((by rw [hg]; exact Nat.ne_of_lt (blk_lt (g := gb172) (o := .cells #[.slice Ao26 t168.length co26] 24 (0, 0)) (by with_reducible exact BK172.out)) : gb172 ≠ gb182))
    have n8_ := Aside0.mk ((by rw [hg]; exact Nat.ne_of_gt (blk_lt (g := gb172) (o := .cells #[.slice Ao26 t168.length co26] 24 (0, 0)) (by with_reducible exact BK172.out)) : gb182 ≠ gb172))
    clear HO170
    clear HO180
    clear BK172
    clear HB
    have HO170 := n0_
    have HO180 := n1_
    have BK172 := n2_
    have HB := n3_
    have BK182 := n4_
    have GW182 := n5_
    have GE182 := n6_
    have NB172_182 := n7_
    have NB182_172 := n8_
    clear n0_ n1_ n2_ n3_ n4_ n5_ n6_ n7_ n8_
    clear hb hbox hg
    refine hK.out _ _ ((blk_cell BK172.out 0).trans rfl) (fun hHeld => ?_)
    clear hK K
    refine norm_ (a' := ?_) ?_ ?_
    rotate_left
    ·show Act.put _ (some 3) _ = _
     simp only [Act.put, List.setIfInBounds_toArray, List.set_cons_zero, List.set_cons_succ, i64_w, i32_w]
     rfl
    exact norm_ (by simp only [putAll, Act.put, List.setIfInBounds_toArray, List.set_cons_zero, List.set_cons_succ]) (hCont (v179, gb182) _ ⟨hHeld, (by (with_reducible repeat (first | apply Kd.R_alloc | apply Kd.R_drewN | apply Kd.R_drew)); exact Kd.R_mono HO170.out (fun _ hk => hk.2)), (by (with_reducible repeat (first | apply Kd.R_alloc | apply Kd.R_drewN | apply Kd.R_drew)); exact Kd.R_mono HO180.out (fun _ hk => hk.2)), (by with_reducible exact BK172.out), (by with_reducible exact BK182.out), GW182.out, GE182.out, NB172_182.out, NB182_172.out, (by with_reducible exact HB.out)⟩)
   ·skip
    refine box_step ?hg (N := 3) ?hd (cs := #[.slice none 0 0]) (t := 24) ?hr ?_; (case hd => rfl); (case hg => rfl); (case hr => first | (go_simp; done) | (go_simp; rfl))
    intro gb182 hg w31 hbox hb
    have n0_ := Aside0.mk (Kd.R_below (by with_reducible exact HO170.out) hb)
    have n1_ := Aside0.mk (blk_below (g := gb172) (o := .cells #[.slice Ao26 t168.length co26] 24 (0, 0)) (by with_reducible exact BK172.out) hb)
    have n2_ := Aside0.mk (below_step (by with_reducible exact HB.out) hb)
    have n3_ := Aside0.mk (hbox)
    have n4_ := Aside0.mk ((by rw [hg]; exact (below_size (by with_reducible exact HB.out)) : w.heap.size ≤ gb182))
    have n5_ := Aside0.mk ((by rw [hg]; exact (below_size (by with_reducible exact HB.out)) : w.heap.size ≤ gb182))
    have n6_ := Aside0.mk ((by rw [hg]; exact Nat.ne_of_lt (blk_lt (g := gb172) (o := .cells #[.slice Ao26 t168.length co26] 24 (0, 0)) (by with_reducible exact BK172.out)) : gb172 ≠ gb182))
    have n7_ := Aside0.mk ((by rw [hg]; exact Nat.ne_of_gt (blk_lt (g := gb172) (o := .cells #[.slice Ao26 t168.length co26] 24 (0, 0)) (by with_reducible exact BK172.out)) : gb182 ≠ gb172))
    clear HO170
    clear BK172
    clear HB
    have HO170 := n0_
    have BK172 := n1_
    have HB := n2_
    have BK182 := n3_
    have GW182 := n4_
    have GE182 := n5_
    have NB172_182 := n6_
    have NB182_172 := n7_
    clear n0_ n1_ n2_ n3_ n4_ n5_ n6_ n7_
    clear hb hbox hg
    refine hK.out _ _ ((blk_cell BK172.out 0).trans rfl) (fun hHeld => ?_)
    clear hK K
    refine norm_ (a' := ?_) ?_ ?_
    rotate_left
    ·show Act.put _ (some 3) _ = _
     simp only [Act.put, List.setIfInBounds_toArray, List.set_cons_zero, List.set_cons_succ, i64_w, i32_w]
     rfl
    refine one_ (i := 2) (N := some 25) #[true, true, true, false, false, false, true, false, false] rfl rfl (one_of HT_.out (by kernel_rfl)) (by decide) (fun K hK => ?_)
    refine goes_ Try.func11 (by kernel_rfl) rfl #[.agg #[.slice Ao26 t168.length co26], .agg #[.int .i64 t173, .int .i64 t174, .int .i64 t175, .int .i64 t176, .int .i64 t177], .int .i64 2] (by rfl) rfl rfl (by (try simp only [List.map_toArray, List.map_cons, List.map_nil]); first | done | rfl | (simp only [List.length_drop, List.length_take]; rfl)) ?_
    with_reducible refine (queue_Put.calls 64 _ _ t168 t173 t174 t175 t176 t177 2 t178 t181 _ ?side1 ?side2 A4.out).mono ?_
    (case side1 => repeat (first | exact (Kd.R_reads' HO170.out).2.2 | (with_reducible refine Kd.C_alloc ?_ _) | (with_reducible refine Kd.C_drewN ?_ _) | (with_reducible refine Kd.C_drew ?_)))
    (case side2 => exact (Kd.R_reads' HO170.out).2.1)
    rintro e w32 ⟨v179, rfl, ho0, hb⟩
    refine ⟨_, rfl, ?_⟩
    have n0_ := Aside0.mk (Kd.R_elder' (by with_reducible exact HO170.out) (Kd.R_base ho0) hb)
    have n1_ := Aside0.mk (Kd.R_lower (Kd.R_new' ho0 (Kd.R_lt (by with_reducible exact HO170.out))) (below_size (by with_reducible exact HB.out)))
    have n2_ := Aside0.mk (blk_below (g := gb172) (o := .cells #[.slice Ao26 t168.length co26] 24 (0, 0)) (by with_reducible exact BK172.out) hb)
    have n3_ := Aside0.mk (blk_below (g := gb182) (o := .cells #[.slice none 0 0] 24 (0, 0)) (by with_reducible exact BK182.out) hb)
    have n4_ := Aside0.mk (below_step (by with_reducible exact HB.out) hb)
    clear HO170
    clear BK172
    clear BK182
    clear HB
    have HO170 := n0_
    have HO180 := n1_
    have BK172 := n2_
    have BK182 := n3_
    have HB := n4_
    clear n0_ n1_ n2_ n3_ n4_
    (try clear hb)
    (try clear hb2)
    (try clear hk)
    (try clear hi)
    (try clear ho0)
    refine hK.out _ _ ((blk_cell BK172.out 0).trans rfl) (fun hHeld => ?_)
    clear hK K
    refine norm_ (a' := ?_) ?_ ?_
    rotate_left
    ·show Act.put _ (some 25) _ = _
     simp only [Act.put, List.setIfInBounds_toArray, List.set_cons_zero, List.set_cons_succ, i64_w, i32_w]
     rfl
    refine pure_ (i := 3) (N := some 22) (v := ?_) (a' := ?_) #[true, true, true, true, false, false, true, false, false] rfl rfl (any_of HT_.out (by kernel_rfl)) (fun _ _ _ h => h) (Or.inl ⟨by rfl, ?_⟩) ?_ ?_
    rotate_left
    ·intro w'
     go_simp
     with_reducible rfl
    rotate_left
    ·simp only [Act.put, List.setIfInBounds_toArray, List.set_cons_zero, List.set_cons_succ, i64_w, i32_w]
     rfl
    refine pure_ (i := 4) (N := some 26) (v := ?_) (a' := ?_) #[true, true, true, true, true, false, true, false, false] rfl rfl (any_of HT_.out (by kernel_rfl)) (fun _ _ _ h => h) (Or.inl ⟨by rfl, ?_⟩) ?_ ?_
    rotate_left
    ·intro w'
     go_simp
     with_reducible rfl
    rotate_left
    ·simp only [Act.put, List.setIfInBounds_toArray, List.set_cons_zero, List.set_cons_succ, i64_w, i32_w]
     rfl
    refine pure_ (i := 5) (N := some 27) (v := ?_) (a' := ?_) #[true, true, true, true, true, true, true, false, false] rfl rfl (any_of HT_.out (by kernel_rfl)) (fun _ _ _ h => h) (Or.inl ⟨by rfl, ?_⟩) ?_ ?_
    rotate_left
    ·intro w'
     go_simp
     with_reducible rfl
    rotate_left
    ·simp only [Act.put, List.setIfInBounds_toArray, List.set_cons_zero, List.set_cons_succ, i64_w, i32_w]
     rfl
    exact norm_ (by simp only [putAll, Act.put, List.setIfInBounds_toArray, List.set_cons_zero, List.set_cons_succ]) (hCont (v179, gb182) _ ⟨hHeld, (by (with_reducible repeat (first | apply Kd.R_alloc | apply Kd.R_drewN | apply Kd.R_drew)); exact Kd.R_mono HO170.out (fun _ hk => hk.2)), (by (with_reducible repeat (first | apply Kd.R_alloc | apply Kd.R_drewN | apply Kd.R_drew)); exact Kd.R_mono HO180.out (fun _ hk => hk.2)), (by with_reducible exact BK172.out), (by with_reducible exact BK182.out), GW182.out, GE182.out, NB172_182.out, NB182_172.out, (by with_reducible exact HB.out)⟩)
  ·skip
   refine box_step ?hg (N := 3) ?hd (cs := #[.slice none 0 0]) (t := 24) ?hr ?_; (case hd => rfl); (case hg => rfl); (case hr => first | (go_simp; done) | (go_simp; rfl))
   intro gb182 hg w30 hbox hb
   have n0_ := Aside0.mk (Kd.R_below (by with_reducible exact HO170.out) hb)
   have n1_ := Aside0.mk (blk_below (g := gb172) (o := .cells #[.slice Ao26 t168.length co26] 24 (0, 0)) (by with_reducible exact BK172.out) hb)
   have n2_ := Aside0.mk (below_step (by with_reducible exact HB.out) hb)
   have n3_ := Aside0.mk (hbox)
   have n4_ := Aside0.mk ((by rw [hg]; exact (below_size (by with_reducible exact HB.out)) : w.heap.size ≤ gb182))
   have n5_ := Aside0.mk ((by rw [hg]; exact (below_size (by with_reducible exact HB.out)) : w.heap.size ≤ gb182))
   have n6_ := Aside0.mk ((by rw [hg]; exact Nat.ne_of_lt (blk_lt (g := gb172) (o := .cells #[.slice Ao26 t168.length co26] 24 (0, 0)) (by with_reducible exact BK172.out)) : gb172 ≠ gb182))
   have n7_ := Aside0.mk ((by rw [hg]; exact Nat.ne_of_gt (blk_lt (g := gb172) (o := .cells #[.slice Ao26 t168.length co26] 24 (0, 0)) (by (with_reducible repeat (first | refine blk_drewN ?_ _ | refine blk_drew ?_ | refine blk_alloc ?_ _)); exact BK172.out)) : gb182 ≠ gb172))
   clear HO170
   clear BK172
   clear HB
   have HO170 := n0_
   have BK172 := n1_
   have HB := n2_
   have BK182 := n3_
   have GW182 := n4_
   have GE182 := n5_
   have NB172_182 := n6_
   have NB182_172 := n7_
   clear n0_ n1_ n2_ n3_ n4_ n5_ n6_ n7_
   clear hb hbox hg
   refine hK.out _ _ ((blk_cell BK172.out 0).trans rfl) (fun hHeld => ?_)
   clear hK K
   refine norm_ (a' := ?_) ?_ ?_
   rotate_left
   ·show Act.put _ (some 3) _ = _
    simp only [Act.put, List.setIfInBounds_toArray, List.set_cons_zero, List.set_cons_succ, i64_w, i32_w]
    rfl
   refine one_ (i := 1) (N := some 24) #[true, true, false, false, false, false, true, false, false] rfl rfl (one_of HT_.out (by kernel_rfl)) (by decide) (fun K hK => ?_)
   refine goes_ Try.func23 (by kernel_rfl) rfl #[.int .i64 2, .int .i64 2] (by rfl) rfl rfl (by (try simp only [List.map_toArray, List.map_cons, List.map_nil]); first | done | rfl | (simp only [List.length_drop, List.length_take]; rfl)) ?_
   with_reducible refine (slotmeshlaw27_reading.calls 2 2 t173 t174 t175 t176 t177 _ A3.out).mono ?_
   rintro e w31 ⟨rfl, hb⟩
   refine ⟨_, rfl, ?_⟩
   have n0_ := Aside0.mk (Kd.R_below (by (with_reducible repeat (first | apply Kd.R_alloc | apply Kd.R_drewN | apply Kd.R_drew)); exact HO170.out) hb)
   have n1_ := Aside0.mk (blk_below (g := gb172) (o := .cells #[.slice Ao26 t168.length co26] 24 (0, 0)) (by (with_reducible repeat (first | refine blk_drewN ?_ _ | refine blk_drew ?_ | refine blk_alloc ?_ _)); exact BK172.out) hb)
   have n2_ := Aside0.mk (blk_below (g := gb182) (o := .cells #[.slice none 0 0] 24 (0, 0)) (by (with_reducible repeat (first | refine blk_drewN ?_ _ | refine blk_drew ?_ | refine blk_alloc ?_ _)); exact BK182.out) hb)
   have n3_ := Aside0.mk (below_step (by repeat (first | (with_reducible first | exact HB.out | apply below_alloc | apply pw_below_drewN | apply below_drew1 | refine below_set ?_ GE172.out | refine below_set ?_ GE182.out) | exact HB.out)) hb)
   clear HO170
   clear BK172
   clear BK182
   clear HB
   have HO170 := n0_
   have BK172 := n1_
   have BK182 := n2_
   have HB := n3_
   clear n0_ n1_ n2_ n3_
   (try clear hb)
   (try clear hb2)
   (try clear hk)
   (try clear hi)
   refine hK.out _ _ ((blk_cell BK172.out 0).trans rfl) (fun hHeld => ?_)
   clear hK K
   refine norm_ (a' := ?_) ?_ ?_
   rotate_left
   ·show Act.put _ (some 24) _ = _
    simp only [Act.put, List.setIfInBounds_toArray, List.set_cons_zero, List.set_cons_succ, i64_w, i32_w]
    rfl
   refine one_ (i := 2) (N := some 25) #[true, true, true, false, false, false, true, false, false] rfl rfl (one_of HT_.out (by kernel_rfl)) (by decide) (fun K hK => ?_)
   refine goes_ Try.func11 (by kernel_rfl) rfl #[.agg #[.slice Ao26 t168.length co26], .agg #[.int .i64 t173, .int .i64 t174, .int .i64 t175, .int .i64 t176, .int .i64 t177], .int .i64 2] (by rfl) rfl rfl (by (try simp only [List.map_toArray, List.map_cons, List.map_nil]); first | done | rfl | (simp only [List.length_drop, List.length_take]; rfl)) ?_
   with_reducible refine (queue_Put.calls 64 _ _ t168 t173 t174 t175 t176 t177 2 t178 t181 _ ?side1 ?side2 A4.out).mono ?_
   (case side1 => repeat (first | exact (Kd.R_reads' HO170.out).2.2 | (with_reducible refine Kd.C_alloc ?_ _) | (with_reducible refine Kd.C_drewN ?_ _) | (with_reducible refine Kd.C_drew ?_)))
   (case side2 => exact (Kd.R_reads' HO170.out).2.1)
   rintro e w32 ⟨v179, rfl, ho0, hb⟩
   refine ⟨_, rfl, ?_⟩
   have n0_ := Aside0.mk (Kd.R_elder' (by (with_reducible repeat (first | apply Kd.R_alloc | apply Kd.R_drewN | apply Kd.R_drew)); exact HO170.out) (Kd.R_base ho0) hb)
   have n1_ := Aside0.mk (Kd.R_lower (Kd.R_new' ho0 (Kd.R_lt (by (with_reducible repeat (first | apply Kd.R_alloc | apply Kd.R_drewN | apply Kd.R_drew)); exact HO170.out))) (below_size (by repeat (first | (with_reducible first | exact HB.out | apply below_alloc | apply pw_below_drewN | apply below_drew1 | refine below_set ?_ GE172.out | refine below_set ?_ GE182.out) | exact HB.out))))
   have n2_ := Aside0.mk (blk_below (g := gb172) (o := .cells #[.slice Ao26 t168.length co26] 24 (0, 0)) (by (with_reducible repeat (first | refine blk_drewN ?_ _ | refine blk_drew ?_ | refine blk_alloc ?_ _)); exact BK172.out) hb)
   have n3_ := Aside0.mk (blk_below (g := gb182) (o := .cells #[.slice none 0 0] 24 (0, 0)) (by (with_reducible repeat (first | refine blk_drewN ?_ _ | refine blk_drew ?_ | refine blk_alloc ?_ _)); exact BK182.out) hb)
   have n4_ := Aside0.mk (below_step (by repeat (first | (with_reducible first | exact HB.out | apply below_alloc | apply pw_below_drewN | apply below_drew1 | refine below_set ?_ GE172.out | refine below_set ?_ GE182.out) | exact HB.out)) hb)
   clear HO170
   clear BK172
   clear BK182
   clear HB
   have HO170 := n0_
   have HO180 := n1_
   have BK172 := n2_
   have BK182 := n3_
   have HB := n4_
   clear n0_ n1_ n2_ n3_ n4_
   (try clear hb)
   (try clear hb2)
   (try clear hk)
   (try clear hi)
   (try clear ho0)
   refine hK.out _ _ ((blk_cell BK172.out 0).trans rfl) (fun hHeld => ?_)
   clear hK K
   refine norm_ (a' := ?_) ?_ ?_
   rotate_left
   ·show Act.put _ (some 25) _ = _
    simp only [Act.put, List.setIfInBounds_toArray, List.set_cons_zero, List.set_cons_succ, i64_w, i32_w]
    rfl
   refine pure_ (i := 3) (N := some 22) (v := ?_) (a' := ?_) #[true, true, true, true, false, false, true, false, false] rfl rfl (any_of HT_.out (by kernel_rfl)) (fun _ _ _ h => h) (Or.inl ⟨by rfl, ?_⟩) ?_ ?_
   rotate_left
   ·intro w'
    go_simp
    with_reducible rfl
   rotate_left
   ·simp only [Act.put, List.setIfInBounds_toArray, List.set_cons_zero, List.set_cons_succ, i64_w, i32_w]
    rfl
   refine pure_ (i := 4) (N := some 26) (v := ?_) (a' := ?_) #[true, true, true, true, true, false, true, false, false] rfl rfl (any_of HT_.out (by kernel_rfl)) (fun _ _ _ h => h) (Or.inl ⟨by rfl, ?_⟩) ?_ ?_
   rotate_left
   ·intro w'
    go_simp
    with_reducible rfl
   rotate_left
   ·simp only [Act.put, List.setIfInBounds_toArray, List.set_cons_zero, List.set_cons_succ, i64_w, i32_w]
    rfl
   refine pure_ (i := 5) (N := some 27) (v := ?_) (a' := ?_) #[true, true, true, true, true, true, true, false, false] rfl rfl (any_of HT_.out (by kernel_rfl)) (fun _ _ _ h => h) (Or.inl ⟨by rfl, ?_⟩) ?_ ?_
   rotate_left
   ·intro w'
    go_simp
    with_reducible rfl
   rotate_left
   ·simp only [Act.put, List.setIfInBounds_toArray, List.set_cons_zero, List.set_cons_succ, i64_w, i32_w]
    rfl
   exact norm_ (by simp only [putAll, Act.put, List.setIfInBounds_toArray, List.set_cons_zero, List.set_cons_succ]) (hCont (v179, gb182) _ ⟨hHeld, (by (with_reducible repeat (first | apply Kd.R_alloc | apply Kd.R_drewN | apply Kd.R_drew)); exact Kd.R_mono HO170.out (fun _ hk => hk.2)), (by (with_reducible repeat (first | apply Kd.R_alloc | apply Kd.R_drewN | apply Kd.R_drew)); exact Kd.R_mono HO180.out (fun _ hk => hk.2)), (by (with_reducible repeat (first | refine blk_drewN ?_ _ | refine blk_drew ?_ | refine blk_alloc ?_ _)); exact BK172.out), (by (with_reducible repeat (first | refine blk_drewN ?_ _ | refine blk_drew ?_ | refine blk_alloc ?_ _)); exact BK182.out), GW182.out, GE182.out, NB172_182.out, NB182_172.out, (by repeat (first | (with_reducible first | exact HB.out | apply below_alloc | apply pw_below_drewN | apply below_drew1 | refine below_set ?_ GE172.out | refine below_set ?_ GE182.out) | exact HB.out))⟩)
 rintro ⟨v179, gb182⟩ w33 ⟨hS_, h0_, h1_, h2_, h3_, h4_, h5_, h6_, h7_, h8_⟩
 have n0_ : Aside0 (Kd.R k26 26 w33 w.heap.size (fun k_ => some k_ ≠ (v179 : Value).ownBlock) (.slice Ao26 t168.length co26) t168) := ⟨h0_⟩
 have n1_ : Aside0 (Kd.R k26 26 w33 w.heap.size (fun k_ => some k_ ≠ (.slice Ao26 t168.length co26 : Value).ownBlock) v179 t178) := ⟨h1_⟩
 have n2_ : Aside0 (w33.heap[gb172]? = some (.cells #[.slice Ao26 t168.length co26] 24 (0, 0))) := ⟨h2_⟩
 have n3_ : Aside0 (w33.heap[gb182]? = some (.cells #[.slice none 0 0] 24 (0, 0))) := ⟨h3_⟩
 have n4_ : Aside0 (w.heap.size ≤ gb182) := ⟨h4_⟩
 have n5_ : Aside0 (w.heap.size ≤ gb182) := ⟨h5_⟩
 have n6_ : Aside0 (gb172 ≠ gb182) := ⟨h6_⟩
 have n7_ : Aside0 (gb182 ≠ gb172) := ⟨h7_⟩
 have n8_ : Aside0 (Below w.heap.size w w33) := ⟨h8_⟩
 clear HO170
 clear BK172
 clear HB
 clear h0_ h1_ h2_ h3_ h4_ h5_ h6_ h7_ h8_
 have HO170 := n0_
 have HO180 := n1_
 have BK172 := n2_
 have BK182 := n3_
 have GW182 := n4_
 have GE182 := n5_
 have NB172_182 := n6_
 have NB182_172 := n7_
 have HB := n8_
 clear n0_ n1_ n2_ n3_ n4_ n5_ n6_ n7_ n8_
 have hHeld : w33.cell? ⟨gb172, 0, none⟩ = some (.slice Ao26 t168.length co26) := hS_
 obtain ⟨Ao34, co34, eo34⟩ := Kd.R_slice HO180.out
 (first | subst eo34 | (injection eo34 with f1_ f2_ f3_; have f4_ := f1_.symm; have f5_ := f3_.symm; clear f1_ f2_ f3_; subst f4_; subst f5_))
 refine norm_ (a' := ?_) ?_ ?_
 rotate_left
 ·simp only [putAll, Act.put, List.setIfInBounds_toArray, List.set_cons_zero, List.set_cons_succ]
  rfl
 refine one_ (i := 7) (N := none) #[true, true, true, true, true, true, true, true, false] rfl rfl (one_of HT_.out (by kernel_rfl)) (by decide) (fun K hK => ?_)
 have hs35 : w33.cell? ⟨gb182, 0, none⟩ = some (.slice none 0 0) := (blk_cell BK182.out 0).trans rfl
 have hfs35 := blk_frozen BK182.out 0
 have hns35_0 := NB172_182.out
 have hms35_0 := NB182_172.out
 refine skip_ (w1 := ?_) (by rfl) rfl ?_ ?_
 rotate_left
 ·go_simp
  rfl
 refine hK.out _ _ (((cell_far (p := ⟨gb182, _, none⟩) NB172_182.out _).trans (hHeld))) (fun hHeld => ?_)
 clear hK K
 refine pure_ (i := 8) (N := some 4) (v := ?_) (a' := ?_) #[true, true, true, true, true, true, true, true, true] rfl rfl (any_of HT_.out (by kernel_rfl)) (fun _ _ _ h => h) (Or.inl ⟨by rfl, ?_⟩) ?_ ?_
 rotate_left
 ·intro w'
  go_simp
  with_reducible rfl
 rotate_left
 ·simp only [Act.put, List.setIfInBounds_toArray, List.set_cons_zero, List.set_cons_succ, i64_w, i32_w]
  rfl
 refine done_ (done_of HT_.out (by kernel_rfl)) ?_
 have hnb36 := NB182_172.out
 have hnc36 := NB172_182.out
 have hcz37_0 : w33.cell? ⟨gb182, 0, none⟩ = some (.slice none 0 0) := (blk_cell BK182.out 0).trans rfl
 have hfz37_0 := blk_frozen BK182.out 0
 try go_wp2_with (first | ((with_reducible refine gate_callee (f := 13) rfl ?_); refine goesL_ (some 30) rfl rfl Try.func13 (by kernel_rfl) rfl #[.agg #[.slice Ao34 t178.length co34]] rfl (by (try simp only [List.map_toArray, List.map_cons, List.map_nil]); first | done | rfl | (simp only [List.length_drop, List.length_take]; rfl)) ?_; (with_reducible refine (queue_Head.calls 64 _ _ t178 t183 t184 t185 t186 t187 true _ ?side1 ?side2 A5.out).mono ?_); (case side1 => refine (Kd.R_reads' (e := 26) (base := w.heap.size) (ok := fun k_ => some k_ ≠ (.slice Ao26 t168.length co26 : Value).ownBlock) (n := t178.length) (c := co34) ?_).2.2; exact (by (with_reducible repeat (first | apply Kd.R_alloc | apply Kd.R_drewN | apply Kd.R_drew)); exact (Kd.R_mono (Kd.R_far (p := ⟨gb182, 0, none⟩) (Kd.R_types HO180.out BK182.out (by decide)) (fun _ hk => hk.2) (.slice Ao34 t178.length co34)) (fun _ h_ => h_.1)))); (case side2 => exact (Kd.R_reads' HO180.out).2.1); rintro e w38 ⟨rfl, hb⟩; refine ⟨_, rfl, ?_⟩; have n0_ := Aside0.mk (Kd.R_below (by (with_reducible repeat (first | apply Kd.R_alloc | apply Kd.R_drewN | apply Kd.R_drew)); exact (Kd.R_mono (Kd.R_far (p := ⟨gb182, 0, none⟩) (Kd.R_types HO170.out BK182.out (by decide)) (fun _ hk => hk.2) (.slice Ao34 t178.length co34)) (fun _ h_ => h_.1))) hb); have n1_ := Aside0.mk (Kd.R_below (by (with_reducible repeat (first | apply Kd.R_alloc | apply Kd.R_drewN | apply Kd.R_drew)); exact (Kd.R_mono (Kd.R_far (p := ⟨gb182, 0, none⟩) (Kd.R_types HO180.out BK182.out (by decide)) (fun _ hk => hk.2) (.slice Ao34 t178.length co34)) (fun _ h_ => h_.1))) hb); have n2_ := Aside0.mk (blk_below (g := gb172) (o := .cells #[.slice Ao26 t168.length co26] 24 (0, 0)) (by (with_reducible repeat (first | refine blk_drewN ?_ _ | refine blk_drew ?_ | refine blk_alloc ?_ _)); refine blk_far ?_ NB172_182.out _; (with_reducible repeat (first | refine blk_drewN ?_ _ | refine blk_drew ?_ | refine blk_alloc ?_ _)); exact BK172.out) hb); have n3_ := Aside0.mk (blk_below (g := gb182) (o := .cells #[.slice Ao34 t178.length co34] 24 (0, 0)) (by (with_reducible repeat (first | refine blk_drewN ?_ _ | refine blk_drew ?_ | refine blk_alloc ?_ _)); refine blk_put (cs := #[.slice none 0 0]) ?_ 0 _ rfl; (with_reducible repeat (first | refine blk_drewN ?_ _ | refine blk_drew ?_ | refine blk_alloc ?_ _)); exact BK182.out) hb); have n4_ := Aside0.mk (below_step (by repeat (first | (with_reducible first | exact HB.out | apply below_alloc | apply pw_below_drewN | apply below_drew1 | refine below_set ?_ GE172.out | refine below_set ?_ GE182.out) | exact HB.out)) hb); clear HO170; clear HO180; clear BK172; clear BK182; clear HB; have HO170 := n0_; have HO180 := n1_; have BK172 := n2_; have BK182 := n3_; have HB := n4_; clear n0_ n1_ n2_ n3_ n4_; (try clear hb); (try clear hb2); (try clear hk); (try clear hi)) | ((with_reducible refine gate_dst (N := 5) rfl ?_); refine box_event ?hg (N := 5) ?hd (cs := #[.int .i64 0, .int .i64 0, .int .i64 0, .int .i64 0, .int .i64 0]) (t := 26) ?hr ?_; (case hd => rfl); (case hg => rfl); (case hr => first | (go_simp; done) | (go_simp; rfl)); intro gb189 hg w39 hbox hb; have n0_ := Aside0.mk (Kd.R_below (Kd.R_elderB (by (with_reducible repeat (first | apply Kd.R_alloc | apply Kd.R_drewN | apply Kd.R_drew)); exact HO170.out) gb189 (Nat.le_of_eq hg.symm)) hb); have n1_ := Aside0.mk (Kd.R_below (Kd.R_elderB (by (with_reducible repeat (first | apply Kd.R_alloc | apply Kd.R_drewN | apply Kd.R_drew)); exact HO180.out) gb189 (Nat.le_of_eq hg.symm)) hb); have n2_ := Aside0.mk (blk_below (g := gb172) (o := .cells #[.slice Ao26 t168.length co26] 24 (0, 0)) (by (with_reducible repeat (first | refine blk_drewN ?_ _ | refine blk_drew ?_ | refine blk_alloc ?_ _)); exact BK172.out) hb); have n3_ := Aside0.mk (blk_below (g := gb182) (o := .cells #[.slice Ao34 t178.length co34] 24 (0, 0)) (by (with_reducible repeat (first | refine blk_drewN ?_ _ | refine blk_drew ?_ | refine blk_alloc ?_ _)); exact BK182.out) hb); have n4_ := Aside0.mk (below_step (by repeat (first | (with_reducible first | exact HB.out | apply below_alloc | apply pw_below_drewN | apply below_drew1 | refine below_set ?_ GE172.out | refine below_set ?_ GE182.out) | exact HB.out)) hb); have n5_ := Aside0.mk (hbox); have n6_ := Aside0.mk ((by rw [hg]; exact (below_size (by repeat (first | (with_reducible first | exact HB.out | apply below_alloc | apply pw_below_drewN | apply below_drew1 | refine below_set ?_ GE172.out | refine below_set ?_ GE182.out) | exact HB.out))) : w.heap.size ≤ gb189)); have n7_ := Aside0.mk ((by rw [hg]; exact (below_size (by repeat (first | (with_reducible first | exact HB.out | apply below_alloc | apply pw_below_drewN | apply below_drew1 | refine below_set ?_ GE172.out | refine below_set ?_ GE182.out) | exact HB.out))) : w.heap.size ≤ gb189)); have n8_ := Aside0.mk ((by rw [hg]; exact Nat.ne_of_lt (blk_lt (g := gb172) (o := .cells #[.slice Ao26 t168.length co26] 24 (0, 0)) (by (with_reducible repeat (first | refine blk_drewN ?_ _ | refine blk_drew ?_ | refine blk_alloc ?_ _)); exact BK172.out)) : gb172 ≠ gb189)); have n9_ := Aside0.mk ((by rw [hg]; exact Nat.ne_of_gt (blk_lt (g := gb172) (o := .cells #[.slice Ao26 t168.length co26] 24 (0, 0)) (by (with_reducible repeat (first | refine blk_drewN ?_ _ | refine blk_drew ?_ | refine blk_alloc ?_ _)); exact BK172.out)) : gb189 ≠ gb172)); have n10_ := Aside0.mk ((by rw [hg]; exact Nat.ne_of_lt (blk_lt (g := gb182) (o := .cells #[.slice Ao34 t178.length co34] 24 (0, 0)) (by (with_reducible repeat (first | refine blk_drewN ?_ _ | refine blk_drew ?_ | refine blk_alloc ?_ _)); exact BK182.out)) : gb182 ≠ gb189)); have n11_ := Aside0.mk ((by rw [hg]; exact Nat.ne_of_gt (blk_lt (g := gb182) (o := .cells #[.slice Ao34 t178.length co34] 24 (0, 0)) (by (with_reducible repeat (first | refine blk_drewN ?_ _ | refine blk_drew ?_ | refine blk_alloc ?_ _)); exact BK182.out)) : gb189 ≠ gb182)); clear HO170; clear HO180; clear BK172; clear BK182; clear HB; have HO170 := n0_; have HO180 := n1_; have BK172 := n2_; have BK182 := n3_; have HB := n4_; have BK189 := n5_; have GW189 := n6_; have GE189 := n7_; have NB172_189 := n8_; have NB189_172 := n9_; have NB182_189 := n10_; have NB189_182 := n11_; clear n0_ n1_ n2_ n3_ n4_ n5_ n6_ n7_ n8_ n9_ n10_ n11_; clear hb hbox hg; have hnb40 := NB189_172.out; have hnc40 := NB172_189.out; have hnb41 := NB189_182.out; have hnc41 := NB182_189.out; have hcz42_0 : w39.cell? ⟨gb189, 0, none⟩ = some (.int .i64 0) := (blk_cell BK189.out 0).trans rfl; have hcz42_1 : w39.cell? ⟨gb189, 1, none⟩ = some (.int .i64 0) := (blk_cell BK189.out 1).trans rfl; have hcz42_2 : w39.cell? ⟨gb189, 2, none⟩ = some (.int .i64 0) := (blk_cell BK189.out 2).trans rfl; have hcz42_3 : w39.cell? ⟨gb189, 3, none⟩ = some (.int .i64 0) := (blk_cell BK189.out 3).trans rfl; have hcz42_4 : w39.cell? ⟨gb189, 4, none⟩ = some (.int .i64 0) := (blk_cell BK189.out 4).trans rfl; have hfz42_0 := blk_frozen BK189.out 0; have hfz42_1 := blk_frozen BK189.out 1; have hfz42_2 := blk_frozen BK189.out 2; have hfz42_3 := blk_frozen BK189.out 3; have hfz42_4 := blk_frozen BK189.out 4) | ((with_reducible refine gate_store (t := 26) (p := 5) rfl ?_); refine store_event (t := 26) (p := 5) (v := ?vo_w43) (w1 := (((((w39.setCell ⟨gb189, 0, none⟩ (.int .i64 t183)).setCell ⟨gb189, 1, none⟩ (.int .i64 t184)).setCell ⟨gb189, 2, none⟩ (.int .i64 t185)).setCell ⟨gb189, 3, none⟩ (.int .i64 t186)).setCell ⟨gb189, 4, none⟩ (.int .i64 t187))) ?hg ?ho ?hn ?hr ?_; (case ho => rfl); (case hg => rfl); (case hn => rfl); (case hr => first | (go_simp; done) | (go_simp; rfl)); intro w43 hw; have n0_ : Aside0 (Kd.R k26 26 w43 w.heap.size (fun k_ => some k_ ≠ (.slice Ao34 t178.length co34 : Value).ownBlock ∧ k_ ≠ gb189) (.slice Ao26 t168.length co26) t168) := ⟨(by rw [hw]; exact (by (with_reducible repeat (first | apply Kd.R_alloc | apply Kd.R_drewN | apply Kd.R_drew)); exact Kd.R_mono (Kd.R_far (p := ⟨gb189, 4, none⟩) (Kd.R_far (p := ⟨gb189, 3, none⟩) (Kd.R_far (p := ⟨gb189, 2, none⟩) (Kd.R_far (p := ⟨gb189, 1, none⟩) (Kd.R_far (p := ⟨gb189, 0, none⟩) (Kd.R_mono HO170.out (fun k_ hk => (⟨hk, hk.2⟩ : _ ∧ k_ ≠ gb189))) (fun _ hk => hk.2) (.int .i64 t183)) (fun _ hk => hk.2) (.int .i64 t184)) (fun _ hk => hk.2) (.int .i64 t185)) (fun _ hk => hk.2) (.int .i64 t186)) (fun _ hk => hk.2) (.int .i64 t187)) (fun _ hk => ⟨hk.1.1, hk.1.2⟩)))⟩; have n1_ : Aside0 (Kd.R k26 26 w43 w.heap.size (fun k_ => some k_ ≠ (.slice Ao26 t168.length co26 : Value).ownBlock ∧ k_ ≠ gb189) (.slice Ao34 t178.length co34) t178) := ⟨(by rw [hw]; exact (by (with_reducible repeat (first | apply Kd.R_alloc | apply Kd.R_drewN | apply Kd.R_drew)); exact Kd.R_mono (Kd.R_far (p := ⟨gb189, 4, none⟩) (Kd.R_far (p := ⟨gb189, 3, none⟩) (Kd.R_far (p := ⟨gb189, 2, none⟩) (Kd.R_far (p := ⟨gb189, 1, none⟩) (Kd.R_far (p := ⟨gb189, 0, none⟩) (Kd.R_mono HO180.out (fun k_ hk => (⟨hk, hk.2⟩ : _ ∧ k_ ≠ gb189))) (fun _ hk => hk.2) (.int .i64 t183)) (fun _ hk => hk.2) (.int .i64 t184)) (fun _ hk => hk.2) (.int .i64 t185)) (fun _ hk => hk.2) (.int .i64 t186)) (fun _ hk => hk.2) (.int .i64 t187)) (fun _ hk => ⟨hk.1.1, hk.1.2⟩)))⟩; have n2_ : Aside0 (w43.heap[gb172]? = some (.cells #[.slice Ao26 t168.length co26] 24 (0, 0))) := ⟨(by rw [hw]; exact (by (with_reducible repeat (first | refine blk_drewN ?_ _ | refine blk_drew ?_ | refine blk_alloc ?_ _)); refine blk_far ?_ NB172_189.out _; (with_reducible repeat (first | refine blk_drewN ?_ _ | refine blk_drew ?_ | refine blk_alloc ?_ _)); refine blk_far ?_ NB172_189.out _; (with_reducible repeat (first | refine blk_drewN ?_ _ | refine blk_drew ?_ | refine blk_alloc ?_ _)); refine blk_far ?_ NB172_189.out _; (with_reducible repeat (first | refine blk_drewN ?_ _ | refine blk_drew ?_ | refine blk_alloc ?_ _)); refine blk_far ?_ NB172_189.out _; (with_reducible repeat (first | refine blk_drewN ?_ _ | refine blk_drew ?_ | refine blk_alloc ?_ _)); refine blk_far ?_ NB172_189.out _; (with_reducible repeat (first | refine blk_drewN ?_ _ | refine blk_drew ?_ | refine blk_alloc ?_ _)); exact BK172.out))⟩; have n3_ : Aside0 (w43.heap[gb182]? = some (.cells #[.slice Ao34 t178.length co34] 24 (0, 0))) := ⟨(by rw [hw]; exact (by (with_reducible repeat (first | refine blk_drewN ?_ _ | refine blk_drew ?_ | refine blk_alloc ?_ _)); refine blk_far ?_ NB182_189.out _; (with_reducible repeat (first | refine blk_drewN ?_ _ | refine blk_drew ?_ | refine blk_alloc ?_ _)); refine blk_far ?_ NB182_189.out _; (with_reducible repeat (first | refine blk_drewN ?_ _ | refine blk_drew ?_ | refine blk_alloc ?_ _)); refine blk_far ?_ NB182_189.out _; (with_reducible repeat (first | refine blk_drewN ?_ _ | refine blk_drew ?_ | refine blk_alloc ?_ _)); refine blk_far ?_ NB182_189.out _; (with_reducible repeat (first | refine blk_drewN ?_ _ | refine blk_drew ?_ | refine blk_alloc ?_ _)); refine blk_far ?_ NB182_189.out _; (with_reducible repeat (first | refine blk_drewN ?_ _ | refine blk_drew ?_ | refine blk_alloc ?_ _)); exact BK182.out))⟩; have n4_ : Aside0 (w43.heap[gb189]? = some (.cells #[.int .i64 t183, .int .i64 t184, .int .i64 t185, .int .i64 t186, .int .i64 t187] 26 (0, 0))) := ⟨(by rw [hw]; exact (by (with_reducible repeat (first | refine blk_drewN ?_ _ | refine blk_drew ?_ | refine blk_alloc ?_ _)); refine blk_put (cs := #[.int .i64 t183, .int .i64 t184, .int .i64 t185, .int .i64 t186, .int .i64 0]) ?_ 4 _ rfl; (with_reducible repeat (first | refine blk_drewN ?_ _ | refine blk_drew ?_ | refine blk_alloc ?_ _)); refine blk_put (cs := #[.int .i64 t183, .int .i64 t184, .int .i64 t185, .int .i64 0, .int .i64 0]) ?_ 3 _ rfl; (with_reducible repeat (first | refine blk_drewN ?_ _ | refine blk_drew ?_ | refine blk_alloc ?_ _)); refine blk_put (cs := #[.int .i64 t183, .int .i64 t184, .int .i64 0, .int .i64 0, .int .i64 0]) ?_ 2 _ rfl; (with_reducible repeat (first | refine blk_drewN ?_ _ | refine blk_drew ?_ | refine blk_alloc ?_ _)); refine blk_put (cs := #[.int .i64 t183, .int .i64 0, .int .i64 0, .int .i64 0, .int .i64 0]) ?_ 1 _ rfl; (with_reducible repeat (first | refine blk_drewN ?_ _ | refine blk_drew ?_ | refine blk_alloc ?_ _)); refine blk_put (cs := #[.int .i64 0, .int .i64 0, .int .i64 0, .int .i64 0, .int .i64 0]) ?_ 0 _ rfl; (with_reducible repeat (first | refine blk_drewN ?_ _ | refine blk_drew ?_ | refine blk_alloc ?_ _)); exact BK189.out))⟩; have n5_ : Aside0 (Below w.heap.size w w43) := ⟨(by rw [hw]; exact (by repeat (first | (with_reducible first | exact HB.out | apply below_alloc | apply pw_below_drewN | apply below_drew1 | refine below_set ?_ GE172.out | refine below_set ?_ GE182.out | refine below_set ?_ GE189.out) | exact HB.out)))⟩; clear hw; clear HO170; clear HO180; clear BK172; clear BK182; clear BK189; clear HB; have HO170 := n0_; have HO180 := n1_; have BK172 := n2_; have BK182 := n3_; have BK189 := n4_; have HB := n5_; clear n0_ n1_ n2_ n3_ n4_ n5_; have hcz44_0 : w43.cell? ⟨gb182, 0, none⟩ = some (.slice Ao34 t178.length co34) := (blk_cell BK182.out 0).trans rfl; have hfz44_0 := blk_frozen BK182.out 0) | ((with_reducible refine gate_callee (f := 16) rfl ?_); refine goesL_ (some 34) rfl rfl Try.func16 (by kernel_rfl) rfl #[.agg #[.slice Ao34 t178.length co34], .int .i64 2, .int .i64 1] rfl (by (try simp only [List.map_toArray, List.map_cons, List.map_nil]); first | done | rfl | (simp only [List.length_drop, List.length_take]; rfl)) ?_; (with_reducible refine (queue_Drop.calls 64 (fun k_ => some k_ = (.slice Ao34 t178.length co34 : Value).ownBlock) _ _ t178 2 1 t190 _ ?side1 A6.out).mono ?_); (case side1 => exact Kd.R_V (Kd.R_tight rfl (Kd.R_types (Kd.R_types (HO180.out) BK172.out (by decide)) BK182.out (by decide)))); rintro e w45 ⟨v191, rfl, ho0, hb⟩; refine ⟨_, rfl, ?_⟩; have n0_ := Aside0.mk (Kd.R_elder' (by (with_reducible repeat (first | apply Kd.R_alloc | apply Kd.R_drewN | apply Kd.R_drew)); exact HO170.out) (Kd.R_base ho0) hb); have n1_ := Aside0.mk (Kd.R_elder' (by (with_reducible repeat (first | apply Kd.R_alloc | apply Kd.R_drewN | apply Kd.R_drew)); exact HO180.out) (Kd.R_base ho0) hb); have n2_ := Aside0.mk (Kd.R_lower (Kd.R_newB (Kd.R_new' (Kd.R_new' (Kd.R_mono (ok' := fun k_ => True) ho0 (fun _ hk_ => trivial)) (Kd.R_lt (by (with_reducible repeat (first | apply Kd.R_alloc | apply Kd.R_drewN | apply Kd.R_drew)); exact HO170.out))) (Kd.R_lt (by (with_reducible repeat (first | apply Kd.R_alloc | apply Kd.R_drewN | apply Kd.R_drew)); exact HO180.out))) (g := gb189) (o := .cells #[.int .i64 t183, .int .i64 t184, .int .i64 t185, .int .i64 t186, .int .i64 t187] 26 (0, 0)) (by (with_reducible repeat (first | refine blk_drewN ?_ _ | refine blk_drew ?_ | refine blk_alloc ?_ _)); exact BK189.out)) (below_size (by repeat (first | (with_reducible first | exact HB.out | apply below_alloc | apply pw_below_drewN | apply below_drew1 | refine below_set ?_ GE172.out | refine below_set ?_ GE182.out | refine below_set ?_ GE189.out) | exact HB.out)))); have n3_ := Aside0.mk (blk_below (g := gb172) (o := .cells #[.slice Ao26 t168.length co26] 24 (0, 0)) (by (with_reducible repeat (first | refine blk_drewN ?_ _ | refine blk_drew ?_ | refine blk_alloc ?_ _)); exact BK172.out) hb); have n4_ := Aside0.mk (blk_below (g := gb182) (o := .cells #[.slice Ao34 t178.length co34] 24 (0, 0)) (by (with_reducible repeat (first | refine blk_drewN ?_ _ | refine blk_drew ?_ | refine blk_alloc ?_ _)); exact BK182.out) hb); have n5_ := Aside0.mk (blk_below (g := gb189) (o := .cells #[.int .i64 t183, .int .i64 t184, .int .i64 t185, .int .i64 t186, .int .i64 t187] 26 (0, 0)) (by (with_reducible repeat (first | refine blk_drewN ?_ _ | refine blk_drew ?_ | refine blk_alloc ?_ _)); exact BK189.out) hb); have n6_ := Aside0.mk (below_step (by repeat (first | (with_reducible first | exact HB.out | apply below_alloc | apply pw_below_drewN | apply below_drew1 | refine below_set ?_ GE172.out | refine below_set ?_ GE182.out | refine below_set ?_ GE189.out) | exact HB.out)) hb); clear HO170; clear HO180; clear BK172; clear BK182; clear BK189; clear HB; have HO170 := n0_; have HO180 := n1_; have HO192 := n2_; have BK172 := n3_; have BK182 := n4_; have BK189 := n5_; have HB := n6_; clear n0_ n1_ n2_ n3_ n4_ n5_ n6_; (try clear hb); (try clear hb2); (try clear hk); (try clear hi); (try clear ho0)) | ((with_reducible refine gate_dst (N := 7) rfl ?_); refine box_event ?hg (N := 7) ?hd (cs := #[.slice none 0 0]) (t := 24) ?hr ?_; (case hd => rfl); (case hg => rfl); (case hr => first | (go_simp; done) | (go_simp; rfl)); intro gb193 hg w46 hbox hb; have n0_ := Aside0.mk (Kd.R_below (by (with_reducible repeat (first | apply Kd.R_alloc | apply Kd.R_drewN | apply Kd.R_drew)); exact HO170.out) hb); have n1_ := Aside0.mk (Kd.R_below (by (with_reducible repeat (first | apply Kd.R_alloc | apply Kd.R_drewN | apply Kd.R_drew)); exact HO180.out) hb); have n2_ := Aside0.mk (Kd.R_below (by (with_reducible repeat (first | apply Kd.R_alloc | apply Kd.R_drewN | apply Kd.R_drew)); exact HO192.out) hb); have n3_ := Aside0.mk (blk_below (g := gb172) (o := .cells #[.slice Ao26 t168.length co26] 24 (0, 0)) (by (with_reducible repeat (first | refine blk_drewN ?_ _ | refine blk_drew ?_ | refine blk_alloc ?_ _)); exact BK172.out) hb); have n4_ := Aside0.mk (blk_below (g := gb182) (o := .cells #[.slice Ao34 t178.length co34] 24 (0, 0)) (by (with_reducible repeat (first | refine blk_drewN ?_ _ | refine blk_drew ?_ | refine blk_alloc ?_ _)); exact BK182.out) hb); have n5_ := Aside0.mk (blk_below (g := gb189) (o := .cells #[.int .i64 t183, .int .i64 t184, .int .i64 t185, .int .i64 t186, .int .i64 t187] 26 (0, 0)) (by (with_reducible repeat (first | refine blk_drewN ?_ _ | refine blk_drew ?_ | refine blk_alloc ?_ _)); exact BK189.out) hb); have n6_ := Aside0.mk (below_step (by repeat (first | (with_reducible first | exact HB.out | apply below_alloc | apply pw_below_drewN | apply below_drew1 | refine below_set ?_ GE172.out | refine below_set ?_ GE182.out | refine below_set ?_ GE189.out) | exact HB.out)) hb); have n7_ := Aside0.mk (hbox); have n8_ := Aside0.mk ((by rw [hg]; exact (below_size (by repeat (first | (with_reducible first | exact HB.out | apply below_alloc | apply pw_below_drewN | apply below_drew1 | refine below_set ?_ GE172.out | refine below_set ?_ GE182.out | refine below_set ?_ GE189.out) | exact HB.out))) : w.heap.size ≤ gb193)); have n9_ := Aside0.mk ((by rw [hg]; exact (below_size (by repeat (first | (with_reducible first | exact HB.out | apply below_alloc | apply pw_below_drewN | apply below_drew1 | refine below_set ?_ GE172.out | refine below_set ?_ GE182.out | refine below_set ?_ GE189.out) | exact HB.out))) : w.heap.size ≤ gb193)); have n10_ := Aside0.mk ((by rw [hg]; exact Nat.ne_of_lt (blk_lt (g := gb172) (o := .cells #[.slice Ao26 t168.length co26] 24 (0, 0)) (by (with_reducible repeat (first | refine blk_drewN ?_ _ | refine blk_drew ?_ | refine blk_alloc ?_ _)); exact BK172.out)) : gb172 ≠ gb193)); have n11_ := Aside0.mk ((by rw [hg]; exact Nat.ne_of_gt (blk_lt (g := gb172) (o := .cells #[.slice Ao26 t168.length co26] 24 (0, 0)) (by (with_reducible repeat (first | refine blk_drewN ?_ _ | refine blk_drew ?_ | refine blk_alloc ?_ _)); exact BK172.out)) : gb193 ≠ gb172)); have n12_ := Aside0.mk ((by rw [hg]; exact Nat.ne_of_lt (blk_lt (g := gb182) (o := .cells #[.slice Ao34 t178.length co34] 24 (0, 0)) (by (with_reducible repeat (first | refine blk_drewN ?_ _ | refine blk_drew ?_ | refine blk_alloc ?_ _)); exact BK182.out)) : gb182 ≠ gb193)); have n13_ := Aside0.mk ((by rw [hg]; exact Nat.ne_of_gt (blk_lt (g := gb182) (o := .cells #[.slice Ao34 t178.length co34] 24 (0, 0)) (by (with_reducible repeat (first | refine blk_drewN ?_ _ | refine blk_drew ?_ | refine blk_alloc ?_ _)); exact BK182.out)) : gb193 ≠ gb182)); have n14_ := Aside0.mk ((by rw [hg]; exact Nat.ne_of_lt (blk_lt (g := gb189) (o := .cells #[.int .i64 t183, .int .i64 t184, .int .i64 t185, .int .i64 t186, .int .i64 t187] 26 (0, 0)) (by (with_reducible repeat (first | refine blk_drewN ?_ _ | refine blk_drew ?_ | refine blk_alloc ?_ _)); exact BK189.out)) : gb189 ≠ gb193)); have n15_ := Aside0.mk ((by rw [hg]; exact Nat.ne_of_gt (blk_lt (g := gb189) (o := .cells #[.int .i64 t183, .int .i64 t184, .int .i64 t185, .int .i64 t186, .int .i64 t187] 26 (0, 0)) (by (with_reducible repeat (first | refine blk_drewN ?_ _ | refine blk_drew ?_ | refine blk_alloc ?_ _)); exact BK189.out)) : gb193 ≠ gb189)); clear HO170; clear HO180; clear HO192; clear BK172; clear BK182; clear BK189; clear HB; have HO170 := n0_; have HO180 := n1_; have HO192 := n2_; have BK172 := n3_; have BK182 := n4_; have BK189 := n5_; have HB := n6_; have BK193 := n7_; have GW193 := n8_; have GE193 := n9_; have NB172_193 := n10_; have NB193_172 := n11_; have NB182_193 := n12_; have NB193_182 := n13_; have NB189_193 := n14_; have NB193_189 := n15_; clear n0_ n1_ n2_ n3_ n4_ n5_ n6_ n7_ n8_ n9_ n10_ n11_ n12_ n13_ n14_ n15_; clear hb hbox hg; obtain ⟨Ao47, co47, eo47⟩ := Kd.R_slice HO192.out; subst eo47; have hnb48 := NB193_172.out; have hnc48 := NB172_193.out; have hnb49 := NB193_182.out; have hnc49 := NB182_193.out; have hnb50 := NB193_189.out; have hnc50 := NB189_193.out; have hcz51_0 : w46.cell? ⟨gb193, 0, none⟩ = some (.slice none 0 0) := (blk_cell BK193.out 0).trans rfl; have hfz51_0 := blk_frozen BK193.out 0) | ((with_reducible refine gate_callee (f := 13) rfl ?_); refine goesL_ (some 37) rfl rfl Try.func13 (by kernel_rfl) rfl #[.agg #[.slice Ao47 t190.length co47]] rfl (by (try simp only [List.map_toArray, List.map_cons, List.map_nil]); first | done | rfl | (simp only [List.length_drop, List.length_take]; rfl)) ?_; (with_reducible refine (queue_Head.calls 64 _ _ t190 t194 t195 t196 t197 t198 true _ ?side1 ?side2 A7.out).mono ?_); (case side1 => refine (Kd.R_reads' (e := 26) (base := w.heap.size) (ok := fun k_ => (((True ∧ some k_ ≠ (.slice Ao26 t168.length co26 : Value).ownBlock) ∧ some k_ ≠ (.slice Ao34 t178.length co34 : Value).ownBlock) ∧ k_ ≠ gb189)) (n := t190.length) (c := co47) ?_).2.2; exact (by (with_reducible repeat (first | apply Kd.R_alloc | apply Kd.R_drewN | apply Kd.R_drew)); exact (Kd.R_mono (Kd.R_far (p := ⟨gb193, 0, none⟩) (Kd.R_types HO192.out BK193.out (by decide)) (fun _ hk => hk.2) (.slice Ao47 t190.length co47)) (fun _ h_ => h_.1)))); (case side2 => exact (Kd.R_reads' HO192.out).2.1); rintro e w52 ⟨rfl, hb⟩; refine ⟨_, rfl, ?_⟩; have n0_ := Aside0.mk (Kd.R_below (by (with_reducible repeat (first | apply Kd.R_alloc | apply Kd.R_drewN | apply Kd.R_drew)); exact (Kd.R_mono (Kd.R_far (p := ⟨gb193, 0, none⟩) (Kd.R_types HO170.out BK193.out (by decide)) (fun _ hk => hk.2) (.slice Ao47 t190.length co47)) (fun _ h_ => h_.1))) hb); have n1_ := Aside0.mk (Kd.R_below (by (with_reducible repeat (first | apply Kd.R_alloc | apply Kd.R_drewN | apply Kd.R_drew)); exact (Kd.R_mono (Kd.R_far (p := ⟨gb193, 0, none⟩) (Kd.R_types HO180.out BK193.out (by decide)) (fun _ hk => hk.2) (.slice Ao47 t190.length co47)) (fun _ h_ => h_.1))) hb); have n2_ := Aside0.mk (Kd.R_below (by (with_reducible repeat (first | apply Kd.R_alloc | apply Kd.R_drewN | apply Kd.R_drew)); exact (Kd.R_mono (Kd.R_far (p := ⟨gb193, 0, none⟩) (Kd.R_types HO192.out BK193.out (by decide)) (fun _ hk => hk.2) (.slice Ao47 t190.length co47)) (fun _ h_ => h_.1))) hb); have n3_ := Aside0.mk (blk_below (g := gb172) (o := .cells #[.slice Ao26 t168.length co26] 24 (0, 0)) (by (with_reducible repeat (first | refine blk_drewN ?_ _ | refine blk_drew ?_ | refine blk_alloc ?_ _)); refine blk_far ?_ NB172_193.out _; (with_reducible repeat (first | refine blk_drewN ?_ _ | refine blk_drew ?_ | refine blk_alloc ?_ _)); exact BK172.out) hb); have n4_ := Aside0.mk (blk_below (g := gb182) (o := .cells #[.slice Ao34 t178.length co34] 24 (0, 0)) (by (with_reducible repeat (first | refine blk_drewN ?_ _ | refine blk_drew ?_ | refine blk_alloc ?_ _)); refine blk_far ?_ NB182_193.out _; (with_reducible repeat (first | refine blk_drewN ?_ _ | refine blk_drew ?_ | refine blk_alloc ?_ _)); exact BK182.out) hb); have n5_ := Aside0.mk (blk_below (g := gb189) (o := .cells #[.int .i64 t183, .int .i64 t184, .int .i64 t185, .int .i64 t186, .int .i64 t187] 26 (0, 0)) (by (with_reducible repeat (first | refine blk_drewN ?_ _ | refine blk_drew ?_ | refine blk_alloc ?_ _)); refine blk_far ?_ NB189_193.out _; (with_reducible repeat (first | refine blk_drewN ?_ _ | refine blk_drew ?_ | refine blk_alloc ?_ _)); exact BK189.out) hb); have n6_ := Aside0.mk (blk_below (g := gb193) (o := .cells #[.slice Ao47 t190.length co47] 24 (0, 0)) (by (with_reducible repeat (first | refine blk_drewN ?_ _ | refine blk_drew ?_ | refine blk_alloc ?_ _)); refine blk_put (cs := #[.slice none 0 0]) ?_ 0 _ rfl; (with_reducible repeat (first | refine blk_drewN ?_ _ | refine blk_drew ?_ | refine blk_alloc ?_ _)); exact BK193.out) hb); have n7_ := Aside0.mk (below_step (by repeat (first | (with_reducible first | exact HB.out | apply below_alloc | apply pw_below_drewN | apply below_drew1 | refine below_set ?_ GE172.out | refine below_set ?_ GE182.out | refine below_set ?_ GE189.out | refine below_set ?_ GE193.out) | exact HB.out)) hb); clear HO170; clear HO180; clear HO192; clear BK172; clear BK182; clear BK189; clear BK193; clear HB; have HO170 := n0_; have HO180 := n1_; have HO192 := n2_; have BK172 := n3_; have BK182 := n4_; have BK189 := n5_; have BK193 := n6_; have HB := n7_; clear n0_ n1_ n2_ n3_ n4_ n5_ n6_ n7_; (try clear hb); (try clear hb2); (try clear hk); (try clear hi)) | ((with_reducible refine gate_dst (N := 8) rfl ?_); refine box_event ?hg (N := 8) ?hd (cs := #[.int .i64 0, .int .i64 0, .int .i64 0, .int .i64 0, .int .i64 0]) (t := 26) ?hr ?_; (case hd => rfl); (case hg => rfl); (case hr => first | (go_simp; done) | (go_simp; rfl)); intro gb200 hg w53 hbox hb; have n0_ := Aside0.mk (Kd.R_below (Kd.R_elderB (by (with_reducible repeat (first | apply Kd.R_alloc | apply Kd.R_drewN | apply Kd.R_drew)); exact HO170.out) gb200 (Nat.le_of_eq hg.symm)) hb); have n1_ := Aside0.mk (Kd.R_below (Kd.R_elderB (by (with_reducible repeat (first | apply Kd.R_alloc | apply Kd.R_drewN | apply Kd.R_drew)); exact HO180.out) gb200 (Nat.le_of_eq hg.symm)) hb); have n2_ := Aside0.mk (Kd.R_below (Kd.R_elderB (by (with_reducible repeat (first | apply Kd.R_alloc | apply Kd.R_drewN | apply Kd.R_drew)); exact HO192.out) gb200 (Nat.le_of_eq hg.symm)) hb); have n3_ := Aside0.mk (blk_below (g := gb172) (o := .cells #[.slice Ao26 t168.length co26] 24 (0, 0)) (by (with_reducible repeat (first | refine blk_drewN ?_ _ | refine blk_drew ?_ | refine blk_alloc ?_ _)); exact BK172.out) hb); have n4_ := Aside0.mk (blk_below (g := gb182) (o := .cells #[.slice Ao34 t178.length co34] 24 (0, 0)) (by (with_reducible repeat (first | refine blk_drewN ?_ _ | refine blk_drew ?_ | refine blk_alloc ?_ _)); exact BK182.out) hb); have n5_ := Aside0.mk (blk_below (g := gb189) (o := .cells #[.int .i64 t183, .int .i64 t184, .int .i64 t185, .int .i64 t186, .int .i64 t187] 26 (0, 0)) (by (with_reducible repeat (first | refine blk_drewN ?_ _ | refine blk_drew ?_ | refine blk_alloc ?_ _)); exact BK189.out) hb); have n6_ := Aside0.mk (blk_below (g := gb193) (o := .cells #[.slice Ao47 t190.length co47] 24 (0, 0)) (by (with_reducible repeat (first | refine blk_drewN ?_ _ | refine blk_drew ?_ | refine blk_alloc ?_ _)); exact BK193.out) hb); have n7_ := Aside0.mk (below_step (by repeat (first | (with_reducible first | exact HB.out | apply below_alloc | apply pw_below_drewN | apply below_drew1 | refine below_set ?_ GE172.out | refine below_set ?_ GE182.out | refine below_set ?_ GE189.out | refine below_set ?_ GE193.out) | exact HB.out)) hb); have n8_ := Aside0.mk (hbox); have n9_ := Aside0.mk ((by rw [hg]; exact (below_size (by repeat (first | (with_reducible first | exact HB.out | apply below_alloc | apply pw_below_drewN | apply below_drew1 | refine below_set ?_ GE172.out | refine below_set ?_ GE182.out | refine below_set ?_ GE189.out | refine below_set ?_ GE193.out) | exact HB.out))) : w.heap.size ≤ gb200)); have n10_ := Aside0.mk ((by rw [hg]; exact (below_size (by repeat (first | (with_reducible first | exact HB.out | apply below_alloc | apply pw_below_drewN | apply below_drew1 | refine below_set ?_ GE172.out | refine below_set ?_ GE182.out | refine below_set ?_ GE189.out | refine below_set ?_ GE193.out) | exact HB.out))) : w.heap.size ≤ gb200)); have n11_ := Aside0.mk ((by rw [hg]; exact Nat.ne_of_lt (blk_lt (g := gb172) (o := .cells #[.slice Ao26 t168.length co26] 24 (0, 0)) (by (with_reducible repeat (first | refine blk_drewN ?_ _ | refine blk_drew ?_ | refine blk_alloc ?_ _)); exact BK172.out)) : gb172 ≠ gb200)); have n12_ := Aside0.mk ((by rw [hg]; exact Nat.ne_of_gt (blk_lt (g := gb172) (o := .cells #[.slice Ao26 t168.length co26] 24 (0, 0)) (by (with_reducible repeat (first | refine blk_drewN ?_ _ | refine blk_drew ?_ | refine blk_alloc ?_ _)); exact BK172.out)) : gb200 ≠ gb172)); have n13_ := Aside0.mk ((by rw [hg]; exact Nat.ne_of_lt (blk_lt (g := gb182) (o := .cells #[.slice Ao34 t178.length co34] 24 (0, 0)) (by (with_reducible repeat (first | refine blk_drewN ?_ _ | refine blk_drew ?_ | refine blk_alloc ?_ _)); exact BK182.out)) : gb182 ≠ gb200)); have n14_ := Aside0.mk ((by rw [hg]; exact Nat.ne_of_gt (blk_lt (g := gb182) (o := .cells #[.slice Ao34 t178.length co34] 24 (0, 0)) (by (with_reducible repeat (first | refine blk_drewN ?_ _ | refine blk_drew ?_ | refine blk_alloc ?_ _)); exact BK182.out)) : gb200 ≠ gb182)); have n15_ := Aside0.mk ((by rw [hg]; exact Nat.ne_of_lt (blk_lt (g := gb189) (o := .cells #[.int .i64 t183, .int .i64 t184, .int .i64 t185, .int .i64 t186, .int .i64 t187] 26 (0, 0)) (by (with_reducible repeat (first | refine blk_drewN ?_ _ | refine blk_drew ?_ | refine blk_alloc ?_ _)); exact BK189.out)) : gb189 ≠ gb200)); have n16_ := Aside0.mk ((by rw [hg]; exact Nat.ne_of_gt (blk_lt (g := gb189) (o := .cells #[.int .i64 t183, .int .i64 t184, .int .i64 t185, .int .i64 t186, .int .i64 t187] 26 (0, 0)) (by (with_reducible repeat (first | refine blk_drewN ?_ _ | refine blk_drew ?_ | refine blk_alloc ?_ _)); exact BK189.out)) : gb200 ≠ gb189)); have n17_ := Aside0.mk ((by rw [hg]; exact Nat.ne_of_lt (blk_lt (g := gb193) (o := .cells #[.slice Ao47 t190.length co47] 24 (0, 0)) (by (with_reducible repeat (first | refine blk_drewN ?_ _ | refine blk_drew ?_ | refine blk_alloc ?_ _)); exact BK193.out)) : gb193 ≠ gb200)); have n18_ := Aside0.mk ((by rw [hg]; exact Nat.ne_of_gt (blk_lt (g := gb193) (o := .cells #[.slice Ao47 t190.length co47] 24 (0, 0)) (by (with_reducible repeat (first | refine blk_drewN ?_ _ | refine blk_drew ?_ | refine blk_alloc ?_ _)); exact BK193.out)) : gb200 ≠ gb193)); clear HO170; clear HO180; clear HO192; clear BK172; clear BK182; clear BK189; clear BK193; clear HB; have HO170 := n0_; have HO180 := n1_; have HO192 := n2_; have BK172 := n3_; have BK182 := n4_; have BK189 := n5_; have BK193 := n6_; have HB := n7_; have BK200 := n8_; have GW200 := n9_; have GE200 := n10_; have NB172_200 := n11_; have NB200_172 := n12_; have NB182_200 := n13_; have NB200_182 := n14_; have NB189_200 := n15_; have NB200_189 := n16_; have NB193_200 := n17_; have NB200_193 := n18_; clear n0_ n1_ n2_ n3_ n4_ n5_ n6_ n7_ n8_ n9_ n10_ n11_ n12_ n13_ n14_ n15_ n16_ n17_ n18_; clear hb hbox hg; have hnb54 := NB200_172.out; have hnc54 := NB172_200.out; have hnb55 := NB200_182.out; have hnc55 := NB182_200.out; have hnb56 := NB200_189.out; have hnc56 := NB189_200.out; have hnb57 := NB200_193.out; have hnc57 := NB193_200.out; have hcz58_0 : w53.cell? ⟨gb200, 0, none⟩ = some (.int .i64 0) := (blk_cell BK200.out 0).trans rfl; have hcz58_1 : w53.cell? ⟨gb200, 1, none⟩ = some (.int .i64 0) := (blk_cell BK200.out 1).trans rfl; have hcz58_2 : w53.cell? ⟨gb200, 2, none⟩ = some (.int .i64 0) := (blk_cell BK200.out 2).trans rfl; have hcz58_3 : w53.cell? ⟨gb200, 3, none⟩ = some (.int .i64 0) := (blk_cell BK200.out 3).trans rfl; have hcz58_4 : w53.cell? ⟨gb200, 4, none⟩ = some (.int .i64 0) := (blk_cell BK200.out 4).trans rfl; have hfz58_0 := blk_frozen BK200.out 0; have hfz58_1 := blk_frozen BK200.out 1; have hfz58_2 := blk_frozen BK200.out 2; have hfz58_3 := blk_frozen BK200.out 3; have hfz58_4 := blk_frozen BK200.out 4))
 have n0_ : Aside0 (Kd.R k26 26 (((((w53.setCell ⟨gb200, 0, none⟩ (.int .i64 t194)).setCell ⟨gb200, 1, none⟩ (.int .i64 t195)).setCell ⟨gb200, 2, none⟩ (.int .i64 t196)).setCell ⟨gb200, 3, none⟩ (.int .i64 t197)).setCell ⟨gb200, 4, none⟩ (.int .i64 t198)) w.heap.size (fun k_ => some k_ ≠ (.slice Ao34 t178.length co34 : Value).ownBlock ∧ some k_ ≠ (.slice Ao47 t190.length co47 : Value).ownBlock ∧ k_ ≠ gb189 ∧ k_ ≠ gb200) (.slice Ao26 t168.length co26) t168) := ⟨by (with_reducible repeat (first | apply Kd.R_alloc | apply Kd.R_drewN | apply Kd.R_drew)); exact Kd.R_mono (Kd.R_far (p := ⟨gb200, 4, none⟩) (Kd.R_far (p := ⟨gb200, 3, none⟩) (Kd.R_far (p := ⟨gb200, 2, none⟩) (Kd.R_far (p := ⟨gb200, 1, none⟩) (Kd.R_far (p := ⟨gb200, 0, none⟩) (Kd.R_mono HO170.out (fun k_ hk => (⟨hk, hk.2⟩ : _ ∧ k_ ≠ gb200))) (fun _ hk => hk.2) (.int .i64 t194)) (fun _ hk => hk.2) (.int .i64 t195)) (fun _ hk => hk.2) (.int .i64 t196)) (fun _ hk => hk.2) (.int .i64 t197)) (fun _ hk => hk.2) (.int .i64 t198)) (fun _ hk => ⟨hk.1.1.1.1, ⟨hk.1.1.2, ⟨hk.1.1.1.2, hk.1.2⟩⟩⟩)⟩
 have n1_ : Aside0 (Kd.R k26 26 (((((w53.setCell ⟨gb200, 0, none⟩ (.int .i64 t194)).setCell ⟨gb200, 1, none⟩ (.int .i64 t195)).setCell ⟨gb200, 2, none⟩ (.int .i64 t196)).setCell ⟨gb200, 3, none⟩ (.int .i64 t197)).setCell ⟨gb200, 4, none⟩ (.int .i64 t198)) w.heap.size (fun k_ => some k_ ≠ (.slice Ao26 t168.length co26 : Value).ownBlock ∧ some k_ ≠ (.slice Ao47 t190.length co47 : Value).ownBlock ∧ k_ ≠ gb189 ∧ k_ ≠ gb200) (.slice Ao34 t178.length co34) t178) := ⟨by (with_reducible repeat (first | apply Kd.R_alloc | apply Kd.R_drewN | apply Kd.R_drew)); exact Kd.R_mono (Kd.R_far (p := ⟨gb200, 4, none⟩) (Kd.R_far (p := ⟨gb200, 3, none⟩) (Kd.R_far (p := ⟨gb200, 2, none⟩) (Kd.R_far (p := ⟨gb200, 1, none⟩) (Kd.R_far (p := ⟨gb200, 0, none⟩) (Kd.R_mono HO180.out (fun k_ hk => (⟨hk, hk.2⟩ : _ ∧ k_ ≠ gb200))) (fun _ hk => hk.2) (.int .i64 t194)) (fun _ hk => hk.2) (.int .i64 t195)) (fun _ hk => hk.2) (.int .i64 t196)) (fun _ hk => hk.2) (.int .i64 t197)) (fun _ hk => hk.2) (.int .i64 t198)) (fun _ hk => ⟨hk.1.1.1.1, ⟨hk.1.1.2, ⟨hk.1.1.1.2, hk.1.2⟩⟩⟩)⟩
 have n2_ : Aside0 (Kd.R k26 26 (((((w53.setCell ⟨gb200, 0, none⟩ (.int .i64 t194)).setCell ⟨gb200, 1, none⟩ (.int .i64 t195)).setCell ⟨gb200, 2, none⟩ (.int .i64 t196)).setCell ⟨gb200, 3, none⟩ (.int .i64 t197)).setCell ⟨gb200, 4, none⟩ (.int .i64 t198)) w.heap.size (fun k_ => some k_ ≠ (.slice Ao26 t168.length co26 : Value).ownBlock ∧ some k_ ≠ (.slice Ao34 t178.length co34 : Value).ownBlock ∧ k_ ≠ gb189 ∧ k_ ≠ gb200) (.slice Ao47 t190.length co47) t190) := ⟨by (with_reducible repeat (first | apply Kd.R_alloc | apply Kd.R_drewN | apply Kd.R_drew)); exact Kd.R_mono (Kd.R_far (p := ⟨gb200, 4, none⟩) (Kd.R_far (p := ⟨gb200, 3, none⟩) (Kd.R_far (p := ⟨gb200, 2, none⟩) (Kd.R_far (p := ⟨gb200, 1, none⟩) (Kd.R_far (p := ⟨gb200, 0, none⟩) (Kd.R_mono HO192.out (fun k_ hk => (⟨hk, hk.2⟩ : _ ∧ k_ ≠ gb200))) (fun _ hk => hk.2) (.int .i64 t194)) (fun _ hk => hk.2) (.int .i64 t195)) (fun _ hk => hk.2) (.int .i64 t196)) (fun _ hk => hk.2) (.int .i64 t197)) (fun _ hk => hk.2) (.int .i64 t198)) (fun _ hk => ⟨hk.1.1.1.1.2, ⟨hk.1.1.1.2, ⟨hk.1.1.2, hk.1.2⟩⟩⟩)⟩
 have n3_ : Aside0 ((((((w53.setCell ⟨gb200, 0, none⟩ (.int .i64 t194)).setCell ⟨gb200, 1, none⟩ (.int .i64 t195)).setCell ⟨gb200, 2, none⟩ (.int .i64 t196)).setCell ⟨gb200, 3, none⟩ (.int .i64 t197)).setCell ⟨gb200, 4, none⟩ (.int .i64 t198)).heap[gb172]? = some (.cells #[.slice Ao26 t168.length co26] 24 (0, 0))) := ⟨by (with_reducible repeat (first | refine blk_drewN ?_ _ | refine blk_drew ?_ | refine blk_alloc ?_ _)); refine blk_far ?_ NB172_200.out _; (with_reducible repeat (first | refine blk_drewN ?_ _ | refine blk_drew ?_ | refine blk_alloc ?_ _)); refine blk_far ?_ NB172_200.out _; (with_reducible repeat (first | refine blk_drewN ?_ _ | refine blk_drew ?_ | refine blk_alloc ?_ _)); refine blk_far ?_ NB172_200.out _; (with_reducible repeat (first | refine blk_drewN ?_ _ | refine blk_drew ?_ | refine blk_alloc ?_ _)); refine blk_far ?_ NB172_200.out _; (with_reducible repeat (first | refine blk_drewN ?_ _ | refine blk_drew ?_ | refine blk_alloc ?_ _)); refine blk_far ?_ NB172_200.out _; (with_reducible repeat (first | refine blk_drewN ?_ _ | refine blk_drew ?_ | refine blk_alloc ?_ _)); exact BK172.out⟩
 have n4_ : Aside0 ((((((w53.setCell ⟨gb200, 0, none⟩ (.int .i64 t194)).setCell ⟨gb200, 1, none⟩ (.int .i64 t195)).setCell ⟨gb200, 2, none⟩ (.int .i64 t196)).setCell ⟨gb200, 3, none⟩ (.int .i64 t197)).setCell ⟨gb200, 4, none⟩ (.int .i64 t198)).heap[gb182]? = some (.cells #[.slice Ao34 t178.length co34] 24 (0, 0))) := ⟨by (with_reducible repeat (first | refine blk_drewN ?_ _ | refine blk_drew ?_ | refine blk_alloc ?_ _)); refine blk_far ?_ NB182_200.out _; (with_reducible repeat (first | refine blk_drewN ?_ _ | refine blk_drew ?_ | refine blk_alloc ?_ _)); refine blk_far ?_ NB182_200.out _; (with_reducible repeat (first | refine blk_drewN ?_ _ | refine blk_drew ?_ | refine blk_alloc ?_ _)); refine blk_far ?_ NB182_200.out _; (with_reducible repeat (first | refine blk_drewN ?_ _ | refine blk_drew ?_ | refine blk_alloc ?_ _)); refine blk_far ?_ NB182_200.out _; (with_reducible repeat (first | refine blk_drewN ?_ _ | refine blk_drew ?_ | refine blk_alloc ?_ _)); refine blk_far ?_ NB182_200.out _; (with_reducible repeat (first | refine blk_drewN ?_ _ | refine blk_drew ?_ | refine blk_alloc ?_ _)); exact BK182.out⟩
 have n5_ : Aside0 ((((((w53.setCell ⟨gb200, 0, none⟩ (.int .i64 t194)).setCell ⟨gb200, 1, none⟩ (.int .i64 t195)).setCell ⟨gb200, 2, none⟩ (.int .i64 t196)).setCell ⟨gb200, 3, none⟩ (.int .i64 t197)).setCell ⟨gb200, 4, none⟩ (.int .i64 t198)).heap[gb189]? = some (.cells #[.int .i64 t183, .int .i64 t184, .int .i64 t185, .int .i64 t186, .int .i64 t187] 26 (0, 0))) := ⟨by (with_reducible repeat (first | refine blk_drewN ?_ _ | refine blk_drew ?_ | refine blk_alloc ?_ _)); refine blk_far ?_ NB189_200.out _; (with_reducible repeat (first | refine blk_drewN ?_ _ | refine blk_drew ?_ | refine blk_alloc ?_ _)); refine blk_far ?_ NB189_200.out _; (with_reducible repeat (first | refine blk_drewN ?_ _ | refine blk_drew ?_ | refine blk_alloc ?_ _)); refine blk_far ?_ NB189_200.out _; (with_reducible repeat (first | refine blk_drewN ?_ _ | refine blk_drew ?_ | refine blk_alloc ?_ _)); refine blk_far ?_ NB189_200.out _; (with_reducible repeat (first | refine blk_drewN ?_ _ | refine blk_drew ?_ | refine blk_alloc ?_ _)); refine blk_far ?_ NB189_200.out _; (with_reducible repeat (first | refine blk_drewN ?_ _ | refine blk_drew ?_ | refine blk_alloc ?_ _)); exact BK189.out⟩
 have n6_ : Aside0 ((((((w53.setCell ⟨gb200, 0, none⟩ (.int .i64 t194)).setCell ⟨gb200, 1, none⟩ (.int .i64 t195)).setCell ⟨gb200, 2, none⟩ (.int .i64 t196)).setCell ⟨gb200, 3, none⟩ (.int .i64 t197)).setCell ⟨gb200, 4, none⟩ (.int .i64 t198)).heap[gb193]? = some (.cells #[.slice Ao47 t190.length co47] 24 (0, 0))) := ⟨by (with_reducible repeat (first | refine blk_drewN ?_ _ | refine blk_drew ?_ | refine blk_alloc ?_ _)); refine blk_far ?_ NB193_200.out _; (with_reducible repeat (first | refine blk_drewN ?_ _ | refine blk_drew ?_ | refine blk_alloc ?_ _)); refine blk_far ?_ NB193_200.out _; (with_reducible repeat (first | refine blk_drewN ?_ _ | refine blk_drew ?_ | refine blk_alloc ?_ _)); refine blk_far ?_ NB193_200.out _; (with_reducible repeat (first | refine blk_drewN ?_ _ | refine blk_drew ?_ | refine blk_alloc ?_ _)); refine blk_far ?_ NB193_200.out _; (with_reducible repeat (first | refine blk_drewN ?_ _ | refine blk_drew ?_ | refine blk_alloc ?_ _)); refine blk_far ?_ NB193_200.out _; (with_reducible repeat (first | refine blk_drewN ?_ _ | refine blk_drew ?_ | refine blk_alloc ?_ _)); exact BK193.out⟩
 have n7_ : Aside0 ((((((w53.setCell ⟨gb200, 0, none⟩ (.int .i64 t194)).setCell ⟨gb200, 1, none⟩ (.int .i64 t195)).setCell ⟨gb200, 2, none⟩ (.int .i64 t196)).setCell ⟨gb200, 3, none⟩ (.int .i64 t197)).setCell ⟨gb200, 4, none⟩ (.int .i64 t198)).heap[gb200]? = some (.cells #[.int .i64 t194, .int .i64 t195, .int .i64 t196, .int .i64 t197, .int .i64 t198] 26 (0, 0))) := ⟨by (with_reducible repeat (first | refine blk_drewN ?_ _ | refine blk_drew ?_ | refine blk_alloc ?_ _)); refine blk_put (cs := #[.int .i64 t194, .int .i64 t195, .int .i64 t196, .int .i64 t197, .int .i64 0]) ?_ 4 _ rfl; (with_reducible repeat (first | refine blk_drewN ?_ _ | refine blk_drew ?_ | refine blk_alloc ?_ _)); refine blk_put (cs := #[.int .i64 t194, .int .i64 t195, .int .i64 t196, .int .i64 0, .int .i64 0]) ?_ 3 _ rfl; (with_reducible repeat (first | refine blk_drewN ?_ _ | refine blk_drew ?_ | refine blk_alloc ?_ _)); refine blk_put (cs := #[.int .i64 t194, .int .i64 t195, .int .i64 0, .int .i64 0, .int .i64 0]) ?_ 2 _ rfl; (with_reducible repeat (first | refine blk_drewN ?_ _ | refine blk_drew ?_ | refine blk_alloc ?_ _)); refine blk_put (cs := #[.int .i64 t194, .int .i64 0, .int .i64 0, .int .i64 0, .int .i64 0]) ?_ 1 _ rfl; (with_reducible repeat (first | refine blk_drewN ?_ _ | refine blk_drew ?_ | refine blk_alloc ?_ _)); refine blk_put (cs := #[.int .i64 0, .int .i64 0, .int .i64 0, .int .i64 0, .int .i64 0]) ?_ 0 _ rfl; (with_reducible repeat (first | refine blk_drewN ?_ _ | refine blk_drew ?_ | refine blk_alloc ?_ _)); exact BK200.out⟩
 have n8_ : Aside0 (Below w.heap.size w (((((w53.setCell ⟨gb200, 0, none⟩ (.int .i64 t194)).setCell ⟨gb200, 1, none⟩ (.int .i64 t195)).setCell ⟨gb200, 2, none⟩ (.int .i64 t196)).setCell ⟨gb200, 3, none⟩ (.int .i64 t197)).setCell ⟨gb200, 4, none⟩ (.int .i64 t198))) := ⟨by repeat (first | (with_reducible first | exact HB.out | apply below_alloc | apply pw_below_drewN | apply below_drew1 | refine below_set ?_ GE172.out | refine below_set ?_ GE182.out | refine below_set ?_ GE189.out | refine below_set ?_ GE193.out | refine below_set ?_ GE200.out) | exact HB.out)⟩
 (try clear HO170)
 (try clear HO180)
 (try clear HO192)
 (try clear BK172)
 (try clear BK182)
 (try clear BK189)
 (try clear BK193)
 (try clear BK200)
 (try clear HB)
 generalize (((((w53.setCell ⟨gb200, 0, none⟩ (.int .i64 t194)).setCell ⟨gb200, 1, none⟩ (.int .i64 t195)).setCell ⟨gb200, 2, none⟩ (.int .i64 t196)).setCell ⟨gb200, 3, none⟩ (.int .i64 t197)).setCell ⟨gb200, 4, none⟩ (.int .i64 t198)) = w59 at n0_ n1_ n2_ n3_ n4_ n5_ n6_ n7_ n8_ ⊢
 have HO170 := n0_
 have HO180 := n1_
 have HO192 := n2_
 have BK172 := n3_
 have BK182 := n4_
 have BK189 := n5_
 have BK193 := n6_
 have BK200 := n7_
 have HB := n8_
 clear n0_ n1_ n2_ n3_ n4_ n5_ n6_ n7_ n8_
 have n0_ := Aside0.mk (Kd.R_drew HO170.out)
 have n1_ := Aside0.mk (Kd.R_drew HO180.out)
 have n2_ := Aside0.mk (Kd.R_drew HO192.out)
 have n3_ := Aside0.mk (blk_drew BK172.out)
 have n4_ := Aside0.mk (blk_drew BK182.out)
 have n5_ := Aside0.mk (blk_drew BK189.out)
 have n6_ := Aside0.mk (blk_drew BK193.out)
 have n7_ := Aside0.mk (blk_drew BK200.out)
 have n8_ := Aside0.mk (below_drew1 HB.out)
 clear HO170
 clear HO180
 clear HO192
 clear BK172
 clear BK182
 clear BK189
 clear BK193
 clear BK200
 clear HB
 have HO170 := n0_
 have HO180 := n1_
 have HO192 := n2_
 have BK172 := n3_
 have BK182 := n4_
 have BK189 := n5_
 have BK193 := n6_
 have BK200 := n7_
 have HB := n8_
 clear n0_ n1_ n2_ n3_ n4_ n5_ n6_ n7_ n8_
 refine start_ (n := 9) (S := fun w' => w'.cell? ⟨gb193, 0, none⟩ = some (.slice Ao47 t190.length co47)) (ds := []) #[false, false, false, false, false, false, false, false, false] (by kernel_rfl) rfl rfl ((blk_cell BK193.out 0).trans rfl) (fun hHeld => ?_); refine with_tabW slotmeshlaw27_head.tab6 slotmeshlaw27_head.bits6 (fun HT_ HW_ => ?_)
 generalize w59.drew = w60 at HO170 HO180 HO192 BK172 BK182 BK189 BK193 BK200 HB hHeld ⊢
 refine take_ (i := 0) (N := some 41) (v := ?_) (a' := ?_) #[true, false, false, false, false, false, false, false, false] rfl rfl (take_ofW HT_.out HW_.out (by kernel_rfl)) (fun _ _ _ h => h) (Or.inl ⟨by rfl, ?_⟩) hHeld ?_ ?_
 rotate_left
 ·intro w' s0
  go_simp
  with_reducible rfl
 rotate_left
 ·simp only [Act.put, List.setIfInBounds_toArray, List.set_cons_zero, List.set_cons_succ, i64_w, i32_w]
  rfl
 refine join_ (σ := Value × Nat) 2 #[true, true, true, true, true, true, true, false, false] (fun s_ => [(42, .agg #[.int .i64 t201, .int .i64 t202, .int .i64 t203, .int .i64 t204, .int .i64 t205]), (43, .tuple #[.agg #[s_.1], .int .i64 t209]), (10, .pointer (some ⟨s_.2, 0, none⟩)), (40, .tuple #[.agg #[s_.1], .int .i64 t209]), (44, .agg #[s_.1]), (45, .int .i64 t209)]) (fun s_ w' => (w'.cell? ⟨gb193, 0, none⟩ = some (.slice Ao47 t190.length co47)) ∧ (Kd.R k26 26 w' w.heap.size (fun k_ => some k_ ≠ (.slice Ao34 t178.length co34 : Value).ownBlock ∧ some k_ ≠ (.slice Ao47 t190.length co47 : Value).ownBlock ∧ some k_ ≠ (s_.1 : Value).ownBlock ∧ k_ ≠ gb189 ∧ k_ ≠ gb200) (.slice Ao26 t168.length co26) t168) ∧ (Kd.R k26 26 w' w.heap.size (fun k_ => some k_ ≠ (.slice Ao26 t168.length co26 : Value).ownBlock ∧ some k_ ≠ (.slice Ao47 t190.length co47 : Value).ownBlock ∧ some k_ ≠ (s_.1 : Value).ownBlock ∧ k_ ≠ gb189 ∧ k_ ≠ gb200) (.slice Ao34 t178.length co34) t178) ∧ (Kd.R k26 26 w' w.heap.size (fun k_ => some k_ ≠ (.slice Ao26 t168.length co26 : Value).ownBlock ∧ some k_ ≠ (.slice Ao34 t178.length co34 : Value).ownBlock ∧ some k_ ≠ (s_.1 : Value).ownBlock ∧ k_ ≠ gb189 ∧ k_ ≠ gb200) (.slice Ao47 t190.length co47) t190) ∧ (Kd.R k26 26 w' w.heap.size (fun k_ => some k_ ≠ (.slice Ao26 t168.length co26 : Value).ownBlock ∧ some k_ ≠ (.slice Ao34 t178.length co34 : Value).ownBlock ∧ some k_ ≠ (.slice Ao47 t190.length co47 : Value).ownBlock ∧ k_ ≠ gb189 ∧ k_ ≠ gb200) s_.1 t206) ∧ (w'.heap[gb172]? = some (.cells #[.slice Ao26 t168.length co26] 24 (0, 0))) ∧ (w'.heap[gb182]? = some (.cells #[.slice Ao34 t178.length co34] 24 (0, 0))) ∧ (w'.heap[gb189]? = some (.cells #[.int .i64 t183, .int .i64 t184, .int .i64 t185, .int .i64 t186, .int .i64 t187] 26 (0, 0))) ∧ (w'.heap[gb193]? = some (.cells #[.slice Ao47 t190.length co47] 24 (0, 0))) ∧ (w'.heap[gb200]? = some (.cells #[.int .i64 t194, .int .i64 t195, .int .i64 t196, .int .i64 t197, .int .i64 t198] 26 (0, 0))) ∧ (w'.heap[s_.2]? = some (.cells #[.slice none 0 0] 24 (0, 0))) ∧ (w.heap.size ≤ s_.2) ∧ (w.heap.size ≤ s_.2) ∧ (gb172 ≠ s_.2) ∧ (s_.2 ≠ gb172) ∧ (gb182 ≠ s_.2) ∧ (s_.2 ≠ gb182) ∧ (gb189 ≠ s_.2) ∧ (s_.2 ≠ gb189) ∧ (gb193 ≠ s_.2) ∧ (s_.2 ≠ gb193) ∧ (gb200 ≠ s_.2) ∧ (s_.2 ≠ gb200) ∧ (Below w.heap.size w w')) ?_ ?_
 rotate_left
 ·intro hCont
  refine two_ (i := 1) (j := 6) (Ni := some 42) (Nj := some 10) #[true, true, false, false, false, false, false, false, false] #[true, false, false, false, false, false, true, false, false] rfl rfl rfl rfl (two_of HT_.out (by kernel_rfl)) (by decide) (by decide) (fun K hK => ?_) (fun K hK => ?_)
  ·skip
   refine goes_ Try.func23 (by kernel_rfl) rfl #[.int .i64 2, .int .i64 2] (by rfl) rfl rfl (by (try simp only [List.map_toArray, List.map_cons, List.map_nil]); first | done | rfl | (simp only [List.length_drop, List.length_take]; rfl)) ?_
   with_reducible refine (slotmeshlaw27_reading.calls 2 2 t201 t202 t203 t204 t205 _ A8.out).mono ?_
   rintro e w61 ⟨rfl, hb⟩
   refine ⟨_, rfl, ?_⟩
   have n0_ := Aside0.mk (Kd.R_below (by with_reducible exact HO170.out) hb)
   have n1_ := Aside0.mk (Kd.R_below (by with_reducible exact HO180.out) hb)
   have n2_ := Aside0.mk (Kd.R_below (by with_reducible exact HO192.out) hb)
   have n3_ := Aside0.mk (blk_below (g := gb172) (o := .cells #[.slice Ao26 t168.length co26] 24 (0, 0)) (by with_reducible exact BK172.out) hb)
   have n4_ := Aside0.mk (blk_below (g := gb182) (o := .cells #[.slice Ao34 t178.length co34] 24 (0, 0)) (by with_reducible exact BK182.out) hb)
   have n5_ := Aside0.mk (blk_below (g := gb189) (o := .cells #[.int .i64 t183, .int .i64 t184, .int .i64 t185, .int .i64 t186, .int .i64 t187] 26 (0, 0)) (by with_reducible exact BK189.out) hb)
   have n6_ := Aside0.mk (blk_below (g := gb193) (o := .cells #[.slice Ao47 t190.length co47] 24 (0, 0)) (by with_reducible exact BK193.out) hb)
   have n7_ := Aside0.mk (blk_below (g := gb200) (o := .cells #[.int .i64 t194, .int .i64 t195, .int .i64 t196, .int .i64 t197, .int .i64 t198] 26 (0, 0)) (by with_reducible exact BK200.out) hb)
   have n8_ := Aside0.mk (below_step (by with_reducible exact HB.out) hb)
   clear HO170
   clear HO180
   clear HO192
   clear BK172
   clear BK182
   clear BK189
   clear BK193
   clear BK200
   clear HB
   have HO170 := n0_
   have HO180 := n1_
   have HO192 := n2_
   have BK172 := n3_
   have BK182 := n4_
   have BK189 := n5_
   have BK193 := n6_
   have BK200 := n7_
   have HB := n8_
   clear n0_ n1_ n2_ n3_ n4_ n5_ n6_ n7_ n8_
   (try clear hb)
   (try clear hb2)
   (try clear hk)
   (try clear hi)
   refine hK.out _ _ ((blk_cell BK193.out 0).trans rfl) (fun hHeld => ?_)
   clear hK K
   refine norm_ (a' := ?_) ?_ ?_
   rotate_left
   ·show Act.put _ (some 42) _ = _
    simp only [Act.put, List.setIfInBounds_toArray, List.set_cons_zero, List.set_cons_succ, i64_w, i32_w]
    rfl
   refine two_ (i := 2) (j := 6) (Ni := some 43) (Nj := some 10) #[true, true, true, false, false, false, false, false, false] #[true, true, false, false, false, false, true, false, false] rfl rfl rfl rfl (two_of HT_.out (by kernel_rfl)) (by decide) (by decide) (fun K hK => ?_) (fun K hK => ?_)
   ·skip
    refine goes_ Try.func11 (by kernel_rfl) rfl #[.agg #[.slice Ao47 t190.length co47], .agg #[.int .i64 t201, .int .i64 t202, .int .i64 t203, .int .i64 t204, .int .i64 t205], .int .i64 1] (by rfl) rfl rfl (by (try simp only [List.map_toArray, List.map_cons, List.map_nil]); first | done | rfl | (simp only [List.length_drop, List.length_take]; rfl)) ?_
    with_reducible refine (queue_Put.calls 64 _ _ t190 t201 t202 t203 t204 t205 1 t206 t209 _ ?side1 ?side2 A9.out).mono ?_
    (case side1 => repeat (first | exact (Kd.R_reads' HO192.out).2.2 | (with_reducible refine Kd.C_alloc ?_ _) | (with_reducible refine Kd.C_drewN ?_ _) | (with_reducible refine Kd.C_drew ?_)))
    (case side2 => exact (Kd.R_reads' HO192.out).2.1)
    rintro e w62 ⟨v207, rfl, ho0, hb⟩
    refine ⟨_, rfl, ?_⟩
    have n0_ := Aside0.mk (Kd.R_elder' (by with_reducible exact HO170.out) (Kd.R_base ho0) hb)
    have n1_ := Aside0.mk (Kd.R_elder' (by with_reducible exact HO180.out) (Kd.R_base ho0) hb)
    have n2_ := Aside0.mk (Kd.R_elder' (by with_reducible exact HO192.out) (Kd.R_base ho0) hb)
    have n3_ := Aside0.mk (Kd.R_lower (Kd.R_newB (Kd.R_newB (Kd.R_new' (Kd.R_new' (Kd.R_new' ho0 (Kd.R_lt (by with_reducible exact HO170.out))) (Kd.R_lt (by with_reducible exact HO180.out))) (Kd.R_lt (by with_reducible exact HO192.out))) (g := gb189) (o := .cells #[.int .i64 t183, .int .i64 t184, .int .i64 t185, .int .i64 t186, .int .i64 t187] 26 (0, 0)) (by with_reducible exact BK189.out)) (g := gb200) (o := .cells #[.int .i64 t194, .int .i64 t195, .int .i64 t196, .int .i64 t197, .int .i64 t198] 26 (0, 0)) (by with_reducible exact BK200.out)) (below_size (by with_reducible exact HB.out)))
    have n4_ := Aside0.mk (blk_below (g := gb172) (o := .cells #[.slice Ao26 t168.length co26] 24 (0, 0)) (by with_reducible exact BK172.out) hb)
    have n5_ := Aside0.mk (blk_below (g := gb182) (o := .cells #[.slice Ao34 t178.length co34] 24 (0, 0)) (by with_reducible exact BK182.out) hb)
    have n6_ := Aside0.mk (blk_below (g := gb189) (o := .cells #[.int .i64 t183, .int .i64 t184, .int .i64 t185, .int .i64 t186, .int .i64 t187] 26 (0, 0)) (by with_reducible exact BK189.out) hb)
    have n7_ := Aside0.mk (blk_below (g := gb193) (o := .cells #[.slice Ao47 t190.length co47] 24 (0, 0)) (by with_reducible exact BK193.out) hb)
    have n8_ := Aside0.mk (blk_below (g := gb200) (o := .cells #[.int .i64 t194, .int .i64 t195, .int .i64 t196, .int .i64 t197, .int .i64 t198] 26 (0, 0)) (by with_reducible exact BK200.out) hb)
    have n9_ := Aside0.mk (below_step (by with_reducible exact HB.out) hb)
    clear HO170
    clear HO180
    clear HO192
    clear BK172
    clear BK182
    clear BK189
    clear BK193
    clear BK200
    clear HB
    have HO170 := n0_
    have HO180 := n1_
    have HO192 := n2_
    have HO208 := n3_
    have BK172 := n4_
    have BK182 := n5_
    have BK189 := n6_
    have BK193 := n7_
    have BK200 := n8_
    have HB := n9_
    clear n0_ n1_ n2_ n3_ n4_ n5_ n6_ n7_ n8_ n9_
    (try clear hb)
    (try clear hb2)
    (try clear hk)
    (try clear hi)
    (try clear ho0)
    refine hK.out _ _ ((blk_cell BK193.out 0).trans rfl) (fun hHeld => ?_)
    clear hK K
    refine norm_ (a' := ?_) ?_ ?_
    rotate_left
    ·show Act.put _ (some 43) _ = _
     simp only [Act.put, List.setIfInBounds_toArray, List.set_cons_zero, List.set_cons_succ, i64_w, i32_w]
     rfl
    refine pure_ (i := 3) (N := some 40) (v := ?_) (a' := ?_) #[true, true, true, true, false, false, false, false, false] rfl rfl (any_of HT_.out (by kernel_rfl)) (fun _ _ _ h => h) (Or.inl ⟨by rfl, ?_⟩) ?_ ?_
    rotate_left
    ·intro w'
     go_simp
     with_reducible rfl
    rotate_left
    ·simp only [Act.put, List.setIfInBounds_toArray, List.set_cons_zero, List.set_cons_succ, i64_w, i32_w]
     rfl
    refine pure_ (i := 4) (N := some 44) (v := ?_) (a' := ?_) #[true, true, true, true, true, false, false, false, false] rfl rfl (any_of HT_.out (by kernel_rfl)) (fun _ _ _ h => h) (Or.inl ⟨by rfl, ?_⟩) ?_ ?_
    rotate_left
    ·intro w'
     go_simp
     with_reducible rfl
    rotate_left
    ·simp only [Act.put, List.setIfInBounds_toArray, List.set_cons_zero, List.set_cons_succ, i64_w, i32_w]
     rfl
    refine pure_ (i := 5) (N := some 45) (v := ?_) (a' := ?_) #[true, true, true, true, true, true, false, false, false] rfl rfl (any_of HT_.out (by kernel_rfl)) (fun _ _ _ h => h) (Or.inl ⟨by rfl, ?_⟩) ?_ ?_
    rotate_left
    ·intro w'
     go_simp
     with_reducible rfl
    rotate_left
    ·simp only [Act.put, List.setIfInBounds_toArray, List.set_cons_zero, List.set_cons_succ, i64_w, i32_w]
     rfl
    refine one_ (i := 6) (N := some 10) #[true, true, true, true, true, true, true, false, false] rfl rfl (one_of HT_.out (by kernel_rfl)) (by decide) (fun K hK => ?_)
    refine box_step ?hg (N := 10) ?hd (cs := #[.slice none 0 0]) (t := 24) ?hr ?_; (case hd => rfl); (case hg => rfl); (case hr => first | (go_simp; done) | (go_simp; rfl))
    intro gb210 hg w63 hbox hb
    have n0_ := Aside0.mk (Kd.R_below (by with_reducible exact HO170.out) hb)
    have n1_ := Aside0.mk (Kd.R_below (by with_reducible exact HO180.out) hb)
    have n2_ := Aside0.mk (Kd.R_below (by with_reducible exact HO192.out) hb)
    have n3_ := Aside0.mk (Kd.R_below (by with_reducible exact HO208.out) hb)
    have n4_ := Aside0.mk (blk_below (g := gb172) (o := .cells #[.slice Ao26 t168.length co26] 24 (0, 0)) (by with_reducible exact BK172.out) hb)
    have n5_ := Aside0.mk (blk_below (g := gb182) (o := .cells #[.slice Ao34 t178.length co34] 24 (0, 0)) (by with_reducible exact BK182.out) hb)
    have n6_ := Aside0.mk (blk_below (g := gb189) (o := .cells #[.int .i64 t183, .int .i64 t184, .int .i64 t185, .int .i64 t186, .int .i64 t187] 26 (0, 0)) (by with_reducible exact BK189.out) hb)
    have n7_ := Aside0.mk (blk_below (g := gb193) (o := .cells #[.slice Ao47 t190.length co47] 24 (0, 0)) (by with_reducible exact BK193.out) hb)
    have n8_ := Aside0.mk (blk_below (g := gb200) (o := .cells #[.int .i64 t194, .int .i64 t195, .int .i64 t196, .int .i64 t197, .int .i64 t198] 26 (0, 0)) (by with_reducible exact BK200.out) hb)
    have n9_ := Aside0.mk (below_step (by with_reducible exact HB.out) hb)
    have n10_ := Aside0.mk (hbox)
    have n11_ := Aside0.mk ((by rw [hg]; exact (below_size (by with_reducible exact HB.out)) : w.heap.size ≤ gb210))
    have n12_ := Aside0.mk ((by rw [hg]; exact (below_size (by with_reducible exact HB.out)) : w.heap.size ≤ gb210))
    have n13_ := Aside0.mk ((by rw [hg]; exact Nat.ne_of_lt (blk_lt (g := gb172) (o := .cells #[.slice Ao26 t168.length co26] 24 (0, 0)) (by with_reducible exact BK172.out)) : gb172 ≠ gb210))
    have n14_ := Aside0.mk ((by rw [hg]; exact Nat.ne_of_gt (blk_lt (g := gb172) (o := .cells #[.slice Ao26 t168.length co26] 24 (0, 0)) (by with_reducible exact BK172.out)) : gb210 ≠ gb172))
    have n15_ := Aside0.mk ((by rw [hg]; exact Nat.ne_of_lt (blk_lt (g := gb182) (o := .cells #[.slice Ao34 t178.length co34] 24 (0, 0)) (by with_reducible exact BK182.out)) : gb182 ≠ gb210))
    have n16_ := Aside0.mk ((by rw [hg]; exact Nat.ne_of_gt (blk_lt (g := gb182) (o := .cells #[.slice Ao34 t178.length co34] 24 (0, 0)) (by with_reducible exact BK182.out)) : gb210 ≠ gb182))
    have n17_ := Aside0.mk ((by rw [hg]; exact Nat.ne_of_lt (blk_lt (g := gb189) (o := .cells #[.int .i64 t183, .int .i64 t184, .int .i64 t185, .int .i64 t186, .int .i64 t187] 26 (0, 0)) (by with_reducible exact BK189.out)) : gb189 ≠ gb210))
    have n18_ := Aside0.mk ((by rw [hg]; exact Nat.ne_of_gt (blk_lt (g := gb189) (o := .cells #[.int .i64 t183, .int .i64 t184, .int .i64 t185, .int .i64 t186, .int .i64 t187] 26 (0, 0)) (by with_reducible exact BK189.out)) : gb210 ≠ gb189))
    have n19_ := Aside0.mk ((by rw [hg]; exact Nat.ne_of_lt (blk_lt (g := gb193) (o := .cells #[.slice Ao47 t190.length co47] 24 (0, 0)) (by with_reducible exact BK193.out)) : gb193 ≠ gb210))
    have n20_ := Aside0.mk ((by rw [hg]; exact Nat.ne_of_gt (blk_lt (g := gb193) (o := .cells #[.slice Ao47 t190.length co47] 24 (0, 0)) (by with_reducible exact BK193.out)) : gb210 ≠ gb193))
    have n21_ := Aside0.mk ((by rw [hg]; exact Nat.ne_of_lt (blk_lt (g := gb200) (o := .cells #[.int .i64 t194, .int .i64 t195, .int .i64 t196, .int .i64 t197, .int .i64 t198] 26 (0, 0)) (by with_reducible exact BK200.out)) : gb200 ≠ gb210))
    have n22_ := Aside0.mk ((by rw [hg]; exact Nat.ne_of_gt (blk_lt (g := gb200) (o := .cells #[.int .i64 t194, .int .i64 t195, .int .i64 t196, .int .i64 t197, .int .i64 t198] 26 (0, 0)) (by with_reducible exact BK200.out)) : gb210 ≠ gb200))
    clear HO170
    clear HO180
    clear HO192
    clear HO208
    clear BK172
    clear BK182
    clear BK189
    clear BK193
    clear BK200
    clear HB
    have HO170 := n0_
    have HO180 := n1_
    have HO192 := n2_
    have HO208 := n3_
    have BK172 := n4_
    have BK182 := n5_
    have BK189 := n6_
    have BK193 := n7_
    have BK200 := n8_
    have HB := n9_
    have BK210 := n10_
    have GW210 := n11_
    have GE210 := n12_
    have NB172_210 := n13_
    have NB210_172 := n14_
    have NB182_210 := n15_
    have NB210_182 := n16_
    have NB189_210 := n17_
    have NB210_189 := n18_
    have NB193_210 := n19_
    have NB210_193 := n20_
    have NB200_210 := n21_
    have NB210_200 := n22_
    clear n0_ n1_ n2_ n3_ n4_ n5_ n6_ n7_ n8_ n9_ n10_ n11_ n12_ n13_ n14_ n15_ n16_ n17_ n18_ n19_ n20_ n21_ n22_
    clear hb hbox hg
    refine hK.out _ _ ((blk_cell BK193.out 0).trans rfl) (fun hHeld => ?_)
    clear hK K
    refine norm_ (a' := ?_) ?_ ?_
    rotate_left
    ·show Act.put _ (some 10) _ = _
     simp only [Act.put, List.setIfInBounds_toArray, List.set_cons_zero, List.set_cons_succ, i64_w, i32_w]
     rfl
    exact norm_ (by simp only [putAll, Act.put, List.setIfInBounds_toArray, List.set_cons_zero, List.set_cons_succ]) (hCont (v207, gb210) _ ⟨hHeld, (by (with_reducible repeat (first | apply Kd.R_alloc | apply Kd.R_drewN | apply Kd.R_drew)); exact Kd.R_mono HO170.out (fun _ hk => ⟨hk.1.1, ⟨hk.1.2.1, ⟨hk.2, ⟨hk.1.2.2.1, hk.1.2.2.2⟩⟩⟩⟩)), (by (with_reducible repeat (first | apply Kd.R_alloc | apply Kd.R_drewN | apply Kd.R_drew)); exact Kd.R_mono HO180.out (fun _ hk => ⟨hk.1.1, ⟨hk.1.2.1, ⟨hk.2, ⟨hk.1.2.2.1, hk.1.2.2.2⟩⟩⟩⟩)), (by (with_reducible repeat (first | apply Kd.R_alloc | apply Kd.R_drewN | apply Kd.R_drew)); exact Kd.R_mono HO192.out (fun _ hk => ⟨hk.1.1, ⟨hk.1.2.1, ⟨hk.2, ⟨hk.1.2.2.1, hk.1.2.2.2⟩⟩⟩⟩)), (by (with_reducible repeat (first | apply Kd.R_alloc | apply Kd.R_drewN | apply Kd.R_drew)); exact Kd.R_mono HO208.out (fun _ hk => ⟨hk.1.1.1.1.2, ⟨hk.1.1.1.2, ⟨hk.1.1.2, ⟨hk.1.2, hk.2⟩⟩⟩⟩)), (by with_reducible exact BK172.out), (by with_reducible exact BK182.out), (by with_reducible exact BK189.out), (by with_reducible exact BK193.out), (by with_reducible exact BK200.out), (by with_reducible exact BK210.out), GW210.out, GE210.out, NB172_210.out, NB210_172.out, NB182_210.out, NB210_182.out, NB189_210.out, NB210_189.out, NB193_210.out, NB210_193.out, NB200_210.out, NB210_200.out, (by with_reducible exact HB.out)⟩)
   ·skip
    refine box_step ?hg (N := 10) ?hd (cs := #[.slice none 0 0]) (t := 24) ?hr ?_; (case hd => rfl); (case hg => rfl); (case hr => first | (go_simp; done) | (go_simp; rfl))
    intro gb210 hg w62 hbox hb
    have n0_ := Aside0.mk (Kd.R_below (by with_reducible exact HO170.out) hb)
    have n1_ := Aside0.mk (Kd.R_below (by with_reducible exact HO180.out) hb)
    have n2_ := Aside0.mk (Kd.R_below (by with_reducible exact HO192.out) hb)
    have n3_ := Aside0.mk (blk_below (g := gb172) (o := .cells #[.slice Ao26 t168.length co26] 24 (0, 0)) (by with_reducible exact BK172.out) hb)
    have n4_ := Aside0.mk (blk_below (g := gb182) (o := .cells #[.slice Ao34 t178.length co34] 24 (0, 0)) (by with_reducible exact BK182.out) hb)
    have n5_ := Aside0.mk (blk_below (g := gb189) (o := .cells #[.int .i64 t183, .int .i64 t184, .int .i64 t185, .int .i64 t186, .int .i64 t187] 26 (0, 0)) (by with_reducible exact BK189.out) hb)
    have n6_ := Aside0.mk (blk_below (g := gb193) (o := .cells #[.slice Ao47 t190.length co47] 24 (0, 0)) (by with_reducible exact BK193.out) hb)
    have n7_ := Aside0.mk (blk_below (g := gb200) (o := .cells #[.int .i64 t194, .int .i64 t195, .int .i64 t196, .int .i64 t197, .int .i64 t198] 26 (0, 0)) (by with_reducible exact BK200.out) hb)
    have n8_ := Aside0.mk (below_step (by with_reducible exact HB.out) hb)
    have n9_ := Aside0.mk (hbox)
    have n10_ := Aside0.mk ((by rw [hg]; exact (below_size (by with_reducible exact HB.out)) : w.heap.size ≤ gb210))
    have n11_ := Aside0.mk ((by rw [hg]; exact (below_size (by with_reducible exact HB.out)) : w.heap.size ≤ gb210))
    have n12_ := Aside0.mk ((by rw [hg]; exact Nat.ne_of_lt (blk_lt (g := gb172) (o := .cells #[.slice Ao26 t168.length co26] 24 (0, 0)) (by with_reducible exact BK172.out)) : gb172 ≠ gb210))
    have n13_ := Aside0.mk ((by rw [hg]; exact Nat.ne_of_gt (blk_lt (g := gb172) (o := .cells #[.slice Ao26 t168.length co26] 24 (0, 0)) (by with_reducible exact BK172.out)) : gb210 ≠ gb172))
    have n14_ := Aside0.mk ((by rw [hg]; exact Nat.ne_of_lt (blk_lt (g := gb182) (o := .cells #[.slice Ao34 t178.length co34] 24 (0, 0)) (by with_reducible exact BK182.out)) : gb182 ≠ gb210))
    have n15_ := Aside0.mk ((by rw [hg]; exact Nat.ne_of_gt (blk_lt (g := gb182) (o := .cells #[.slice Ao34 t178.length co34] 24 (0, 0)) (by with_reducible exact BK182.out)) : gb210 ≠ gb182))
    have n16_ := Aside0.mk ((by rw [hg]; exact Nat.ne_of_lt (blk_lt (g := gb189) (o := .cells #[.int .i64 t183, .int .i64 t184, .int .i64 t185, .int .i64 t186, .int .i64 t187] 26 (0, 0)) (by with_reducible exact BK189.out)) : gb189 ≠ gb210))
    have n17_ := Aside0.mk ((by rw [hg]; exact Nat.ne_of_gt (blk_lt (g := gb189) (o := .cells #[.int .i64 t183, .int .i64 t184, .int .i64 t185, .int .i64 t186, .int .i64 t187] 26 (0, 0)) (by with_reducible exact BK189.out)) : gb210 ≠ gb189))
    have n18_ := Aside0.mk ((by rw [hg]; exact Nat.ne_of_lt (blk_lt (g := gb193) (o := .cells #[.slice Ao47 t190.length co47] 24 (0, 0)) (by with_reducible exact BK193.out)) : gb193 ≠ gb210))
    have n19_ := Aside0.mk ((by rw [hg]; exact Nat.ne_of_gt (blk_lt (g := gb193) (o := .cells #[.slice Ao47 t190.length co47] 24 (0, 0)) (by with_reducible exact BK193.out)) : gb210 ≠ gb193))
    have n20_ := Aside0.mk ((by rw [hg]; exact Nat.ne_of_lt (blk_lt (g := gb200) (o := .cells #[.int .i64 t194, .int .i64 t195, .int .i64 t196, .int .i64 t197, .int .i64 t198] 26 (0, 0)) (by with_reducible exact BK200.out)) : gb200 ≠ gb210))
    have n21_ := Aside0.mk ((by rw [hg]; exact Nat.ne_of_gt (blk_lt (g := gb200) (o := .cells #[.int .i64 t194, .int .i64 t195, .int .i64 t196, .int .i64 t197, .int .i64 t198] 26 (0, 0)) (by with_reducible exact BK200.out)) : gb210 ≠ gb200))
    clear HO170
    clear HO180
    clear HO192
    clear BK172
    clear BK182
    clear BK189
    clear BK193
    clear BK200
    clear HB
    have HO170 := n0_
    have HO180 := n1_
    have HO192 := n2_
    have BK172 := n3_
    have BK182 := n4_
    have BK189 := n5_
    have BK193 := n6_
    have BK200 := n7_
    have HB := n8_
    have BK210 := n9_
    have GW210 := n10_
    have GE210 := n11_
    have NB172_210 := n12_
    have NB210_172 := n13_
    have NB182_210 := n14_
    have NB210_182 := n15_
    have NB189_210 := n16_
    have NB210_189 := n17_
    have NB193_210 := n18_
    have NB210_193 := n19_
    have NB200_210 := n20_
    have NB210_200 := n21_
    clear n0_ n1_ n2_ n3_ n4_ n5_ n6_ n7_ n8_ n9_ n10_ n11_ n12_ n13_ n14_ n15_ n16_ n17_ n18_ n19_ n20_ n21_
    clear hb hbox hg
    refine hK.out _ _ ((blk_cell BK193.out 0).trans rfl) (fun hHeld => ?_)
    clear hK K
    refine norm_ (a' := ?_) ?_ ?_
    rotate_left
    ·show Act.put _ (some 10) _ = _
     simp only [Act.put, List.setIfInBounds_toArray, List.set_cons_zero, List.set_cons_succ, i64_w, i32_w]
     rfl
    refine one_ (i := 2) (N := some 43) #[true, true, true, false, false, false, true, false, false] rfl rfl (one_of HT_.out (by kernel_rfl)) (by decide) (fun K hK => ?_)
    refine goes_ Try.func11 (by kernel_rfl) rfl #[.agg #[.slice Ao47 t190.length co47], .agg #[.int .i64 t201, .int .i64 t202, .int .i64 t203, .int .i64 t204, .int .i64 t205], .int .i64 1] (by rfl) rfl rfl (by (try simp only [List.map_toArray, List.map_cons, List.map_nil]); first | done | rfl | (simp only [List.length_drop, List.length_take]; rfl)) ?_
    with_reducible refine (queue_Put.calls 64 _ _ t190 t201 t202 t203 t204 t205 1 t206 t209 _ ?side1 ?side2 A9.out).mono ?_
    (case side1 => repeat (first | exact (Kd.R_reads' HO192.out).2.2 | (with_reducible refine Kd.C_alloc ?_ _) | (with_reducible refine Kd.C_drewN ?_ _) | (with_reducible refine Kd.C_drew ?_)))
    (case side2 => exact (Kd.R_reads' HO192.out).2.1)
    rintro e w63 ⟨v207, rfl, ho0, hb⟩
    refine ⟨_, rfl, ?_⟩
    have n0_ := Aside0.mk (Kd.R_elder' (by with_reducible exact HO170.out) (Kd.R_base ho0) hb)
    have n1_ := Aside0.mk (Kd.R_elder' (by with_reducible exact HO180.out) (Kd.R_base ho0) hb)
    have n2_ := Aside0.mk (Kd.R_elder' (by with_reducible exact HO192.out) (Kd.R_base ho0) hb)
    have n3_ := Aside0.mk (Kd.R_lower (Kd.R_newB (Kd.R_newB (Kd.R_new' (Kd.R_new' (Kd.R_new' ho0 (Kd.R_lt (by with_reducible exact HO170.out))) (Kd.R_lt (by with_reducible exact HO180.out))) (Kd.R_lt (by with_reducible exact HO192.out))) (g := gb189) (o := .cells #[.int .i64 t183, .int .i64 t184, .int .i64 t185, .int .i64 t186, .int .i64 t187] 26 (0, 0)) (by with_reducible exact BK189.out)) (g := gb200) (o := .cells #[.int .i64 t194, .int .i64 t195, .int .i64 t196, .int .i64 t197, .int .i64 t198] 26 (0, 0)) (by with_reducible exact BK200.out)) (below_size (by with_reducible exact HB.out)))
    have n4_ := Aside0.mk (blk_below (g := gb172) (o := .cells #[.slice Ao26 t168.length co26] 24 (0, 0)) (by with_reducible exact BK172.out) hb)
    have n5_ := Aside0.mk (blk_below (g := gb182) (o := .cells #[.slice Ao34 t178.length co34] 24 (0, 0)) (by with_reducible exact BK182.out) hb)
    have n6_ := Aside0.mk (blk_below (g := gb189) (o := .cells #[.int .i64 t183, .int .i64 t184, .int .i64 t185, .int .i64 t186, .int .i64 t187] 26 (0, 0)) (by with_reducible exact BK189.out) hb)
    have n7_ := Aside0.mk (blk_below (g := gb193) (o := .cells #[.slice Ao47 t190.length co47] 24 (0, 0)) (by with_reducible exact BK193.out) hb)
    have n8_ := Aside0.mk (blk_below (g := gb200) (o := .cells #[.int .i64 t194, .int .i64 t195, .int .i64 t196, .int .i64 t197, .int .i64 t198] 26 (0, 0)) (by with_reducible exact BK200.out) hb)
    have n9_ := Aside0.mk (blk_below (g := gb210) (o := .cells #[.slice none 0 0] 24 (0, 0)) (by with_reducible exact BK210.out) hb)
    have n10_ := Aside0.mk (below_step (by with_reducible exact HB.out) hb)
    clear HO170
    clear HO180
    clear HO192
    clear BK172
    clear BK182
    clear BK189
    clear BK193
    clear BK200
    clear BK210
    clear HB
    have HO170 := n0_
    have HO180 := n1_
    have HO192 := n2_
    have HO208 := n3_
    have BK172 := n4_
    have BK182 := n5_
    have BK189 := n6_
    have BK193 := n7_
    have BK200 := n8_
    have BK210 := n9_
    have HB := n10_
    clear n0_ n1_ n2_ n3_ n4_ n5_ n6_ n7_ n8_ n9_ n10_
    (try clear hb)
    (try clear hb2)
    (try clear hk)
    (try clear hi)
    (try clear ho0)
    refine hK.out _ _ ((blk_cell BK193.out 0).trans rfl) (fun hHeld => ?_)
    clear hK K
    refine norm_ (a' := ?_) ?_ ?_
    rotate_left
    ·show Act.put _ (some 43) _ = _
     simp only [Act.put, List.setIfInBounds_toArray, List.set_cons_zero, List.set_cons_succ, i64_w, i32_w]
     rfl
    refine pure_ (i := 3) (N := some 40) (v := ?_) (a' := ?_) #[true, true, true, true, false, false, true, false, false] rfl rfl (any_of HT_.out (by kernel_rfl)) (fun _ _ _ h => h) (Or.inl ⟨by rfl, ?_⟩) ?_ ?_
    rotate_left
    ·intro w'
     go_simp
     with_reducible rfl
    rotate_left
    ·simp only [Act.put, List.setIfInBounds_toArray, List.set_cons_zero, List.set_cons_succ, i64_w, i32_w]
     rfl
    refine pure_ (i := 4) (N := some 44) (v := ?_) (a' := ?_) #[true, true, true, true, true, false, true, false, false] rfl rfl (any_of HT_.out (by kernel_rfl)) (fun _ _ _ h => h) (Or.inl ⟨by rfl, ?_⟩) ?_ ?_
    rotate_left
    ·intro w'
     go_simp
     with_reducible rfl
    rotate_left
    ·simp only [Act.put, List.setIfInBounds_toArray, List.set_cons_zero, List.set_cons_succ, i64_w, i32_w]
     rfl
    refine pure_ (i := 5) (N := some 45) (v := ?_) (a' := ?_) #[true, true, true, true, true, true, true, false, false] rfl rfl (any_of HT_.out (by kernel_rfl)) (fun _ _ _ h => h) (Or.inl ⟨by rfl, ?_⟩) ?_ ?_
    rotate_left
    ·intro w'
     go_simp
     with_reducible rfl
    rotate_left
    ·simp only [Act.put, List.setIfInBounds_toArray, List.set_cons_zero, List.set_cons_succ, i64_w, i32_w]
     rfl
    exact norm_ (by simp only [putAll, Act.put, List.setIfInBounds_toArray, List.set_cons_zero, List.set_cons_succ]) (hCont (v207, gb210) _ ⟨hHeld, (by (with_reducible repeat (first | apply Kd.R_alloc | apply Kd.R_drewN | apply Kd.R_drew)); exact Kd.R_mono HO170.out (fun _ hk => ⟨hk.1.1, ⟨hk.1.2.1, ⟨hk.2, ⟨hk.1.2.2.1, hk.1.2.2.2⟩⟩⟩⟩)), (by (with_reducible repeat (first | apply Kd.R_alloc | apply Kd.R_drewN | apply Kd.R_drew)); exact Kd.R_mono HO180.out (fun _ hk => ⟨hk.1.1, ⟨hk.1.2.1, ⟨hk.2, ⟨hk.1.2.2.1, hk.1.2.2.2⟩⟩⟩⟩)), (by (with_reducible repeat (first | apply Kd.R_alloc | apply Kd.R_drewN | apply Kd.R_drew)); exact Kd.R_mono HO192.out (fun _ hk => ⟨hk.1.1, ⟨hk.1.2.1, ⟨hk.2, ⟨hk.1.2.2.1, hk.1.2.2.2⟩⟩⟩⟩)), (by (with_reducible repeat (first | apply Kd.R_alloc | apply Kd.R_drewN | apply Kd.R_drew)); exact Kd.R_mono HO208.out (fun _ hk => ⟨hk.1.1.1.1.2, ⟨hk.1.1.1.2, ⟨hk.1.1.2, ⟨hk.1.2, hk.2⟩⟩⟩⟩)), (by with_reducible exact BK172.out), (by with_reducible exact BK182.out), (by with_reducible exact BK189.out), (by with_reducible exact BK193.out), (by with_reducible exact BK200.out), (by with_reducible exact BK210.out), GW210.out, GE210.out, NB172_210.out, NB210_172.out, NB182_210.out, NB210_182.out, NB189_210.out, NB210_189.out, NB193_210.out, NB210_193.out, NB200_210.out, NB210_200.out, (by with_reducible exact HB.out)⟩)
  ·skip
   refine box_step ?hg (N := 10) ?hd (cs := #[.slice none 0 0]) (t := 24) ?hr ?_; (case hd => rfl); (case hg => rfl); (case hr => first | (go_simp; done) | (go_simp; rfl))
   intro gb210 hg w61 hbox hb
   have n0_ := Aside0.mk (Kd.R_below (by with_reducible exact HO170.out) hb)
   have n1_ := Aside0.mk (Kd.R_below (by with_reducible exact HO180.out) hb)
   have n2_ := Aside0.mk (Kd.R_below (by with_reducible exact HO192.out) hb)
   have n3_ := Aside0.mk (blk_below (g := gb172) (o := .cells #[.slice Ao26 t168.length co26] 24 (0, 0)) (by with_reducible exact BK172.out) hb)
   have n4_ := Aside0.mk (blk_below (g := gb182) (o := .cells #[.slice Ao34 t178.length co34] 24 (0, 0)) (by with_reducible exact BK182.out) hb)
   have n5_ := Aside0.mk (blk_below (g := gb189) (o := .cells #[.int .i64 t183, .int .i64 t184, .int .i64 t185, .int .i64 t186, .int .i64 t187] 26 (0, 0)) (by with_reducible exact BK189.out) hb)
   have n6_ := Aside0.mk (blk_below (g := gb193) (o := .cells #[.slice Ao47 t190.length co47] 24 (0, 0)) (by with_reducible exact BK193.out) hb)
   have n7_ := Aside0.mk (blk_below (g := gb200) (o := .cells #[.int .i64 t194, .int .i64 t195, .int .i64 t196, .int .i64 t197, .int .i64 t198] 26 (0, 0)) (by with_reducible exact BK200.out) hb)
   have n8_ := Aside0.mk (below_step (by with_reducible exact HB.out) hb)
   have n9_ := Aside0.mk (hbox)
   have n10_ := Aside0.mk ((by rw [hg]; exact (below_size (by with_reducible exact HB.out)) : w.heap.size ≤ gb210))
   have n11_ := Aside0.mk ((by rw [hg]; exact (below_size (by with_reducible exact HB.out)) : w.heap.size ≤ gb210))
   have n12_ := Aside0.mk ((by rw [hg]; exact Nat.ne_of_lt (blk_lt (g := gb172) (o := .cells #[.slice Ao26 t168.length co26] 24 (0, 0)) (by with_reducible exact BK172.out)) : gb172 ≠ gb210))
   have n13_ := Aside0.mk ((by rw [hg]; exact Nat.ne_of_gt (blk_lt (g := gb172) (o := .cells #[.slice Ao26 t168.length co26] 24 (0, 0)) (by with_reducible exact BK172.out)) : gb210 ≠ gb172))
   have n14_ := Aside0.mk ((by rw [hg]; exact Nat.ne_of_lt (blk_lt (g := gb182) (o := .cells #[.slice Ao34 t178.length co34] 24 (0, 0)) (by with_reducible exact BK182.out)) : gb182 ≠ gb210))
   have n15_ := Aside0.mk ((by rw [hg]; exact Nat.ne_of_gt (blk_lt (g := gb182) (o := .cells #[.slice Ao34 t178.length co34] 24 (0, 0)) (by with_reducible exact BK182.out)) : gb210 ≠ gb182))
   have n16_ := Aside0.mk ((by rw [hg]; exact Nat.ne_of_lt (blk_lt (g := gb189) (o := .cells #[.int .i64 t183, .int .i64 t184, .int .i64 t185, .int .i64 t186, .int .i64 t187] 26 (0, 0)) (by with_reducible exact BK189.out)) : gb189 ≠ gb210))
   have n17_ := Aside0.mk ((by rw [hg]; exact Nat.ne_of_gt (blk_lt (g := gb189) (o := .cells #[.int .i64 t183, .int .i64 t184, .int .i64 t185, .int .i64 t186, .int .i64 t187] 26 (0, 0)) (by with_reducible exact BK189.out)) : gb210 ≠ gb189))
   have n18_ := Aside0.mk ((by rw [hg]; exact Nat.ne_of_lt (blk_lt (g := gb193) (o := .cells #[.slice Ao47 t190.length co47] 24 (0, 0)) (by with_reducible exact BK193.out)) : gb193 ≠ gb210))
   have n19_ := Aside0.mk ((by rw [hg]; exact Nat.ne_of_gt (blk_lt (g := gb193) (o := .cells #[.slice Ao47 t190.length co47] 24 (0, 0)) (by with_reducible exact BK193.out)) : gb210 ≠ gb193))
   have n20_ := Aside0.mk ((by rw [hg]; exact Nat.ne_of_lt (blk_lt (g := gb200) (o := .cells #[.int .i64 t194, .int .i64 t195, .int .i64 t196, .int .i64 t197, .int .i64 t198] 26 (0, 0)) (by with_reducible exact BK200.out)) : gb200 ≠ gb210))
   have n21_ := Aside0.mk ((by rw [hg]; exact Nat.ne_of_gt (blk_lt (g := gb200) (o := .cells #[.int .i64 t194, .int .i64 t195, .int .i64 t196, .int .i64 t197, .int .i64 t198] 26 (0, 0)) (by with_reducible exact BK200.out)) : gb210 ≠ gb200))
   clear HO170
   clear HO180
   clear HO192
   clear BK172
   clear BK182
   clear BK189
   clear BK193
   clear BK200
   clear HB
   have HO170 := n0_
   have HO180 := n1_
   have HO192 := n2_
   have BK172 := n3_
   have BK182 := n4_
   have BK189 := n5_
   have BK193 := n6_
   have BK200 := n7_
   have HB := n8_
   have BK210 := n9_
   have GW210 := n10_
   have GE210 := n11_
   have NB172_210 := n12_
   have NB210_172 := n13_
   have NB182_210 := n14_
   have NB210_182 := n15_
   have NB189_210 := n16_
   have NB210_189 := n17_
   have NB193_210 := n18_
   have NB210_193 := n19_
   have NB200_210 := n20_
   have NB210_200 := n21_
   clear n0_ n1_ n2_ n3_ n4_ n5_ n6_ n7_ n8_ n9_ n10_ n11_ n12_ n13_ n14_ n15_ n16_ n17_ n18_ n19_ n20_ n21_
   clear hb hbox hg
   refine hK.out _ _ ((blk_cell BK193.out 0).trans rfl) (fun hHeld => ?_)
   clear hK K
   refine norm_ (a' := ?_) ?_ ?_
   rotate_left
   ·show Act.put _ (some 10) _ = _
    simp only [Act.put, List.setIfInBounds_toArray, List.set_cons_zero, List.set_cons_succ, i64_w, i32_w]
    rfl
   refine one_ (i := 1) (N := some 42) #[true, true, false, false, false, false, true, false, false] rfl rfl (one_of HT_.out (by kernel_rfl)) (by decide) (fun K hK => ?_)
   refine goes_ Try.func23 (by kernel_rfl) rfl #[.int .i64 2, .int .i64 2] (by rfl) rfl rfl (by (try simp only [List.map_toArray, List.map_cons, List.map_nil]); first | done | rfl | (simp only [List.length_drop, List.length_take]; rfl)) ?_
   with_reducible refine (slotmeshlaw27_reading.calls 2 2 t201 t202 t203 t204 t205 _ A8.out).mono ?_
   rintro e w62 ⟨rfl, hb⟩
   refine ⟨_, rfl, ?_⟩
   have n0_ := Aside0.mk (Kd.R_below (by with_reducible exact HO170.out) hb)
   have n1_ := Aside0.mk (Kd.R_below (by with_reducible exact HO180.out) hb)
   have n2_ := Aside0.mk (Kd.R_below (by with_reducible exact HO192.out) hb)
   have n3_ := Aside0.mk (blk_below (g := gb172) (o := .cells #[.slice Ao26 t168.length co26] 24 (0, 0)) (by with_reducible exact BK172.out) hb)
   have n4_ := Aside0.mk (blk_below (g := gb182) (o := .cells #[.slice Ao34 t178.length co34] 24 (0, 0)) (by with_reducible exact BK182.out) hb)
   have n5_ := Aside0.mk (blk_below (g := gb189) (o := .cells #[.int .i64 t183, .int .i64 t184, .int .i64 t185, .int .i64 t186, .int .i64 t187] 26 (0, 0)) (by with_reducible exact BK189.out) hb)
   have n6_ := Aside0.mk (blk_below (g := gb193) (o := .cells #[.slice Ao47 t190.length co47] 24 (0, 0)) (by with_reducible exact BK193.out) hb)
   have n7_ := Aside0.mk (blk_below (g := gb200) (o := .cells #[.int .i64 t194, .int .i64 t195, .int .i64 t196, .int .i64 t197, .int .i64 t198] 26 (0, 0)) (by with_reducible exact BK200.out) hb)
   have n8_ := Aside0.mk (blk_below (g := gb210) (o := .cells #[.slice none 0 0] 24 (0, 0)) (by with_reducible exact BK210.out) hb)
   have n9_ := Aside0.mk (below_step (by with_reducible exact HB.out) hb)
   clear HO170
   clear HO180
   clear HO192
   clear BK172
   clear BK182
   clear BK189
   clear BK193
   clear BK200
   clear BK210
   clear HB
   have HO170 := n0_
   have HO180 := n1_
   have HO192 := n2_
   have BK172 := n3_
   have BK182 := n4_
   have BK189 := n5_
   have BK193 := n6_
   have BK200 := n7_
   have BK210 := n8_
   have HB := n9_
   clear n0_ n1_ n2_ n3_ n4_ n5_ n6_ n7_ n8_ n9_
   (try clear hb)
   (try clear hb2)
   (try clear hk)
   (try clear hi)
   refine hK.out _ _ ((blk_cell BK193.out 0).trans rfl) (fun hHeld => ?_)
   clear hK K
   refine norm_ (a' := ?_) ?_ ?_
   rotate_left
   ·show Act.put _ (some 42) _ = _
    simp only [Act.put, List.setIfInBounds_toArray, List.set_cons_zero, List.set_cons_succ, i64_w, i32_w]
    rfl
   refine one_ (i := 2) (N := some 43) #[true, true, true, false, false, false, true, false, false] rfl rfl (one_of HT_.out (by kernel_rfl)) (by decide) (fun K hK => ?_)
   refine goes_ Try.func11 (by kernel_rfl) rfl #[.agg #[.slice Ao47 t190.length co47], .agg #[.int .i64 t201, .int .i64 t202, .int .i64 t203, .int .i64 t204, .int .i64 t205], .int .i64 1] (by rfl) rfl rfl (by (try simp only [List.map_toArray, List.map_cons, List.map_nil]); first | done | rfl | (simp only [List.length_drop, List.length_take]; rfl)) ?_
   with_reducible refine (queue_Put.calls 64 _ _ t190 t201 t202 t203 t204 t205 1 t206 t209 _ ?side1 ?side2 A9.out).mono ?_
   (case side1 => repeat (first | exact (Kd.R_reads' HO192.out).2.2 | (with_reducible refine Kd.C_alloc ?_ _) | (with_reducible refine Kd.C_drewN ?_ _) | (with_reducible refine Kd.C_drew ?_)))
   (case side2 => exact (Kd.R_reads' HO192.out).2.1)
   rintro e w63 ⟨v207, rfl, ho0, hb⟩
   refine ⟨_, rfl, ?_⟩
   have n0_ := Aside0.mk (Kd.R_elder' (by with_reducible exact HO170.out) (Kd.R_base ho0) hb)
   have n1_ := Aside0.mk (Kd.R_elder' (by with_reducible exact HO180.out) (Kd.R_base ho0) hb)
   have n2_ := Aside0.mk (Kd.R_elder' (by with_reducible exact HO192.out) (Kd.R_base ho0) hb)
   have n3_ := Aside0.mk (Kd.R_lower (Kd.R_newB (Kd.R_newB (Kd.R_new' (Kd.R_new' (Kd.R_new' ho0 (Kd.R_lt (by with_reducible exact HO170.out))) (Kd.R_lt (by with_reducible exact HO180.out))) (Kd.R_lt (by with_reducible exact HO192.out))) (g := gb189) (o := .cells #[.int .i64 t183, .int .i64 t184, .int .i64 t185, .int .i64 t186, .int .i64 t187] 26 (0, 0)) (by with_reducible exact BK189.out)) (g := gb200) (o := .cells #[.int .i64 t194, .int .i64 t195, .int .i64 t196, .int .i64 t197, .int .i64 t198] 26 (0, 0)) (by with_reducible exact BK200.out)) (below_size (by with_reducible exact HB.out)))
   have n4_ := Aside0.mk (blk_below (g := gb172) (o := .cells #[.slice Ao26 t168.length co26] 24 (0, 0)) (by with_reducible exact BK172.out) hb)
   have n5_ := Aside0.mk (blk_below (g := gb182) (o := .cells #[.slice Ao34 t178.length co34] 24 (0, 0)) (by with_reducible exact BK182.out) hb)
   have n6_ := Aside0.mk (blk_below (g := gb189) (o := .cells #[.int .i64 t183, .int .i64 t184, .int .i64 t185, .int .i64 t186, .int .i64 t187] 26 (0, 0)) (by with_reducible exact BK189.out) hb)
   have n7_ := Aside0.mk (blk_below (g := gb193) (o := .cells #[.slice Ao47 t190.length co47] 24 (0, 0)) (by with_reducible exact BK193.out) hb)
   have n8_ := Aside0.mk (blk_below (g := gb200) (o := .cells #[.int .i64 t194, .int .i64 t195, .int .i64 t196, .int .i64 t197, .int .i64 t198] 26 (0, 0)) (by with_reducible exact BK200.out) hb)
   have n9_ := Aside0.mk (blk_below (g := gb210) (o := .cells #[.slice none 0 0] 24 (0, 0)) (by with_reducible exact BK210.out) hb)
   have n10_ := Aside0.mk (below_step (by with_reducible exact HB.out) hb)
   clear HO170
   clear HO180
   clear HO192
   clear BK172
   clear BK182
   clear BK189
   clear BK193
   clear BK200
   clear BK210
   clear HB
   have HO170 := n0_
   have HO180 := n1_
   have HO192 := n2_
   have HO208 := n3_
   have BK172 := n4_
   have BK182 := n5_
   have BK189 := n6_
   have BK193 := n7_
   have BK200 := n8_
   have BK210 := n9_
   have HB := n10_
   clear n0_ n1_ n2_ n3_ n4_ n5_ n6_ n7_ n8_ n9_ n10_
   (try clear hb)
   (try clear hb2)
   (try clear hk)
   (try clear hi)
   (try clear ho0)
   refine hK.out _ _ ((blk_cell BK193.out 0).trans rfl) (fun hHeld => ?_)
   clear hK K
   refine norm_ (a' := ?_) ?_ ?_
   rotate_left
   ·show Act.put _ (some 43) _ = _
    simp only [Act.put, List.setIfInBounds_toArray, List.set_cons_zero, List.set_cons_succ, i64_w, i32_w]
    rfl
   refine pure_ (i := 3) (N := some 40) (v := ?_) (a' := ?_) #[true, true, true, true, false, false, true, false, false] rfl rfl (any_of HT_.out (by kernel_rfl)) (fun _ _ _ h => h) (Or.inl ⟨by rfl, ?_⟩) ?_ ?_
   rotate_left
   ·intro w'
    go_simp
    with_reducible rfl
   rotate_left
   ·simp only [Act.put, List.setIfInBounds_toArray, List.set_cons_zero, List.set_cons_succ, i64_w, i32_w]
    rfl
   refine pure_ (i := 4) (N := some 44) (v := ?_) (a' := ?_) #[true, true, true, true, true, false, true, false, false] rfl rfl (any_of HT_.out (by kernel_rfl)) (fun _ _ _ h => h) (Or.inl ⟨by rfl, ?_⟩) ?_ ?_
   rotate_left
   ·intro w'
    go_simp
    with_reducible rfl
   rotate_left
   ·simp only [Act.put, List.setIfInBounds_toArray, List.set_cons_zero, List.set_cons_succ, i64_w, i32_w]
    rfl
   refine pure_ (i := 5) (N := some 45) (v := ?_) (a' := ?_) #[true, true, true, true, true, true, true, false, false] rfl rfl (any_of HT_.out (by kernel_rfl)) (fun _ _ _ h => h) (Or.inl ⟨by rfl, ?_⟩) ?_ ?_
   rotate_left
   ·intro w'
    go_simp
    with_reducible rfl
   rotate_left
   ·simp only [Act.put, List.setIfInBounds_toArray, List.set_cons_zero, List.set_cons_succ, i64_w, i32_w]
    rfl
   exact norm_ (by simp only [putAll, Act.put, List.setIfInBounds_toArray, List.set_cons_zero, List.set_cons_succ]) (hCont (v207, gb210) _ ⟨hHeld, (by (with_reducible repeat (first | apply Kd.R_alloc | apply Kd.R_drewN | apply Kd.R_drew)); exact Kd.R_mono HO170.out (fun _ hk => ⟨hk.1.1, ⟨hk.1.2.1, ⟨hk.2, ⟨hk.1.2.2.1, hk.1.2.2.2⟩⟩⟩⟩)), (by (with_reducible repeat (first | apply Kd.R_alloc | apply Kd.R_drewN | apply Kd.R_drew)); exact Kd.R_mono HO180.out (fun _ hk => ⟨hk.1.1, ⟨hk.1.2.1, ⟨hk.2, ⟨hk.1.2.2.1, hk.1.2.2.2⟩⟩⟩⟩)), (by (with_reducible repeat (first | apply Kd.R_alloc | apply Kd.R_drewN | apply Kd.R_drew)); exact Kd.R_mono HO192.out (fun _ hk => ⟨hk.1.1, ⟨hk.1.2.1, ⟨hk.2, ⟨hk.1.2.2.1, hk.1.2.2.2⟩⟩⟩⟩)), (by (with_reducible repeat (first | apply Kd.R_alloc | apply Kd.R_drewN | apply Kd.R_drew)); exact Kd.R_mono HO208.out (fun _ hk => ⟨hk.1.1.1.1.2, ⟨hk.1.1.1.2, ⟨hk.1.1.2, ⟨hk.1.2, hk.2⟩⟩⟩⟩)), (by with_reducible exact BK172.out), (by with_reducible exact BK182.out), (by with_reducible exact BK189.out), (by with_reducible exact BK193.out), (by with_reducible exact BK200.out), (by with_reducible exact BK210.out), GW210.out, GE210.out, NB172_210.out, NB210_172.out, NB182_210.out, NB210_182.out, NB189_210.out, NB210_189.out, NB193_210.out, NB210_193.out, NB200_210.out, NB210_200.out, (by with_reducible exact HB.out)⟩)
 rintro ⟨v207, gb210⟩ w64 ⟨hS_, h0_, h1_, h2_, h3_, h4_, h5_, h6_, h7_, h8_, h9_, h10_, h11_, h12_, h13_, h14_, h15_, h16_, h17_, h18_, h19_, h20_, h21_, h22_⟩
 have n0_ : Aside0 (Kd.R k26 26 w64 w.heap.size (fun k_ => some k_ ≠ (.slice Ao34 t178.length co34 : Value).ownBlock ∧ some k_ ≠ (.slice Ao47 t190.length co47 : Value).ownBlock ∧ some k_ ≠ (v207 : Value).ownBlock ∧ k_ ≠ gb189 ∧ k_ ≠ gb200) (.slice Ao26 t168.length co26) t168) := ⟨h0_⟩
 have n1_ : Aside0 (Kd.R k26 26 w64 w.heap.size (fun k_ => some k_ ≠ (.slice Ao26 t168.length co26 : Value).ownBlock ∧ some k_ ≠ (.slice Ao47 t190.length co47 : Value).ownBlock ∧ some k_ ≠ (v207 : Value).ownBlock ∧ k_ ≠ gb189 ∧ k_ ≠ gb200) (.slice Ao34 t178.length co34) t178) := ⟨h1_⟩
 have n2_ : Aside0 (Kd.R k26 26 w64 w.heap.size (fun k_ => some k_ ≠ (.slice Ao26 t168.length co26 : Value).ownBlock ∧ some k_ ≠ (.slice Ao34 t178.length co34 : Value).ownBlock ∧ some k_ ≠ (v207 : Value).ownBlock ∧ k_ ≠ gb189 ∧ k_ ≠ gb200) (.slice Ao47 t190.length co47) t190) := ⟨h2_⟩
 have n3_ : Aside0 (Kd.R k26 26 w64 w.heap.size (fun k_ => some k_ ≠ (.slice Ao26 t168.length co26 : Value).ownBlock ∧ some k_ ≠ (.slice Ao34 t178.length co34 : Value).ownBlock ∧ some k_ ≠ (.slice Ao47 t190.length co47 : Value).ownBlock ∧ k_ ≠ gb189 ∧ k_ ≠ gb200) v207 t206) := ⟨h3_⟩
 have n4_ : Aside0 (w64.heap[gb172]? = some (.cells #[.slice Ao26 t168.length co26] 24 (0, 0))) := ⟨h4_⟩
 have n5_ : Aside0 (w64.heap[gb182]? = some (.cells #[.slice Ao34 t178.length co34] 24 (0, 0))) := ⟨h5_⟩
 have n6_ : Aside0 (w64.heap[gb189]? = some (.cells #[.int .i64 t183, .int .i64 t184, .int .i64 t185, .int .i64 t186, .int .i64 t187] 26 (0, 0))) := ⟨h6_⟩
 have n7_ : Aside0 (w64.heap[gb193]? = some (.cells #[.slice Ao47 t190.length co47] 24 (0, 0))) := ⟨h7_⟩
 have n8_ : Aside0 (w64.heap[gb200]? = some (.cells #[.int .i64 t194, .int .i64 t195, .int .i64 t196, .int .i64 t197, .int .i64 t198] 26 (0, 0))) := ⟨h8_⟩
 have n9_ : Aside0 (w64.heap[gb210]? = some (.cells #[.slice none 0 0] 24 (0, 0))) := ⟨h9_⟩
 have n10_ : Aside0 (w.heap.size ≤ gb210) := ⟨h10_⟩
 have n11_ : Aside0 (w.heap.size ≤ gb210) := ⟨h11_⟩
 have n12_ : Aside0 (gb172 ≠ gb210) := ⟨h12_⟩
 have n13_ : Aside0 (gb210 ≠ gb172) := ⟨h13_⟩
 have n14_ : Aside0 (gb182 ≠ gb210) := ⟨h14_⟩
 have n15_ : Aside0 (gb210 ≠ gb182) := ⟨h15_⟩
 have n16_ : Aside0 (gb189 ≠ gb210) := ⟨h16_⟩
 have n17_ : Aside0 (gb210 ≠ gb189) := ⟨h17_⟩
 have n18_ : Aside0 (gb193 ≠ gb210) := ⟨h18_⟩
 have n19_ : Aside0 (gb210 ≠ gb193) := ⟨h19_⟩
 have n20_ : Aside0 (gb200 ≠ gb210) := ⟨h20_⟩
 have n21_ : Aside0 (gb210 ≠ gb200) := ⟨h21_⟩
 have n22_ : Aside0 (Below w.heap.size w w64) := ⟨h22_⟩
 clear HO170
 clear HO180
 clear HO192
 clear BK172
 clear BK182
 clear BK189
 clear BK193
 clear BK200
 clear HB
 clear h0_ h1_ h2_ h3_ h4_ h5_ h6_ h7_ h8_ h9_ h10_ h11_ h12_ h13_ h14_ h15_ h16_ h17_ h18_ h19_ h20_ h21_ h22_
 have HO170 := n0_
 have HO180 := n1_
 have HO192 := n2_
 have HO208 := n3_
 have BK172 := n4_
 have BK182 := n5_
 have BK189 := n6_
 have BK193 := n7_
 have BK200 := n8_
 have BK210 := n9_
 have GW210 := n10_
 have GE210 := n11_
 have NB172_210 := n12_
 have NB210_172 := n13_
 have NB182_210 := n14_
 have NB210_182 := n15_
 have NB189_210 := n16_
 have NB210_189 := n17_
 have NB193_210 := n18_
 have NB210_193 := n19_
 have NB200_210 := n20_
 have NB210_200 := n21_
 have HB := n22_
 clear n0_ n1_ n2_ n3_ n4_ n5_ n6_ n7_ n8_ n9_ n10_ n11_ n12_ n13_ n14_ n15_ n16_ n17_ n18_ n19_ n20_ n21_ n22_
 have hHeld : w64.cell? ⟨gb193, 0, none⟩ = some (.slice Ao47 t190.length co47) := hS_
 obtain ⟨Ao65, co65, eo65⟩ := Kd.R_slice HO208.out
 (first | subst eo65 | (injection eo65 with f1_ f2_ f3_; have f4_ := f1_.symm; have f5_ := f3_.symm; clear f1_ f2_ f3_; subst f4_; subst f5_))
 refine norm_ (a' := ?_) ?_ ?_
 rotate_left
 ·simp only [putAll, Act.put, List.setIfInBounds_toArray, List.set_cons_zero, List.set_cons_succ]
  rfl
 refine one_ (i := 7) (N := none) #[true, true, true, true, true, true, true, true, false] rfl rfl (one_of HT_.out (by kernel_rfl)) (by decide) (fun K hK => ?_)
 have hs66 : w64.cell? ⟨gb210, 0, none⟩ = some (.slice none 0 0) := (blk_cell BK210.out 0).trans rfl
 have hfs66 := blk_frozen BK210.out 0
 have hns66_0 := NB172_210.out
 have hns66_1 := NB182_210.out
 have hns66_2 := NB189_210.out
 have hns66_3 := NB193_210.out
 have hns66_4 := NB200_210.out
 have hms66_0 := NB210_172.out
 have hms66_1 := NB210_182.out
 have hms66_2 := NB210_189.out
 have hms66_3 := NB210_193.out
 have hms66_4 := NB210_200.out
 refine skip_ (w1 := ?_) (by rfl) rfl ?_ ?_
 rotate_left
 ·go_simp
  rfl
 refine hK.out _ _ (((cell_far (p := ⟨gb210, _, none⟩) NB193_210.out _).trans (hHeld))) (fun hHeld => ?_)
 clear hK K
 refine pure_ (i := 8) (N := some 11) (v := ?_) (a' := ?_) #[true, true, true, true, true, true, true, true, true] rfl rfl (any_of HT_.out (by kernel_rfl)) (fun _ _ _ h => h) (Or.inl ⟨by rfl, ?_⟩) ?_ ?_
 rotate_left
 ·intro w'
  go_simp
  with_reducible rfl
 rotate_left
 ·simp only [Act.put, List.setIfInBounds_toArray, List.set_cons_zero, List.set_cons_succ, i64_w, i32_w]
  rfl
 refine done_ (done_of HT_.out (by kernel_rfl)) ?_
 try go_wp2
 have n0_ : Aside0 (Kd.R k26 26 (w64.setCell ⟨gb210, 0, none⟩ (.slice Ao65 t206.length co65)) w.heap.size (fun k_ => some k_ ≠ (.slice Ao34 t178.length co34 : Value).ownBlock ∧ some k_ ≠ (.slice Ao47 t190.length co47 : Value).ownBlock ∧ some k_ ≠ (.slice Ao65 t206.length co65 : Value).ownBlock ∧ k_ ≠ gb189 ∧ k_ ≠ gb200) (.slice Ao26 t168.length co26) t168) := ⟨by (with_reducible repeat (first | apply Kd.R_alloc | apply Kd.R_drewN | apply Kd.R_drew)); exact Kd.R_mono (Kd.R_far (p := ⟨gb210, 0, none⟩) (Kd.R_types HO170.out BK210.out (by decide)) (fun _ hk => hk.2) (.slice Ao65 t206.length co65)) (fun _ hk => ⟨hk.1.1, ⟨hk.1.2.1, ⟨hk.1.2.2.1, ⟨hk.1.2.2.2.1, hk.1.2.2.2.2⟩⟩⟩⟩)⟩
 have n1_ : Aside0 (Kd.R k26 26 (w64.setCell ⟨gb210, 0, none⟩ (.slice Ao65 t206.length co65)) w.heap.size (fun k_ => some k_ ≠ (.slice Ao26 t168.length co26 : Value).ownBlock ∧ some k_ ≠ (.slice Ao47 t190.length co47 : Value).ownBlock ∧ some k_ ≠ (.slice Ao65 t206.length co65 : Value).ownBlock ∧ k_ ≠ gb189 ∧ k_ ≠ gb200) (.slice Ao34 t178.length co34) t178) := ⟨by (with_reducible repeat (first | apply Kd.R_alloc | apply Kd.R_drewN | apply Kd.R_drew)); exact Kd.R_mono (Kd.R_far (p := ⟨gb210, 0, none⟩) (Kd.R_types HO180.out BK210.out (by decide)) (fun _ hk => hk.2) (.slice Ao65 t206.length co65)) (fun _ hk => ⟨hk.1.1, ⟨hk.1.2.1, ⟨hk.1.2.2.1, ⟨hk.1.2.2.2.1, hk.1.2.2.2.2⟩⟩⟩⟩)⟩
 have n2_ : Aside0 (Kd.R k26 26 (w64.setCell ⟨gb210, 0, none⟩ (.slice Ao65 t206.length co65)) w.heap.size (fun k_ => some k_ ≠ (.slice Ao26 t168.length co26 : Value).ownBlock ∧ some k_ ≠ (.slice Ao34 t178.length co34 : Value).ownBlock ∧ some k_ ≠ (.slice Ao65 t206.length co65 : Value).ownBlock ∧ k_ ≠ gb189 ∧ k_ ≠ gb200) (.slice Ao47 t190.length co47) t190) := ⟨by (with_reducible repeat (first | apply Kd.R_alloc | apply Kd.R_drewN | apply Kd.R_drew)); exact Kd.R_mono (Kd.R_far (p := ⟨gb210, 0, none⟩) (Kd.R_types HO192.out BK210.out (by decide)) (fun _ hk => hk.2) (.slice Ao65 t206.length co65)) (fun _ hk => ⟨hk.1.1, ⟨hk.1.2.1, ⟨hk.1.2.2.1, ⟨hk.1.2.2.2.1, hk.1.2.2.2.2⟩⟩⟩⟩)⟩
 have n3_ : Aside0 (Kd.R k26 26 (w64.setCell ⟨gb210, 0, none⟩ (.slice Ao65 t206.length co65)) w.heap.size (fun k_ => some k_ ≠ (.slice Ao26 t168.length co26 : Value).ownBlock ∧ some k_ ≠ (.slice Ao34 t178.length co34 : Value).ownBlock ∧ some k_ ≠ (.slice Ao47 t190.length co47 : Value).ownBlock ∧ k_ ≠ gb189 ∧ k_ ≠ gb200) (.slice Ao65 t206.length co65) t206) := ⟨by (with_reducible repeat (first | apply Kd.R_alloc | apply Kd.R_drewN | apply Kd.R_drew)); exact Kd.R_mono (Kd.R_far (p := ⟨gb210, 0, none⟩) (Kd.R_types HO208.out BK210.out (by decide)) (fun _ hk => hk.2) (.slice Ao65 t206.length co65)) (fun _ hk => ⟨hk.1.1, ⟨hk.1.2.1, ⟨hk.1.2.2.1, ⟨hk.1.2.2.2.1, hk.1.2.2.2.2⟩⟩⟩⟩)⟩
 have n4_ : Aside0 ((w64.setCell ⟨gb210, 0, none⟩ (.slice Ao65 t206.length co65)).heap[gb172]? = some (.cells #[.slice Ao26 t168.length co26] 24 (0, 0))) := ⟨by (with_reducible repeat (first | refine blk_drewN ?_ _ | refine blk_drew ?_ | refine blk_alloc ?_ _)); refine blk_far ?_ NB172_210.out _; (with_reducible repeat (first | refine blk_drewN ?_ _ | refine blk_drew ?_ | refine blk_alloc ?_ _)); exact BK172.out⟩
 have n5_ : Aside0 ((w64.setCell ⟨gb210, 0, none⟩ (.slice Ao65 t206.length co65)).heap[gb182]? = some (.cells #[.slice Ao34 t178.length co34] 24 (0, 0))) := ⟨by (with_reducible repeat (first | refine blk_drewN ?_ _ | refine blk_drew ?_ | refine blk_alloc ?_ _)); refine blk_far ?_ NB182_210.out _; (with_reducible repeat (first | refine blk_drewN ?_ _ | refine blk_drew ?_ | refine blk_alloc ?_ _)); exact BK182.out⟩
 have n6_ : Aside0 ((w64.setCell ⟨gb210, 0, none⟩ (.slice Ao65 t206.length co65)).heap[gb189]? = some (.cells #[.int .i64 t183, .int .i64 t184, .int .i64 t185, .int .i64 t186, .int .i64 t187] 26 (0, 0))) := ⟨by (with_reducible repeat (first | refine blk_drewN ?_ _ | refine blk_drew ?_ | refine blk_alloc ?_ _)); refine blk_far ?_ NB189_210.out _; (with_reducible repeat (first | refine blk_drewN ?_ _ | refine blk_drew ?_ | refine blk_alloc ?_ _)); exact BK189.out⟩
 have n7_ : Aside0 ((w64.setCell ⟨gb210, 0, none⟩ (.slice Ao65 t206.length co65)).heap[gb193]? = some (.cells #[.slice Ao47 t190.length co47] 24 (0, 0))) := ⟨by (with_reducible repeat (first | refine blk_drewN ?_ _ | refine blk_drew ?_ | refine blk_alloc ?_ _)); refine blk_far ?_ NB193_210.out _; (with_reducible repeat (first | refine blk_drewN ?_ _ | refine blk_drew ?_ | refine blk_alloc ?_ _)); exact BK193.out⟩
 have n8_ : Aside0 ((w64.setCell ⟨gb210, 0, none⟩ (.slice Ao65 t206.length co65)).heap[gb200]? = some (.cells #[.int .i64 t194, .int .i64 t195, .int .i64 t196, .int .i64 t197, .int .i64 t198] 26 (0, 0))) := ⟨by (with_reducible repeat (first | refine blk_drewN ?_ _ | refine blk_drew ?_ | refine blk_alloc ?_ _)); refine blk_far ?_ NB200_210.out _; (with_reducible repeat (first | refine blk_drewN ?_ _ | refine blk_drew ?_ | refine blk_alloc ?_ _)); exact BK200.out⟩
 have n9_ : Aside0 ((w64.setCell ⟨gb210, 0, none⟩ (.slice Ao65 t206.length co65)).heap[gb210]? = some (.cells #[.slice Ao65 t206.length co65] 24 (0, 0))) := ⟨by (with_reducible repeat (first | refine blk_drewN ?_ _ | refine blk_drew ?_ | refine blk_alloc ?_ _)); refine blk_put (cs := #[.slice none 0 0]) ?_ 0 _ rfl; (with_reducible repeat (first | refine blk_drewN ?_ _ | refine blk_drew ?_ | refine blk_alloc ?_ _)); exact BK210.out⟩
 have n10_ : Aside0 (Below w.heap.size w (w64.setCell ⟨gb210, 0, none⟩ (.slice Ao65 t206.length co65))) := ⟨by repeat (first | (with_reducible first | exact HB.out | apply below_alloc | apply pw_below_drewN | apply below_drew1 | refine below_set ?_ GE172.out | refine below_set ?_ GE182.out | refine below_set ?_ GE189.out | refine below_set ?_ GE193.out | refine below_set ?_ GE200.out | refine below_set ?_ GE210.out) | exact HB.out)⟩
 (try clear HO170)
 (try clear HO180)
 (try clear HO192)
 (try clear HO208)
 (try clear BK172)
 (try clear BK182)
 (try clear BK189)
 (try clear BK193)
 (try clear BK200)
 (try clear BK210)
 (try clear HB)
 generalize (w64.setCell ⟨gb210, 0, none⟩ (.slice Ao65 t206.length co65)) = w67 at n0_ n1_ n2_ n3_ n4_ n5_ n6_ n7_ n8_ n9_ n10_ ⊢
 have HO170 := n0_
 have HO180 := n1_
 have HO192 := n2_
 have HO208 := n3_
 have BK172 := n4_
 have BK182 := n5_
 have BK189 := n6_
 have BK193 := n7_
 have BK200 := n8_
 have BK210 := n9_
 have HB := n10_
 clear n0_ n1_ n2_ n3_ n4_ n5_ n6_ n7_ n8_ n9_ n10_
 have n0_ := Aside0.mk (Kd.R_drew HO170.out)
 have n1_ := Aside0.mk (Kd.R_drew HO180.out)
 have n2_ := Aside0.mk (Kd.R_drew HO192.out)
 have n3_ := Aside0.mk (Kd.R_drew HO208.out)
 have n4_ := Aside0.mk (blk_drew BK172.out)
 have n5_ := Aside0.mk (blk_drew BK182.out)
 have n6_ := Aside0.mk (blk_drew BK189.out)
 have n7_ := Aside0.mk (blk_drew BK193.out)
 have n8_ := Aside0.mk (blk_drew BK200.out)
 have n9_ := Aside0.mk (blk_drew BK210.out)
 have n10_ := Aside0.mk (below_drew1 HB.out)
 clear HO170
 clear HO180
 clear HO192
 clear HO208
 clear BK172
 clear BK182
 clear BK189
 clear BK193
 clear BK200
 clear BK210
 clear HB
 have HO170 := n0_
 have HO180 := n1_
 have HO192 := n2_
 have HO208 := n3_
 have BK172 := n4_
 have BK182 := n5_
 have BK189 := n6_
 have BK193 := n7_
 have BK200 := n8_
 have BK210 := n9_
 have HB := n10_
 clear n0_ n1_ n2_ n3_ n4_ n5_ n6_ n7_ n8_ n9_ n10_
 refine start_ (n := 9) (S := fun w' => w'.cell? ⟨gb193, 0, none⟩ = some (.slice Ao47 t190.length co47)) (ds := []) #[false, false, false, false, false, false, false, false, false] (by kernel_rfl) rfl rfl ((blk_cell BK193.out 0).trans rfl) (fun hHeld => ?_); refine with_tabW slotmeshlaw27_head.tab7 slotmeshlaw27_head.bits7 (fun HT_ HW_ => ?_)
 generalize w67.drew = w68 at HO170 HO180 HO192 HO208 BK172 BK182 BK189 BK193 BK200 BK210 HB hHeld ⊢
 refine take_ (i := 0) (N := some 47) (v := ?_) (a' := ?_) #[true, false, false, false, false, false, false, false, false] rfl rfl (take_ofW HT_.out HW_.out (by kernel_rfl)) (fun _ _ _ h => h) (Or.inl ⟨by rfl, ?_⟩) hHeld ?_ ?_
 rotate_left
 ·intro w' s0
  go_simp
  with_reducible rfl
 rotate_left
 ·simp only [Act.put, List.setIfInBounds_toArray, List.set_cons_zero, List.set_cons_succ, i64_w, i32_w]
  rfl
 refine join_ (σ := Value × Nat) 2 #[true, true, true, true, true, true, true, false, false] (fun s_ => [(48, .agg #[.int .i64 t211, .int .i64 t212, .int .i64 t213, .int .i64 t214, .int .i64 t215]), (49, .tuple #[.agg #[s_.1], .int .i64 t219]), (12, .pointer (some ⟨s_.2, 0, none⟩)), (46, .tuple #[.agg #[s_.1], .int .i64 t219]), (50, .agg #[s_.1]), (51, .int .i64 t219)]) (fun s_ w' => (w'.cell? ⟨gb193, 0, none⟩ = some (.slice Ao47 t190.length co47)) ∧ (Kd.R k26 26 w' w.heap.size (fun k_ => some k_ ≠ (.slice Ao34 t178.length co34 : Value).ownBlock ∧ some k_ ≠ (.slice Ao47 t190.length co47 : Value).ownBlock ∧ some k_ ≠ (.slice Ao65 t206.length co65 : Value).ownBlock ∧ some k_ ≠ (s_.1 : Value).ownBlock ∧ k_ ≠ gb189 ∧ k_ ≠ gb200) (.slice Ao26 t168.length co26) t168) ∧ (Kd.R k26 26 w' w.heap.size (fun k_ => some k_ ≠ (.slice Ao26 t168.length co26 : Value).ownBlock ∧ some k_ ≠ (.slice Ao47 t190.length co47 : Value).ownBlock ∧ some k_ ≠ (.slice Ao65 t206.length co65 : Value).ownBlock ∧ some k_ ≠ (s_.1 : Value).ownBlock ∧ k_ ≠ gb189 ∧ k_ ≠ gb200) (.slice Ao34 t178.length co34) t178) ∧ (Kd.R k26 26 w' w.heap.size (fun k_ => some k_ ≠ (.slice Ao26 t168.length co26 : Value).ownBlock ∧ some k_ ≠ (.slice Ao34 t178.length co34 : Value).ownBlock ∧ some k_ ≠ (.slice Ao65 t206.length co65 : Value).ownBlock ∧ some k_ ≠ (s_.1 : Value).ownBlock ∧ k_ ≠ gb189 ∧ k_ ≠ gb200) (.slice Ao47 t190.length co47) t190) ∧ (Kd.R k26 26 w' w.heap.size (fun k_ => some k_ ≠ (.slice Ao26 t168.length co26 : Value).ownBlock ∧ some k_ ≠ (.slice Ao34 t178.length co34 : Value).ownBlock ∧ some k_ ≠ (.slice Ao47 t190.length co47 : Value).ownBlock ∧ some k_ ≠ (s_.1 : Value).ownBlock ∧ k_ ≠ gb189 ∧ k_ ≠ gb200) (.slice Ao65 t206.length co65) t206) ∧ (Kd.R k26 26 w' w.heap.size (fun k_ => some k_ ≠ (.slice Ao26 t168.length co26 : Value).ownBlock ∧ some k_ ≠ (.slice Ao34 t178.length co34 : Value).ownBlock ∧ some k_ ≠ (.slice Ao47 t190.length co47 : Value).ownBlock ∧ some k_ ≠ (.slice Ao65 t206.length co65 : Value).ownBlock ∧ k_ ≠ gb189 ∧ k_ ≠ gb200) s_.1 t216) ∧ (w'.heap[gb172]? = some (.cells #[.slice Ao26 t168.length co26] 24 (0, 0))) ∧ (w'.heap[gb182]? = some (.cells #[.slice Ao34 t178.length co34] 24 (0, 0))) ∧ (w'.heap[gb189]? = some (.cells #[.int .i64 t183, .int .i64 t184, .int .i64 t185, .int .i64 t186, .int .i64 t187] 26 (0, 0))) ∧ (w'.heap[gb193]? = some (.cells #[.slice Ao47 t190.length co47] 24 (0, 0))) ∧ (w'.heap[gb200]? = some (.cells #[.int .i64 t194, .int .i64 t195, .int .i64 t196, .int .i64 t197, .int .i64 t198] 26 (0, 0))) ∧ (w'.heap[gb210]? = some (.cells #[.slice Ao65 t206.length co65] 24 (0, 0))) ∧ (w'.heap[s_.2]? = some (.cells #[.slice none 0 0] 24 (0, 0))) ∧ (w.heap.size ≤ s_.2) ∧ (w.heap.size ≤ s_.2) ∧ (gb172 ≠ s_.2) ∧ (s_.2 ≠ gb172) ∧ (gb182 ≠ s_.2) ∧ (s_.2 ≠ gb182) ∧ (gb189 ≠ s_.2) ∧ (s_.2 ≠ gb189) ∧ (gb193 ≠ s_.2) ∧ (s_.2 ≠ gb193) ∧ (gb200 ≠ s_.2) ∧ (s_.2 ≠ gb200) ∧ (gb210 ≠ s_.2) ∧ (s_.2 ≠ gb210) ∧ (Below w.heap.size w w')) ?_ ?_
 rotate_left
 ·intro hCont
  refine two_ (i := 1) (j := 6) (Ni := some 48) (Nj := some 12) #[true, true, false, false, false, false, false, false, false] #[true, false, false, false, false, false, true, false, false] rfl rfl rfl rfl (two_of HT_.out (by kernel_rfl)) (by decide) (by decide) (fun K hK => ?_) (fun K hK => ?_)
  ·skip
   refine goes_ Try.func23 (by kernel_rfl) rfl #[.int .i64 2, .int .i64 0] (by rfl) rfl rfl (by (try simp only [List.map_toArray, List.map_cons, List.map_nil]); first | done | rfl | (simp only [List.length_drop, List.length_take]; rfl)) ?_
   with_reducible refine (slotmeshlaw27_reading.calls 2 0 t211 t212 t213 t214 t215 _ A10.out).mono ?_
   rintro e w69 ⟨rfl, hb⟩
   refine ⟨_, rfl, ?_⟩
   have n0_ := Aside0.mk (Kd.R_below (by with_reducible exact HO170.out) hb)
   have n1_ := Aside0.mk (Kd.R_below (by with_reducible exact HO180.out) hb)
   have n2_ := Aside0.mk (Kd.R_below (by with_reducible exact HO192.out) hb)
   have n3_ := Aside0.mk (Kd.R_below (by with_reducible exact HO208.out) hb)
   have n4_ := Aside0.mk (blk_below (g := gb172) (o := .cells #[.slice Ao26 t168.length co26] 24 (0, 0)) (by with_reducible exact BK172.out) hb)
   have n5_ := Aside0.mk (blk_below (g := gb182) (o := .cells #[.slice Ao34 t178.length co34] 24 (0, 0)) (by with_reducible exact BK182.out) hb)
   have n6_ := Aside0.mk (blk_below (g := gb189) (o := .cells #[.int .i64 t183, .int .i64 t184, .int .i64 t185, .int .i64 t186, .int .i64 t187] 26 (0, 0)) (by with_reducible exact BK189.out) hb)
   have n7_ := Aside0.mk (blk_below (g := gb193) (o := .cells #[.slice Ao47 t190.length co47] 24 (0, 0)) (by with_reducible exact BK193.out) hb)
   have n8_ := Aside0.mk (blk_below (g := gb200) (o := .cells #[.int .i64 t194, .int .i64 t195, .int .i64 t196, .int .i64 t197, .int .i64 t198] 26 (0, 0)) (by with_reducible exact BK200.out) hb)
   have n9_ := Aside0.mk (blk_below (g := gb210) (o := .cells #[.slice Ao65 t206.length co65] 24 (0, 0)) (by with_reducible exact BK210.out) hb)
   have n10_ := Aside0.mk (below_step (by with_reducible exact HB.out) hb)
   clear HO170
   clear HO180
   clear HO192
   clear HO208
   clear BK172
   clear BK182
   clear BK189
   clear BK193
   clear BK200
   clear BK210
   clear HB
   have HO170 := n0_
   have HO180 := n1_
   have HO192 := n2_
   have HO208 := n3_
   have BK172 := n4_
   have BK182 := n5_
   have BK189 := n6_
   have BK193 := n7_
   have BK200 := n8_
   have BK210 := n9_
   have HB := n10_
   clear n0_ n1_ n2_ n3_ n4_ n5_ n6_ n7_ n8_ n9_ n10_
   (try clear hb)
   (try clear hb2)
   (try clear hk)
   (try clear hi)
   refine hK.out _ _ ((blk_cell BK193.out 0).trans rfl) (fun hHeld => ?_)
   clear hK K
   refine norm_ (a' := ?_) ?_ ?_
   rotate_left
   ·show Act.put _ (some 48) _ = _
    simp only [Act.put, List.setIfInBounds_toArray, List.set_cons_zero, List.set_cons_succ, i64_w, i32_w]
    rfl
   refine two_ (i := 2) (j := 6) (Ni := some 49) (Nj := some 12) #[true, true, true, false, false, false, false, false, false] #[true, true, false, false, false, false, true, false, false] rfl rfl rfl rfl (two_of HT_.out (by kernel_rfl)) (by decide) (by decide) (fun K hK => ?_) (fun K hK => ?_)
   ·skip
    refine goes_ Try.func11 (by kernel_rfl) rfl #[.agg #[.slice Ao47 t190.length co47], .agg #[.int .i64 t211, .int .i64 t212, .int .i64 t213, .int .i64 t214, .int .i64 t215], .int .i64 1] (by rfl) rfl rfl (by (try simp only [List.map_toArray, List.map_cons, List.map_nil]); first | done | rfl | (simp only [List.length_drop, List.length_take]; rfl)) ?_
    with_reducible refine (queue_Put.calls 64 _ _ t190 t211 t212 t213 t214 t215 1 t216 t219 _ ?side1 ?side2 A11.out).mono ?_
    (case side1 => repeat (first | exact (Kd.R_reads' HO192.out).2.2 | (with_reducible refine Kd.C_alloc ?_ _) | (with_reducible refine Kd.C_drewN ?_ _) | (with_reducible refine Kd.C_drew ?_)))
    (case side2 => exact (Kd.R_reads' HO192.out).2.1)
    rintro e w70 ⟨v217, rfl, ho0, hb⟩
    refine ⟨_, rfl, ?_⟩
    have n0_ := Aside0.mk (Kd.R_elder' (by with_reducible exact HO170.out) (Kd.R_base ho0) hb)
    have n1_ := Aside0.mk (Kd.R_elder' (by with_reducible exact HO180.out) (Kd.R_base ho0) hb)
    have n2_ := Aside0.mk (Kd.R_elder' (by with_reducible exact HO192.out) (Kd.R_base ho0) hb)
    have n3_ := Aside0.mk (Kd.R_elder' (by with_reducible exact HO208.out) (Kd.R_base ho0) hb)
    have n4_ := Aside0.mk (Kd.R_lower (Kd.R_newB (Kd.R_newB (Kd.R_new' (Kd.R_new' (Kd.R_new' (Kd.R_new' ho0 (Kd.R_lt (by with_reducible exact HO170.out))) (Kd.R_lt (by with_reducible exact HO180.out))) (Kd.R_lt (by with_reducible exact HO192.out))) (Kd.R_lt (by with_reducible exact HO208.out))) (g := gb189) (o := .cells #[.int .i64 t183, .int .i64 t184, .int .i64 t185, .int .i64 t186, .int .i64 t187] 26 (0, 0)) (by with_reducible exact BK189.out)) (g := gb200) (o := .cells #[.int .i64 t194, .int .i64 t195, .int .i64 t196, .int .i64 t197, .int .i64 t198] 26 (0, 0)) (by with_reducible exact BK200.out)) (below_size (by with_reducible exact HB.out)))
    have n5_ := Aside0.mk (blk_below (g := gb172) (o := .cells #[.slice Ao26 t168.length co26] 24 (0, 0)) (by with_reducible exact BK172.out) hb)
    have n6_ := Aside0.mk (blk_below (g := gb182) (o := .cells #[.slice Ao34 t178.length co34] 24 (0, 0)) (by with_reducible exact BK182.out) hb)
    have n7_ := Aside0.mk (blk_below (g := gb189) (o := .cells #[.int .i64 t183, .int .i64 t184, .int .i64 t185, .int .i64 t186, .int .i64 t187] 26 (0, 0)) (by with_reducible exact BK189.out) hb)
    have n8_ := Aside0.mk (blk_below (g := gb193) (o := .cells #[.slice Ao47 t190.length co47] 24 (0, 0)) (by with_reducible exact BK193.out) hb)
    have n9_ := Aside0.mk (blk_below (g := gb200) (o := .cells #[.int .i64 t194, .int .i64 t195, .int .i64 t196, .int .i64 t197, .int .i64 t198] 26 (0, 0)) (by with_reducible exact BK200.out) hb)
    have n10_ := Aside0.mk (blk_below (g := gb210) (o := .cells #[.slice Ao65 t206.length co65] 24 (0, 0)) (by with_reducible exact BK210.out) hb)
    have n11_ := Aside0.mk (below_step (by with_reducible exact HB.out) hb)
    clear HO170
    clear HO180
    clear HO192
    clear HO208
    clear BK172
    clear BK182
    clear BK189
    clear BK193
    clear BK200
    clear BK210
    clear HB
    have HO170 := n0_
    have HO180 := n1_
    have HO192 := n2_
    have HO208 := n3_
    have HO218 := n4_
    have BK172 := n5_
    have BK182 := n6_
    have BK189 := n7_
    have BK193 := n8_
    have BK200 := n9_
    have BK210 := n10_
    have HB := n11_
    clear n0_ n1_ n2_ n3_ n4_ n5_ n6_ n7_ n8_ n9_ n10_ n11_
    (try clear hb)
    (try clear hb2)
    (try clear hk)
    (try clear hi)
    (try clear ho0)
    refine hK.out _ _ ((blk_cell BK193.out 0).trans rfl) (fun hHeld => ?_)
    clear hK K
    refine norm_ (a' := ?_) ?_ ?_
    rotate_left
    ·show Act.put _ (some 49) _ = _
     simp only [Act.put, List.setIfInBounds_toArray, List.set_cons_zero, List.set_cons_succ, i64_w, i32_w]
     rfl
    refine pure_ (i := 3) (N := some 46) (v := ?_) (a' := ?_) #[true, true, true, true, false, false, false, false, false] rfl rfl (any_of HT_.out (by kernel_rfl)) (fun _ _ _ h => h) (Or.inl ⟨by rfl, ?_⟩) ?_ ?_
    rotate_left
    ·intro w'
     go_simp
     with_reducible rfl
    rotate_left
    ·simp only [Act.put, List.setIfInBounds_toArray, List.set_cons_zero, List.set_cons_succ, i64_w, i32_w]
     rfl
    refine pure_ (i := 4) (N := some 50) (v := ?_) (a' := ?_) #[true, true, true, true, true, false, false, false, false] rfl rfl (any_of HT_.out (by kernel_rfl)) (fun _ _ _ h => h) (Or.inl ⟨by rfl, ?_⟩) ?_ ?_
    rotate_left
    ·intro w'
     go_simp
     with_reducible rfl
    rotate_left
    ·simp only [Act.put, List.setIfInBounds_toArray, List.set_cons_zero, List.set_cons_succ, i64_w, i32_w]
     rfl
    refine pure_ (i := 5) (N := some 51) (v := ?_) (a' := ?_) #[true, true, true, true, true, true, false, false, false] rfl rfl (any_of HT_.out (by kernel_rfl)) (fun _ _ _ h => h) (Or.inl ⟨by rfl, ?_⟩) ?_ ?_
    rotate_left
    ·intro w'
     go_simp
     with_reducible rfl
    rotate_left
    ·simp only [Act.put, List.setIfInBounds_toArray, List.set_cons_zero, List.set_cons_succ, i64_w, i32_w]
     rfl
    refine one_ (i := 6) (N := some 12) #[true, true, true, true, true, true, true, false, false] rfl rfl (one_of HT_.out (by kernel_rfl)) (by decide) (fun K hK => ?_)
    refine box_step ?hg (N := 12) ?hd (cs := #[.slice none 0 0]) (t := 24) ?hr ?_; (case hd => rfl); (case hg => rfl); (case hr => first | (go_simp; done) | (go_simp; rfl))
    intro gb220 hg w71 hbox hb
    have n0_ := Aside0.mk (Kd.R_below (by with_reducible exact HO170.out) hb)
    have n1_ := Aside0.mk (Kd.R_below (by with_reducible exact HO180.out) hb)
    have n2_ := Aside0.mk (Kd.R_below (by with_reducible exact HO192.out) hb)
    have n3_ := Aside0.mk (Kd.R_below (by with_reducible exact HO208.out) hb)
    have n4_ := Aside0.mk (Kd.R_below (by with_reducible exact HO218.out) hb)
    have n5_ := Aside0.mk (blk_below (g := gb172) (o := .cells #[.slice Ao26 t168.length co26] 24 (0, 0)) (by with_reducible exact BK172.out) hb)
    have n6_ := Aside0.mk (blk_below (g := gb182) (o := .cells #[.slice Ao34 t178.length co34] 24 (0, 0)) (by with_reducible exact BK182.out) hb)
    have n7_ := Aside0.mk (blk_below (g := gb189) (o := .cells #[.int .i64 t183, .int .i64 t184, .int .i64 t185, .int .i64 t186, .int .i64 t187] 26 (0, 0)) (by with_reducible exact BK189.out) hb)
    have n8_ := Aside0.mk (blk_below (g := gb193) (o := .cells #[.slice Ao47 t190.length co47] 24 (0, 0)) (by with_reducible exact BK193.out) hb)
    have n9_ := Aside0.mk (blk_below (g := gb200) (o := .cells #[.int .i64 t194, .int .i64 t195, .int .i64 t196, .int .i64 t197, .int .i64 t198] 26 (0, 0)) (by with_reducible exact BK200.out) hb)
    have n10_ := Aside0.mk (blk_below (g := gb210) (o := .cells #[.slice Ao65 t206.length co65] 24 (0, 0)) (by with_reducible exact BK210.out) hb)
    have n11_ := Aside0.mk (below_step (by with_reducible exact HB.out) hb)
    have n12_ := Aside0.mk (hbox)
    have n13_ := Aside0.mk ((by rw [hg]; exact (below_size (by with_reducible exact HB.out)) : w.heap.size ≤ gb220))
    have n14_ := Aside0.mk ((by rw [hg]; exact (below_size (by with_reducible exact HB.out)) : w.heap.size ≤ gb220))
    have n15_ := Aside0.mk ((by rw [hg]; exact Nat.ne_of_lt (blk_lt (g := gb172) (o := .cells #[.slice Ao26 t168.length co26] 24 (0, 0)) (by with_reducible exact BK172.out)) : gb172 ≠ gb220))
    have n16_ := Aside0.mk ((by rw [hg]; exact Nat.ne_of_gt (blk_lt (g := gb172) (o := .cells #[.slice Ao26 t168.length co26] 24 (0, 0)) (by with_reducible exact BK172.out)) : gb220 ≠ gb172))
    have n17_ := Aside0.mk ((by rw [hg]; exact Nat.ne_of_lt (blk_lt (g := gb182) (o := .cells #[.slice Ao34 t178.length co34] 24 (0, 0)) (by with_reducible exact BK182.out)) : gb182 ≠ gb220))
    have n18_ := Aside0.mk ((by rw [hg]; exact Nat.ne_of_gt (blk_lt (g := gb182) (o := .cells #[.slice Ao34 t178.length co34] 24 (0, 0)) (by with_reducible exact BK182.out)) : gb220 ≠ gb182))
    have n19_ := Aside0.mk ((by rw [hg]; exact Nat.ne_of_lt (blk_lt (g := gb189) (o := .cells #[.int .i64 t183, .int .i64 t184, .int .i64 t185, .int .i64 t186, .int .i64 t187] 26 (0, 0)) (by with_reducible exact BK189.out)) : gb189 ≠ gb220))
    have n20_ := Aside0.mk ((by rw [hg]; exact Nat.ne_of_gt (blk_lt (g := gb189) (o := .cells #[.int .i64 t183, .int .i64 t184, .int .i64 t185, .int .i64 t186, .int .i64 t187] 26 (0, 0)) (by with_reducible exact BK189.out)) : gb220 ≠ gb189))
    have n21_ := Aside0.mk ((by rw [hg]; exact Nat.ne_of_lt (blk_lt (g := gb193) (o := .cells #[.slice Ao47 t190.length co47] 24 (0, 0)) (by with_reducible exact BK193.out)) : gb193 ≠ gb220))
    have n22_ := Aside0.mk ((by rw [hg]; exact Nat.ne_of_gt (blk_lt (g := gb193) (o := .cells #[.slice Ao47 t190.length co47] 24 (0, 0)) (by with_reducible exact BK193.out)) : gb220 ≠ gb193))
    have n23_ := Aside0.mk ((by rw [hg]; exact Nat.ne_of_lt (blk_lt (g := gb200) (o := .cells #[.int .i64 t194, .int .i64 t195, .int .i64 t196, .int .i64 t197, .int .i64 t198] 26 (0, 0)) (by with_reducible exact BK200.out)) : gb200 ≠ gb220))
    have n24_ := Aside0.mk ((by rw [hg]; exact Nat.ne_of_gt (blk_lt (g := gb200) (o := .cells #[.int .i64 t194, .int .i64 t195, .int .i64 t196, .int .i64 t197, .int .i64 t198] 26 (0, 0)) (by with_reducible exact BK200.out)) : gb220 ≠ gb200))
    have n25_ := Aside0.mk ((by rw [hg]; exact Nat.ne_of_lt (blk_lt (g := gb210) (o := .cells #[.slice Ao65 t206.length co65] 24 (0, 0)) (by with_reducible exact BK210.out)) : gb210 ≠ gb220))
    have n26_ := Aside0.mk ((by rw [hg]; exact Nat.ne_of_gt (blk_lt (g := gb210) (o := .cells #[.slice Ao65 t206.length co65] 24 (0, 0)) (by with_reducible exact BK210.out)) : gb220 ≠ gb210))
    clear HO170
    clear HO180
    clear HO192
    clear HO208
    clear HO218
    clear BK172
    clear BK182
    clear BK189
    clear BK193
    clear BK200
    clear BK210
    clear HB
    have HO170 := n0_
    have HO180 := n1_
    have HO192 := n2_
    have HO208 := n3_
    have HO218 := n4_
    have BK172 := n5_
    have BK182 := n6_
    have BK189 := n7_
    have BK193 := n8_
    have BK200 := n9_
    have BK210 := n10_
    have HB := n11_
    have BK220 := n12_
    have GW220 := n13_
    have GE220 := n14_
    have NB172_220 := n15_
    have NB220_172 := n16_
    have NB182_220 := n17_
    have NB220_182 := n18_
    have NB189_220 := n19_
    have NB220_189 := n20_
    have NB193_220 := n21_
    have NB220_193 := n22_
    have NB200_220 := n23_
    have NB220_200 := n24_
    have NB210_220 := n25_
    have NB220_210 := n26_
    clear n0_ n1_ n2_ n3_ n4_ n5_ n6_ n7_ n8_ n9_ n10_ n11_ n12_ n13_ n14_ n15_ n16_ n17_ n18_ n19_ n20_ n21_ n22_ n23_ n24_ n25_ n26_
    clear hb hbox hg
    refine hK.out _ _ ((blk_cell BK193.out 0).trans rfl) (fun hHeld => ?_)
    clear hK K
    refine norm_ (a' := ?_) ?_ ?_
    rotate_left
    ·show Act.put _ (some 12) _ = _
     simp only [Act.put, List.setIfInBounds_toArray, List.set_cons_zero, List.set_cons_succ, i64_w, i32_w]
     rfl
    exact norm_ (by simp only [putAll, Act.put, List.setIfInBounds_toArray, List.set_cons_zero, List.set_cons_succ]) (hCont (v217, gb220) _ ⟨hHeld, (by (with_reducible repeat (first | apply Kd.R_alloc | apply Kd.R_drewN | apply Kd.R_drew)); exact Kd.R_mono HO170.out (fun _ hk => ⟨hk.1.1, ⟨hk.1.2.1, ⟨hk.1.2.2.1, ⟨hk.2, ⟨hk.1.2.2.2.1, hk.1.2.2.2.2⟩⟩⟩⟩⟩)), (by (with_reducible repeat (first | apply Kd.R_alloc | apply Kd.R_drewN | apply Kd.R_drew)); exact Kd.R_mono HO180.out (fun _ hk => ⟨hk.1.1, ⟨hk.1.2.1, ⟨hk.1.2.2.1, ⟨hk.2, ⟨hk.1.2.2.2.1, hk.1.2.2.2.2⟩⟩⟩⟩⟩)), (by (with_reducible repeat (first | apply Kd.R_alloc | apply Kd.R_drewN | apply Kd.R_drew)); exact Kd.R_mono HO192.out (fun _ hk => ⟨hk.1.1, ⟨hk.1.2.1, ⟨hk.1.2.2.1, ⟨hk.2, ⟨hk.1.2.2.2.1, hk.1.2.2.2.2⟩⟩⟩⟩⟩)), (by (with_reducible repeat (first | apply Kd.R_alloc | apply Kd.R_drewN | apply Kd.R_drew)); exact Kd.R_mono HO208.out (fun _ hk => ⟨hk.1.1, ⟨hk.1.2.1, ⟨hk.1.2.2.1, ⟨hk.2, ⟨hk.1.2.2.2.1, hk.1.2.2.2.2⟩⟩⟩⟩⟩)), (by (with_reducible repeat (first | apply Kd.R_alloc | apply Kd.R_drewN | apply Kd.R_drew)); exact Kd.R_mono HO218.out (fun _ hk => ⟨hk.1.1.1.1.1.2, ⟨hk.1.1.1.1.2, ⟨hk.1.1.1.2, ⟨hk.1.1.2, ⟨hk.1.2, hk.2⟩⟩⟩⟩⟩)), (by with_reducible exact BK172.out), (by with_reducible exact BK182.out), (by with_reducible exact BK189.out), (by with_reducible exact BK193.out), (by with_reducible exact BK200.out), (by with_reducible exact BK210.out), (by with_reducible exact BK220.out), GW220.out, GE220.out, NB172_220.out, NB220_172.out, NB182_220.out, NB220_182.out, NB189_220.out, NB220_189.out, NB193_220.out, NB220_193.out, NB200_220.out, NB220_200.out, NB210_220.out, NB220_210.out, (by with_reducible exact HB.out)⟩)
   ·skip
    refine box_step ?hg (N := 12) ?hd (cs := #[.slice none 0 0]) (t := 24) ?hr ?_; (case hd => rfl); (case hg => rfl); (case hr => first | (go_simp; done) | (go_simp; rfl))
    intro gb220 hg w70 hbox hb
    have n0_ := Aside0.mk (Kd.R_below (by with_reducible exact HO170.out) hb)
    have n1_ := Aside0.mk (Kd.R_below (by with_reducible exact HO180.out) hb)
    have n2_ := Aside0.mk (Kd.R_below (by with_reducible exact HO192.out) hb)
    have n3_ := Aside0.mk (Kd.R_below (by with_reducible exact HO208.out) hb)
    have n4_ := Aside0.mk (blk_below (g := gb172) (o := .cells #[.slice Ao26 t168.length co26] 24 (0, 0)) (by with_reducible exact BK172.out) hb)
    have n5_ := Aside0.mk (blk_below (g := gb182) (o := .cells #[.slice Ao34 t178.length co34] 24 (0, 0)) (by with_reducible exact BK182.out) hb)
    have n6_ := Aside0.mk (blk_below (g := gb189) (o := .cells #[.int .i64 t183, .int .i64 t184, .int .i64 t185, .int .i64 t186, .int .i64 t187] 26 (0, 0)) (by with_reducible exact BK189.out) hb)
    have n7_ := Aside0.mk (blk_below (g := gb193) (o := .cells #[.slice Ao47 t190.length co47] 24 (0, 0)) (by with_reducible exact BK193.out) hb)
    have n8_ := Aside0.mk (blk_below (g := gb200) (o := .cells #[.int .i64 t194, .int .i64 t195, .int .i64 t196, .int .i64 t197, .int .i64 t198] 26 (0, 0)) (by with_reducible exact BK200.out) hb)
    have n9_ := Aside0.mk (blk_below (g := gb210) (o := .cells #[.slice Ao65 t206.length co65] 24 (0, 0)) (by with_reducible exact BK210.out) hb)
    have n10_ := Aside0.mk (below_step (by with_reducible exact HB.out) hb)
    have n11_ := Aside0.mk (hbox)
    have n12_ := Aside0.mk ((by rw [hg]; exact (below_size (by with_reducible exact HB.out)) : w.heap.size ≤ gb220))
    have n13_ := Aside0.mk ((by rw [hg]; exact (below_size (by with_reducible exact HB.out)) : w.heap.size ≤ gb220))
    have n14_ := Aside0.mk ((by rw [hg]; exact Nat.ne_of_lt (blk_lt (g := gb172) (o := .cells #[.slice Ao26 t168.length co26] 24 (0, 0)) (by with_reducible exact BK172.out)) : gb172 ≠ gb220))
    have n15_ := Aside0.mk ((by rw [hg]; exact Nat.ne_of_gt (blk_lt (g := gb172) (o := .cells #[.slice Ao26 t168.length co26] 24 (0, 0)) (by with_reducible exact BK172.out)) : gb220 ≠ gb172))
    have n16_ := Aside0.mk ((by rw [hg]; exact Nat.ne_of_lt (blk_lt (g := gb182) (o := .cells #[.slice Ao34 t178.length co34] 24 (0, 0)) (by with_reducible exact BK182.out)) : gb182 ≠ gb220))
    have n17_ := Aside0.mk ((by rw [hg]; exact Nat.ne_of_gt (blk_lt (g := gb182) (o := .cells #[.slice Ao34 t178.length co34] 24 (0, 0)) (by with_reducible exact BK182.out)) : gb220 ≠ gb182))
    have n18_ := Aside0.mk ((by rw [hg]; exact Nat.ne_of_lt (blk_lt (g := gb189) (o := .cells #[.int .i64 t183, .int .i64 t184, .int .i64 t185, .int .i64 t186, .int .i64 t187] 26 (0, 0)) (by with_reducible exact BK189.out)) : gb189 ≠ gb220))
    have n19_ := Aside0.mk ((by rw [hg]; exact Nat.ne_of_gt (blk_lt (g := gb189) (o := .cells #[.int .i64 t183, .int .i64 t184, .int .i64 t185, .int .i64 t186, .int .i64 t187] 26 (0, 0)) (by with_reducible exact BK189.out)) : gb220 ≠ gb189))
    have n20_ := Aside0.mk ((by rw [hg]; exact Nat.ne_of_lt (blk_lt (g := gb193) (o := .cells #[.slice Ao47 t190.length co47] 24 (0, 0)) (by with_reducible exact BK193.out)) : gb193 ≠ gb220))
    have n21_ := Aside0.mk ((by rw [hg]; exact Nat.ne_of_gt (blk_lt (g := gb193) (o := .cells #[.slice Ao47 t190.length co47] 24 (0, 0)) (by with_reducible exact BK193.out)) : gb220 ≠ gb193))
    have n22_ := Aside0.mk ((by rw [hg]; exact Nat.ne_of_lt (blk_lt (g := gb200) (o := .cells #[.int .i64 t194, .int .i64 t195, .int .i64 t196, .int .i64 t197, .int .i64 t198] 26 (0, 0)) (by with_reducible exact BK200.out)) : gb200 ≠ gb220))
    have n23_ := Aside0.mk ((by rw [hg]; exact Nat.ne_of_gt (blk_lt (g := gb200) (o := .cells #[.int .i64 t194, .int .i64 t195, .int .i64 t196, .int .i64 t197, .int .i64 t198] 26 (0, 0)) (by with_reducible exact BK200.out)) : gb220 ≠ gb200))
    have n24_ := Aside0.mk ((by rw [hg]; exact Nat.ne_of_lt (blk_lt (g := gb210) (o := .cells #[.slice Ao65 t206.length co65] 24 (0, 0)) (by with_reducible exact BK210.out)) : gb210 ≠ gb220))
    have n25_ := Aside0.mk ((by rw [hg]; exact Nat.ne_of_gt (blk_lt (g := gb210) (o := .cells #[.slice Ao65 t206.length co65] 24 (0, 0)) (by with_reducible exact BK210.out)) : gb220 ≠ gb210))
    clear HO170
    clear HO180
    clear HO192
    clear HO208
    clear BK172
    clear BK182
    clear BK189
    clear BK193
    clear BK200
    clear BK210
    clear HB
    have HO170 := n0_
    have HO180 := n1_
    have HO192 := n2_
    have HO208 := n3_
    have BK172 := n4_
    have BK182 := n5_
    have BK189 := n6_
    have BK193 := n7_
    have BK200 := n8_
    have BK210 := n9_
    have HB := n10_
    have BK220 := n11_
    have GW220 := n12_
    have GE220 := n13_
    have NB172_220 := n14_
    have NB220_172 := n15_
    have NB182_220 := n16_
    have NB220_182 := n17_
    have NB189_220 := n18_
    have NB220_189 := n19_
    have NB193_220 := n20_
    have NB220_193 := n21_
    have NB200_220 := n22_
    have NB220_200 := n23_
    have NB210_220 := n24_
    have NB220_210 := n25_
    clear n0_ n1_ n2_ n3_ n4_ n5_ n6_ n7_ n8_ n9_ n10_ n11_ n12_ n13_ n14_ n15_ n16_ n17_ n18_ n19_ n20_ n21_ n22_ n23_ n24_ n25_
    clear hb hbox hg
    refine hK.out _ _ ((blk_cell BK193.out 0).trans rfl) (fun hHeld => ?_)
    clear hK K
    refine norm_ (a' := ?_) ?_ ?_
    rotate_left
    ·show Act.put _ (some 12) _ = _
     simp only [Act.put, List.setIfInBounds_toArray, List.set_cons_zero, List.set_cons_succ, i64_w, i32_w]
     rfl
    refine one_ (i := 2) (N := some 49) #[true, true, true, false, false, false, true, false, false] rfl rfl (one_of HT_.out (by kernel_rfl)) (by decide) (fun K hK => ?_)
    refine goes_ Try.func11 (by kernel_rfl) rfl #[.agg #[.slice Ao47 t190.length co47], .agg #[.int .i64 t211, .int .i64 t212, .int .i64 t213, .int .i64 t214, .int .i64 t215], .int .i64 1] (by rfl) rfl rfl (by (try simp only [List.map_toArray, List.map_cons, List.map_nil]); first | done | rfl | (simp only [List.length_drop, List.length_take]; rfl)) ?_
    with_reducible refine (queue_Put.calls 64 _ _ t190 t211 t212 t213 t214 t215 1 t216 t219 _ ?side1 ?side2 A11.out).mono ?_
    (case side1 => repeat (first | exact (Kd.R_reads' HO192.out).2.2 | (with_reducible refine Kd.C_alloc ?_ _) | (with_reducible refine Kd.C_drewN ?_ _) | (with_reducible refine Kd.C_drew ?_)))
    (case side2 => exact (Kd.R_reads' HO192.out).2.1)
    rintro e w71 ⟨v217, rfl, ho0, hb⟩
    refine ⟨_, rfl, ?_⟩
    have n0_ := Aside0.mk (Kd.R_elder' (by with_reducible exact HO170.out) (Kd.R_base ho0) hb)
    have n1_ := Aside0.mk (Kd.R_elder' (by with_reducible exact HO180.out) (Kd.R_base ho0) hb)
    have n2_ := Aside0.mk (Kd.R_elder' (by with_reducible exact HO192.out) (Kd.R_base ho0) hb)
    have n3_ := Aside0.mk (Kd.R_elder' (by with_reducible exact HO208.out) (Kd.R_base ho0) hb)
    have n4_ := Aside0.mk (Kd.R_lower (Kd.R_newB (Kd.R_newB (Kd.R_new' (Kd.R_new' (Kd.R_new' (Kd.R_new' ho0 (Kd.R_lt (by with_reducible exact HO170.out))) (Kd.R_lt (by with_reducible exact HO180.out))) (Kd.R_lt (by with_reducible exact HO192.out))) (Kd.R_lt (by with_reducible exact HO208.out))) (g := gb189) (o := .cells #[.int .i64 t183, .int .i64 t184, .int .i64 t185, .int .i64 t186, .int .i64 t187] 26 (0, 0)) (by with_reducible exact BK189.out)) (g := gb200) (o := .cells #[.int .i64 t194, .int .i64 t195, .int .i64 t196, .int .i64 t197, .int .i64 t198] 26 (0, 0)) (by with_reducible exact BK200.out)) (below_size (by with_reducible exact HB.out)))
    have n5_ := Aside0.mk (blk_below (g := gb172) (o := .cells #[.slice Ao26 t168.length co26] 24 (0, 0)) (by with_reducible exact BK172.out) hb)
    have n6_ := Aside0.mk (blk_below (g := gb182) (o := .cells #[.slice Ao34 t178.length co34] 24 (0, 0)) (by with_reducible exact BK182.out) hb)
    have n7_ := Aside0.mk (blk_below (g := gb189) (o := .cells #[.int .i64 t183, .int .i64 t184, .int .i64 t185, .int .i64 t186, .int .i64 t187] 26 (0, 0)) (by with_reducible exact BK189.out) hb)
    have n8_ := Aside0.mk (blk_below (g := gb193) (o := .cells #[.slice Ao47 t190.length co47] 24 (0, 0)) (by with_reducible exact BK193.out) hb)
    have n9_ := Aside0.mk (blk_below (g := gb200) (o := .cells #[.int .i64 t194, .int .i64 t195, .int .i64 t196, .int .i64 t197, .int .i64 t198] 26 (0, 0)) (by with_reducible exact BK200.out) hb)
    have n10_ := Aside0.mk (blk_below (g := gb210) (o := .cells #[.slice Ao65 t206.length co65] 24 (0, 0)) (by with_reducible exact BK210.out) hb)
    have n11_ := Aside0.mk (blk_below (g := gb220) (o := .cells #[.slice none 0 0] 24 (0, 0)) (by with_reducible exact BK220.out) hb)
    have n12_ := Aside0.mk (below_step (by with_reducible exact HB.out) hb)
    clear HO170
    clear HO180
    clear HO192
    clear HO208
    clear BK172
    clear BK182
    clear BK189
    clear BK193
    clear BK200
    clear BK210
    clear BK220
    clear HB
    have HO170 := n0_
    have HO180 := n1_
    have HO192 := n2_
    have HO208 := n3_
    have HO218 := n4_
    have BK172 := n5_
    have BK182 := n6_
    have BK189 := n7_
    have BK193 := n8_
    have BK200 := n9_
    have BK210 := n10_
    have BK220 := n11_
    have HB := n12_
    clear n0_ n1_ n2_ n3_ n4_ n5_ n6_ n7_ n8_ n9_ n10_ n11_ n12_
    (try clear hb)
    (try clear hb2)
    (try clear hk)
    (try clear hi)
    (try clear ho0)
    refine hK.out _ _ ((blk_cell BK193.out 0).trans rfl) (fun hHeld => ?_)
    clear hK K
    refine norm_ (a' := ?_) ?_ ?_
    rotate_left
    ·show Act.put _ (some 49) _ = _
     simp only [Act.put, List.setIfInBounds_toArray, List.set_cons_zero, List.set_cons_succ, i64_w, i32_w]
     rfl
    refine pure_ (i := 3) (N := some 46) (v := ?_) (a' := ?_) #[true, true, true, true, false, false, true, false, false] rfl rfl (any_of HT_.out (by kernel_rfl)) (fun _ _ _ h => h) (Or.inl ⟨by rfl, ?_⟩) ?_ ?_
    rotate_left
    ·intro w'
     go_simp
     with_reducible rfl
    rotate_left
    ·simp only [Act.put, List.setIfInBounds_toArray, List.set_cons_zero, List.set_cons_succ, i64_w, i32_w]
     rfl
    refine pure_ (i := 4) (N := some 50) (v := ?_) (a' := ?_) #[true, true, true, true, true, false, true, false, false] rfl rfl (any_of HT_.out (by kernel_rfl)) (fun _ _ _ h => h) (Or.inl ⟨by rfl, ?_⟩) ?_ ?_
    rotate_left
    ·intro w'
     go_simp
     with_reducible rfl
    rotate_left
    ·simp only [Act.put, List.setIfInBounds_toArray, List.set_cons_zero, List.set_cons_succ, i64_w, i32_w]
     rfl
    refine pure_ (i := 5) (N := some 51) (v := ?_) (a' := ?_) #[true, true, true, true, true, true, true, false, false] rfl rfl (any_of HT_.out (by kernel_rfl)) (fun _ _ _ h => h) (Or.inl ⟨by rfl, ?_⟩) ?_ ?_
    rotate_left
    ·intro w'
     go_simp
     with_reducible rfl
    rotate_left
    ·simp only [Act.put, List.setIfInBounds_toArray, List.set_cons_zero, List.set_cons_succ, i64_w, i32_w]
     rfl
    exact norm_ (by simp only [putAll, Act.put, List.setIfInBounds_toArray, List.set_cons_zero, List.set_cons_succ]) (hCont (v217, gb220) _ ⟨hHeld, (by (with_reducible repeat (first | apply Kd.R_alloc | apply Kd.R_drewN | apply Kd.R_drew)); exact Kd.R_mono HO170.out (fun _ hk => ⟨hk.1.1, ⟨hk.1.2.1, ⟨hk.1.2.2.1, ⟨hk.2, ⟨hk.1.2.2.2.1, hk.1.2.2.2.2⟩⟩⟩⟩⟩)), (by (with_reducible repeat (first | apply Kd.R_alloc | apply Kd.R_drewN | apply Kd.R_drew)); exact Kd.R_mono HO180.out (fun _ hk => ⟨hk.1.1, ⟨hk.1.2.1, ⟨hk.1.2.2.1, ⟨hk.2, ⟨hk.1.2.2.2.1, hk.1.2.2.2.2⟩⟩⟩⟩⟩)), (by (with_reducible repeat (first | apply Kd.R_alloc | apply Kd.R_drewN | apply Kd.R_drew)); exact Kd.R_mono HO192.out (fun _ hk => ⟨hk.1.1, ⟨hk.1.2.1, ⟨hk.1.2.2.1, ⟨hk.2, ⟨hk.1.2.2.2.1, hk.1.2.2.2.2⟩⟩⟩⟩⟩)), (by (with_reducible repeat (first | apply Kd.R_alloc | apply Kd.R_drewN | apply Kd.R_drew)); exact Kd.R_mono HO208.out (fun _ hk => ⟨hk.1.1, ⟨hk.1.2.1, ⟨hk.1.2.2.1, ⟨hk.2, ⟨hk.1.2.2.2.1, hk.1.2.2.2.2⟩⟩⟩⟩⟩)), (by (with_reducible repeat (first | apply Kd.R_alloc | apply Kd.R_drewN | apply Kd.R_drew)); exact Kd.R_mono HO218.out (fun _ hk => ⟨hk.1.1.1.1.1.2, ⟨hk.1.1.1.1.2, ⟨hk.1.1.1.2, ⟨hk.1.1.2, ⟨hk.1.2, hk.2⟩⟩⟩⟩⟩)), (by with_reducible exact BK172.out), (by with_reducible exact BK182.out), (by with_reducible exact BK189.out), (by with_reducible exact BK193.out), (by with_reducible exact BK200.out), (by with_reducible exact BK210.out), (by with_reducible exact BK220.out), GW220.out, GE220.out, NB172_220.out, NB220_172.out, NB182_220.out, NB220_182.out, NB189_220.out, NB220_189.out, NB193_220.out, NB220_193.out, NB200_220.out, NB220_200.out, NB210_220.out, NB220_210.out, (by with_reducible exact HB.out)⟩)
  ·skip
   refine box_step ?hg (N := 12) ?hd (cs := #[.slice none 0 0]) (t := 24) ?hr ?_; (case hd => rfl); (case hg => rfl); (case hr => first | (go_simp; done) | (go_simp; rfl))
   intro gb220 hg w69 hbox hb
   have n0_ := Aside0.mk (Kd.R_below (by with_reducible exact HO170.out) hb)
   have n1_ := Aside0.mk (Kd.R_below (by with_reducible exact HO180.out) hb)
   have n2_ := Aside0.mk (Kd.R_below (by with_reducible exact HO192.out) hb)
   have n3_ := Aside0.mk (Kd.R_below (by with_reducible exact HO208.out) hb)
   have n4_ := Aside0.mk (blk_below (g := gb172) (o := .cells #[.slice Ao26 t168.length co26] 24 (0, 0)) (by with_reducible exact BK172.out) hb)
   have n5_ := Aside0.mk (blk_below (g := gb182) (o := .cells #[.slice Ao34 t178.length co34] 24 (0, 0)) (by with_reducible exact BK182.out) hb)
   have n6_ := Aside0.mk (blk_below (g := gb189) (o := .cells #[.int .i64 t183, .int .i64 t184, .int .i64 t185, .int .i64 t186, .int .i64 t187] 26 (0, 0)) (by with_reducible exact BK189.out) hb)
   have n7_ := Aside0.mk (blk_below (g := gb193) (o := .cells #[.slice Ao47 t190.length co47] 24 (0, 0)) (by with_reducible exact BK193.out) hb)
   have n8_ := Aside0.mk (blk_below (g := gb200) (o := .cells #[.int .i64 t194, .int .i64 t195, .int .i64 t196, .int .i64 t197, .int .i64 t198] 26 (0, 0)) (by with_reducible exact BK200.out) hb)
   have n9_ := Aside0.mk (blk_below (g := gb210) (o := .cells #[.slice Ao65 t206.length co65] 24 (0, 0)) (by with_reducible exact BK210.out) hb)
   have n10_ := Aside0.mk (below_step (by with_reducible exact HB.out) hb)
   have n11_ := Aside0.mk (hbox)
   have n12_ := Aside0.mk ((by rw [hg]; exact (below_size (by with_reducible exact HB.out)) : w.heap.size ≤ gb220))
   have n13_ := Aside0.mk ((by rw [hg]; exact (below_size (by with_reducible exact HB.out)) : w.heap.size ≤ gb220))
   have n14_ := Aside0.mk ((by rw [hg]; exact Nat.ne_of_lt (blk_lt (g := gb172) (o := .cells #[.slice Ao26 t168.length co26] 24 (0, 0)) (by with_reducible exact BK172.out)) : gb172 ≠ gb220))
   have n15_ := Aside0.mk ((by rw [hg]; exact Nat.ne_of_gt (blk_lt (g := gb172) (o := .cells #[.slice Ao26 t168.length co26] 24 (0, 0)) (by with_reducible exact BK172.out)) : gb220 ≠ gb172))
   have n16_ := Aside0.mk ((by rw [hg]; exact Nat.ne_of_lt (blk_lt (g := gb182) (o := .cells #[.slice Ao34 t178.length co34] 24 (0, 0)) (by with_reducible exact BK182.out)) : gb182 ≠ gb220))
   have n17_ := Aside0.mk ((by rw [hg]; exact Nat.ne_of_gt (blk_lt (g := gb182) (o := .cells #[.slice Ao34 t178.length co34] 24 (0, 0)) (by with_reducible exact BK182.out)) : gb220 ≠ gb182))
   have n18_ := Aside0.mk ((by rw [hg]; exact Nat.ne_of_lt (blk_lt (g := gb189) (o := .cells #[.int .i64 t183, .int .i64 t184, .int .i64 t185, .int .i64 t186, .int .i64 t187] 26 (0, 0)) (by with_reducible exact BK189.out)) : gb189 ≠ gb220))
   have n19_ := Aside0.mk ((by rw [hg]; exact Nat.ne_of_gt (blk_lt (g := gb189) (o := .cells #[.int .i64 t183, .int .i64 t184, .int .i64 t185, .int .i64 t186, .int .i64 t187] 26 (0, 0)) (by with_reducible exact BK189.out)) : gb220 ≠ gb189))
   have n20_ := Aside0.mk ((by rw [hg]; exact Nat.ne_of_lt (blk_lt (g := gb193) (o := .cells #[.slice Ao47 t190.length co47] 24 (0, 0)) (by with_reducible exact BK193.out)) : gb193 ≠ gb220))
   have n21_ := Aside0.mk ((by rw [hg]; exact Nat.ne_of_gt (blk_lt (g := gb193) (o := .cells #[.slice Ao47 t190.length co47] 24 (0, 0)) (by with_reducible exact BK193.out)) : gb220 ≠ gb193))
   have n22_ := Aside0.mk ((by rw [hg]; exact Nat.ne_of_lt (blk_lt (g := gb200) (o := .cells #[.int .i64 t194, .int .i64 t195, .int .i64 t196, .int .i64 t197, .int .i64 t198] 26 (0, 0)) (by with_reducible exact BK200.out)) : gb200 ≠ gb220))
   have n23_ := Aside0.mk ((by rw [hg]; exact Nat.ne_of_gt (blk_lt (g := gb200) (o := .cells #[.int .i64 t194, .int .i64 t195, .int .i64 t196, .int .i64 t197, .int .i64 t198] 26 (0, 0)) (by with_reducible exact BK200.out)) : gb220 ≠ gb200))
   have n24_ := Aside0.mk ((by rw [hg]; exact Nat.ne_of_lt (blk_lt (g := gb210) (o := .cells #[.slice Ao65 t206.length co65] 24 (0, 0)) (by with_reducible exact BK210.out)) : gb210 ≠ gb220))
   have n25_ := Aside0.mk ((by rw [hg]; exact Nat.ne_of_gt (blk_lt (g := gb210) (o := .cells #[.slice Ao65 t206.length co65] 24 (0, 0)) (by with_reducible exact BK210.out)) : gb220 ≠ gb210))
   clear HO170
   clear HO180
   clear HO192
   clear HO208
   clear BK172
   clear BK182
   clear BK189
   clear BK193
   clear BK200
   clear BK210
   clear HB
   have HO170 := n0_
   have HO180 := n1_
   have HO192 := n2_
   have HO208 := n3_
   have BK172 := n4_
   have BK182 := n5_
   have BK189 := n6_
   have BK193 := n7_
   have BK200 := n8_
   have BK210 := n9_
   have HB := n10_
   have BK220 := n11_
   have GW220 := n12_
   have GE220 := n13_
   have NB172_220 := n14_
   have NB220_172 := n15_
   have NB182_220 := n16_
   have NB220_182 := n17_
   have NB189_220 := n18_
   have NB220_189 := n19_
   have NB193_220 := n20_
   have NB220_193 := n21_
   have NB200_220 := n22_
   have NB220_200 := n23_
   have NB210_220 := n24_
   have NB220_210 := n25_
   clear n0_ n1_ n2_ n3_ n4_ n5_ n6_ n7_ n8_ n9_ n10_ n11_ n12_ n13_ n14_ n15_ n16_ n17_ n18_ n19_ n20_ n21_ n22_ n23_ n24_ n25_
   clear hb hbox hg
   refine hK.out _ _ ((blk_cell BK193.out 0).trans rfl) (fun hHeld => ?_)
   clear hK K
   refine norm_ (a' := ?_) ?_ ?_
   rotate_left
   ·show Act.put _ (some 12) _ = _
    simp only [Act.put, List.setIfInBounds_toArray, List.set_cons_zero, List.set_cons_succ, i64_w, i32_w]
    rfl
   refine one_ (i := 1) (N := some 48) #[true, true, false, false, false, false, true, false, false] rfl rfl (one_of HT_.out (by kernel_rfl)) (by decide) (fun K hK => ?_)
   refine goes_ Try.func23 (by kernel_rfl) rfl #[.int .i64 2, .int .i64 0] (by rfl) rfl rfl (by (try simp only [List.map_toArray, List.map_cons, List.map_nil]); first | done | rfl | (simp only [List.length_drop, List.length_take]; rfl)) ?_
   with_reducible refine (slotmeshlaw27_reading.calls 2 0 t211 t212 t213 t214 t215 _ A10.out).mono ?_
   rintro e w70 ⟨rfl, hb⟩
   refine ⟨_, rfl, ?_⟩
   have n0_ := Aside0.mk (Kd.R_below (by with_reducible exact HO170.out) hb)
   have n1_ := Aside0.mk (Kd.R_below (by with_reducible exact HO180.out) hb)
   have n2_ := Aside0.mk (Kd.R_below (by with_reducible exact HO192.out) hb)
   have n3_ := Aside0.mk (Kd.R_below (by with_reducible exact HO208.out) hb)
   have n4_ := Aside0.mk (blk_below (g := gb172) (o := .cells #[.slice Ao26 t168.length co26] 24 (0, 0)) (by with_reducible exact BK172.out) hb)
   have n5_ := Aside0.mk (blk_below (g := gb182) (o := .cells #[.slice Ao34 t178.length co34] 24 (0, 0)) (by with_reducible exact BK182.out) hb)
   have n6_ := Aside0.mk (blk_below (g := gb189) (o := .cells #[.int .i64 t183, .int .i64 t184, .int .i64 t185, .int .i64 t186, .int .i64 t187] 26 (0, 0)) (by with_reducible exact BK189.out) hb)
   have n7_ := Aside0.mk (blk_below (g := gb193) (o := .cells #[.slice Ao47 t190.length co47] 24 (0, 0)) (by with_reducible exact BK193.out) hb)
   have n8_ := Aside0.mk (blk_below (g := gb200) (o := .cells #[.int .i64 t194, .int .i64 t195, .int .i64 t196, .int .i64 t197, .int .i64 t198] 26 (0, 0)) (by with_reducible exact BK200.out) hb)
   have n9_ := Aside0.mk (blk_below (g := gb210) (o := .cells #[.slice Ao65 t206.length co65] 24 (0, 0)) (by with_reducible exact BK210.out) hb)
   have n10_ := Aside0.mk (blk_below (g := gb220) (o := .cells #[.slice none 0 0] 24 (0, 0)) (by with_reducible exact BK220.out) hb)
   have n11_ := Aside0.mk (below_step (by with_reducible exact HB.out) hb)
   clear HO170
   clear HO180
   clear HO192
   clear HO208
   clear BK172
   clear BK182
   clear BK189
   clear BK193
   clear BK200
   clear BK210
   clear BK220
   clear HB
   have HO170 := n0_
   have HO180 := n1_
   have HO192 := n2_
   have HO208 := n3_
   have BK172 := n4_
   have BK182 := n5_
   have BK189 := n6_
   have BK193 := n7_
   have BK200 := n8_
   have BK210 := n9_
   have BK220 := n10_
   have HB := n11_
   clear n0_ n1_ n2_ n3_ n4_ n5_ n6_ n7_ n8_ n9_ n10_ n11_
   (try clear hb)
   (try clear hb2)
   (try clear hk)
   (try clear hi)
   refine hK.out _ _ ((blk_cell BK193.out 0).trans rfl) (fun hHeld => ?_)
   clear hK K
   refine norm_ (a' := ?_) ?_ ?_
   rotate_left
   ·show Act.put _ (some 48) _ = _
    simp only [Act.put, List.setIfInBounds_toArray, List.set_cons_zero, List.set_cons_succ, i64_w, i32_w]
    rfl
   refine one_ (i := 2) (N := some 49) #[true, true, true, false, false, false, true, false, false] rfl rfl (one_of HT_.out (by kernel_rfl)) (by decide) (fun K hK => ?_)
   refine goes_ Try.func11 (by kernel_rfl) rfl #[.agg #[.slice Ao47 t190.length co47], .agg #[.int .i64 t211, .int .i64 t212, .int .i64 t213, .int .i64 t214, .int .i64 t215], .int .i64 1] (by rfl) rfl rfl (by (try simp only [List.map_toArray, List.map_cons, List.map_nil]); first | done | rfl | (simp only [List.length_drop, List.length_take]; rfl)) ?_
   with_reducible refine (queue_Put.calls 64 _ _ t190 t211 t212 t213 t214 t215 1 t216 t219 _ ?side1 ?side2 A11.out).mono ?_
   (case side1 => repeat (first | exact (Kd.R_reads' HO192.out).2.2 | (with_reducible refine Kd.C_alloc ?_ _) | (with_reducible refine Kd.C_drewN ?_ _) | (with_reducible refine Kd.C_drew ?_)))
   (case side2 => exact (Kd.R_reads' HO192.out).2.1)
   rintro e w71 ⟨v217, rfl, ho0, hb⟩
   refine ⟨_, rfl, ?_⟩
   have n0_ := Aside0.mk (Kd.R_elder' (by with_reducible exact HO170.out) (Kd.R_base ho0) hb)
   have n1_ := Aside0.mk (Kd.R_elder' (by with_reducible exact HO180.out) (Kd.R_base ho0) hb)
   have n2_ := Aside0.mk (Kd.R_elder' (by with_reducible exact HO192.out) (Kd.R_base ho0) hb)
   have n3_ := Aside0.mk (Kd.R_elder' (by with_reducible exact HO208.out) (Kd.R_base ho0) hb)
   have n4_ := Aside0.mk (Kd.R_lower (Kd.R_newB (Kd.R_newB (Kd.R_new' (Kd.R_new' (Kd.R_new' (Kd.R_new' ho0 (Kd.R_lt (by with_reducible exact HO170.out))) (Kd.R_lt (by with_reducible exact HO180.out))) (Kd.R_lt (by with_reducible exact HO192.out))) (Kd.R_lt (by with_reducible exact HO208.out))) (g := gb189) (o := .cells #[.int .i64 t183, .int .i64 t184, .int .i64 t185, .int .i64 t186, .int .i64 t187] 26 (0, 0)) (by with_reducible exact BK189.out)) (g := gb200) (o := .cells #[.int .i64 t194, .int .i64 t195, .int .i64 t196, .int .i64 t197, .int .i64 t198] 26 (0, 0)) (by with_reducible exact BK200.out)) (below_size (by with_reducible exact HB.out)))
   have n5_ := Aside0.mk (blk_below (g := gb172) (o := .cells #[.slice Ao26 t168.length co26] 24 (0, 0)) (by with_reducible exact BK172.out) hb)
   have n6_ := Aside0.mk (blk_below (g := gb182) (o := .cells #[.slice Ao34 t178.length co34] 24 (0, 0)) (by with_reducible exact BK182.out) hb)
   have n7_ := Aside0.mk (blk_below (g := gb189) (o := .cells #[.int .i64 t183, .int .i64 t184, .int .i64 t185, .int .i64 t186, .int .i64 t187] 26 (0, 0)) (by with_reducible exact BK189.out) hb)
   have n8_ := Aside0.mk (blk_below (g := gb193) (o := .cells #[.slice Ao47 t190.length co47] 24 (0, 0)) (by with_reducible exact BK193.out) hb)
   have n9_ := Aside0.mk (blk_below (g := gb200) (o := .cells #[.int .i64 t194, .int .i64 t195, .int .i64 t196, .int .i64 t197, .int .i64 t198] 26 (0, 0)) (by with_reducible exact BK200.out) hb)
   have n10_ := Aside0.mk (blk_below (g := gb210) (o := .cells #[.slice Ao65 t206.length co65] 24 (0, 0)) (by with_reducible exact BK210.out) hb)
   have n11_ := Aside0.mk (blk_below (g := gb220) (o := .cells #[.slice none 0 0] 24 (0, 0)) (by with_reducible exact BK220.out) hb)
   have n12_ := Aside0.mk (below_step (by with_reducible exact HB.out) hb)
   clear HO170
   clear HO180
   clear HO192
   clear HO208
   clear BK172
   clear BK182
   clear BK189
   clear BK193
   clear BK200
   clear BK210
   clear BK220
   clear HB
   have HO170 := n0_
   have HO180 := n1_
   have HO192 := n2_
   have HO208 := n3_
   have HO218 := n4_
   have BK172 := n5_
   have BK182 := n6_
   have BK189 := n7_
   have BK193 := n8_
   have BK200 := n9_
   have BK210 := n10_
   have BK220 := n11_
   have HB := n12_
   clear n0_ n1_ n2_ n3_ n4_ n5_ n6_ n7_ n8_ n9_ n10_ n11_ n12_
   (try clear hb)
   (try clear hb2)
   (try clear hk)
   (try clear hi)
   (try clear ho0)
   refine hK.out _ _ ((blk_cell BK193.out 0).trans rfl) (fun hHeld => ?_)
   clear hK K
   refine norm_ (a' := ?_) ?_ ?_
   rotate_left
   ·show Act.put _ (some 49) _ = _
    simp only [Act.put, List.setIfInBounds_toArray, List.set_cons_zero, List.set_cons_succ, i64_w, i32_w]
    rfl
   refine pure_ (i := 3) (N := some 46) (v := ?_) (a' := ?_) #[true, true, true, true, false, false, true, false, false] rfl rfl (any_of HT_.out (by kernel_rfl)) (fun _ _ _ h => h) (Or.inl ⟨by rfl, ?_⟩) ?_ ?_
   rotate_left
   ·intro w'
    go_simp
    with_reducible rfl
   rotate_left
   ·simp only [Act.put, List.setIfInBounds_toArray, List.set_cons_zero, List.set_cons_succ, i64_w, i32_w]
    rfl
   refine pure_ (i := 4) (N := some 50) (v := ?_) (a' := ?_) #[true, true, true, true, true, false, true, false, false] rfl rfl (any_of HT_.out (by kernel_rfl)) (fun _ _ _ h => h) (Or.inl ⟨by rfl, ?_⟩) ?_ ?_
   rotate_left
   ·intro w'
    go_simp
    with_reducible rfl
   rotate_left
   ·simp only [Act.put, List.setIfInBounds_toArray, List.set_cons_zero, List.set_cons_succ, i64_w, i32_w]
    rfl
   refine pure_ (i := 5) (N := some 51) (v := ?_) (a' := ?_) #[true, true, true, true, true, true, true, false, false] rfl rfl (any_of HT_.out (by kernel_rfl)) (fun _ _ _ h => h) (Or.inl ⟨by rfl, ?_⟩) ?_ ?_
   rotate_left
   ·intro w'
    go_simp
    with_reducible rfl
   rotate_left
   ·simp only [Act.put, List.setIfInBounds_toArray, List.set_cons_zero, List.set_cons_succ, i64_w, i32_w]
    rfl
   exact norm_ (by simp only [putAll, Act.put, List.setIfInBounds_toArray, List.set_cons_zero, List.set_cons_succ]) (hCont (v217, gb220) _ ⟨hHeld, (by (with_reducible repeat (first | apply Kd.R_alloc | apply Kd.R_drewN | apply Kd.R_drew)); exact Kd.R_mono HO170.out (fun _ hk => ⟨hk.1.1, ⟨hk.1.2.1, ⟨hk.1.2.2.1, ⟨hk.2, ⟨hk.1.2.2.2.1, hk.1.2.2.2.2⟩⟩⟩⟩⟩)), (by (with_reducible repeat (first | apply Kd.R_alloc | apply Kd.R_drewN | apply Kd.R_drew)); exact Kd.R_mono HO180.out (fun _ hk => ⟨hk.1.1, ⟨hk.1.2.1, ⟨hk.1.2.2.1, ⟨hk.2, ⟨hk.1.2.2.2.1, hk.1.2.2.2.2⟩⟩⟩⟩⟩)), (by (with_reducible repeat (first | apply Kd.R_alloc | apply Kd.R_drewN | apply Kd.R_drew)); exact Kd.R_mono HO192.out (fun _ hk => ⟨hk.1.1, ⟨hk.1.2.1, ⟨hk.1.2.2.1, ⟨hk.2, ⟨hk.1.2.2.2.1, hk.1.2.2.2.2⟩⟩⟩⟩⟩)), (by (with_reducible repeat (first | apply Kd.R_alloc | apply Kd.R_drewN | apply Kd.R_drew)); exact Kd.R_mono HO208.out (fun _ hk => ⟨hk.1.1, ⟨hk.1.2.1, ⟨hk.1.2.2.1, ⟨hk.2, ⟨hk.1.2.2.2.1, hk.1.2.2.2.2⟩⟩⟩⟩⟩)), (by (with_reducible repeat (first | apply Kd.R_alloc | apply Kd.R_drewN | apply Kd.R_drew)); exact Kd.R_mono HO218.out (fun _ hk => ⟨hk.1.1.1.1.1.2, ⟨hk.1.1.1.1.2, ⟨hk.1.1.1.2, ⟨hk.1.1.2, ⟨hk.1.2, hk.2⟩⟩⟩⟩⟩)), (by with_reducible exact BK172.out), (by with_reducible exact BK182.out), (by with_reducible exact BK189.out), (by with_reducible exact BK193.out), (by with_reducible exact BK200.out), (by with_reducible exact BK210.out), (by with_reducible exact BK220.out), GW220.out, GE220.out, NB172_220.out, NB220_172.out, NB182_220.out, NB220_182.out, NB189_220.out, NB220_189.out, NB193_220.out, NB220_193.out, NB200_220.out, NB220_200.out, NB210_220.out, NB220_210.out, (by with_reducible exact HB.out)⟩)
 rintro ⟨v217, gb220⟩ w72 ⟨hS_, h0_, h1_, h2_, h3_, h4_, h5_, h6_, h7_, h8_, h9_, h10_, h11_, h12_, h13_, h14_, h15_, h16_, h17_, h18_, h19_, h20_, h21_, h22_, h23_, h24_, h25_, h26_⟩
 have n0_ : Aside0 (Kd.R k26 26 w72 w.heap.size (fun k_ => some k_ ≠ (.slice Ao34 t178.length co34 : Value).ownBlock ∧ some k_ ≠ (.slice Ao47 t190.length co47 : Value).ownBlock ∧ some k_ ≠ (.slice Ao65 t206.length co65 : Value).ownBlock ∧ some k_ ≠ (v217 : Value).ownBlock ∧ k_ ≠ gb189 ∧ k_ ≠ gb200) (.slice Ao26 t168.length co26) t168) := ⟨h0_⟩
 have n1_ : Aside0 (Kd.R k26 26 w72 w.heap.size (fun k_ => some k_ ≠ (.slice Ao26 t168.length co26 : Value).ownBlock ∧ some k_ ≠ (.slice Ao47 t190.length co47 : Value).ownBlock ∧ some k_ ≠ (.slice Ao65 t206.length co65 : Value).ownBlock ∧ some k_ ≠ (v217 : Value).ownBlock ∧ k_ ≠ gb189 ∧ k_ ≠ gb200) (.slice Ao34 t178.length co34) t178) := ⟨h1_⟩
 have n2_ : Aside0 (Kd.R k26 26 w72 w.heap.size (fun k_ => some k_ ≠ (.slice Ao26 t168.length co26 : Value).ownBlock ∧ some k_ ≠ (.slice Ao34 t178.length co34 : Value).ownBlock ∧ some k_ ≠ (.slice Ao65 t206.length co65 : Value).ownBlock ∧ some k_ ≠ (v217 : Value).ownBlock ∧ k_ ≠ gb189 ∧ k_ ≠ gb200) (.slice Ao47 t190.length co47) t190) := ⟨h2_⟩
 have n3_ : Aside0 (Kd.R k26 26 w72 w.heap.size (fun k_ => some k_ ≠ (.slice Ao26 t168.length co26 : Value).ownBlock ∧ some k_ ≠ (.slice Ao34 t178.length co34 : Value).ownBlock ∧ some k_ ≠ (.slice Ao47 t190.length co47 : Value).ownBlock ∧ some k_ ≠ (v217 : Value).ownBlock ∧ k_ ≠ gb189 ∧ k_ ≠ gb200) (.slice Ao65 t206.length co65) t206) := ⟨h3_⟩
 have n4_ : Aside0 (Kd.R k26 26 w72 w.heap.size (fun k_ => some k_ ≠ (.slice Ao26 t168.length co26 : Value).ownBlock ∧ some k_ ≠ (.slice Ao34 t178.length co34 : Value).ownBlock ∧ some k_ ≠ (.slice Ao47 t190.length co47 : Value).ownBlock ∧ some k_ ≠ (.slice Ao65 t206.length co65 : Value).ownBlock ∧ k_ ≠ gb189 ∧ k_ ≠ gb200) v217 t216) := ⟨h4_⟩
 have n5_ : Aside0 (w72.heap[gb172]? = some (.cells #[.slice Ao26 t168.length co26] 24 (0, 0))) := ⟨h5_⟩
 have n6_ : Aside0 (w72.heap[gb182]? = some (.cells #[.slice Ao34 t178.length co34] 24 (0, 0))) := ⟨h6_⟩
 have n7_ : Aside0 (w72.heap[gb189]? = some (.cells #[.int .i64 t183, .int .i64 t184, .int .i64 t185, .int .i64 t186, .int .i64 t187] 26 (0, 0))) := ⟨h7_⟩
 have n8_ : Aside0 (w72.heap[gb193]? = some (.cells #[.slice Ao47 t190.length co47] 24 (0, 0))) := ⟨h8_⟩
 have n9_ : Aside0 (w72.heap[gb200]? = some (.cells #[.int .i64 t194, .int .i64 t195, .int .i64 t196, .int .i64 t197, .int .i64 t198] 26 (0, 0))) := ⟨h9_⟩
 have n10_ : Aside0 (w72.heap[gb210]? = some (.cells #[.slice Ao65 t206.length co65] 24 (0, 0))) := ⟨h10_⟩
 have n11_ : Aside0 (w72.heap[gb220]? = some (.cells #[.slice none 0 0] 24 (0, 0))) := ⟨h11_⟩
 have n12_ : Aside0 (w.heap.size ≤ gb220) := ⟨h12_⟩
 have n13_ : Aside0 (w.heap.size ≤ gb220) := ⟨h13_⟩
 have n14_ : Aside0 (gb172 ≠ gb220) := ⟨h14_⟩
 have n15_ : Aside0 (gb220 ≠ gb172) := ⟨h15_⟩
 have n16_ : Aside0 (gb182 ≠ gb220) := ⟨h16_⟩
 have n17_ : Aside0 (gb220 ≠ gb182) := ⟨h17_⟩
 have n18_ : Aside0 (gb189 ≠ gb220) := ⟨h18_⟩
 have n19_ : Aside0 (gb220 ≠ gb189) := ⟨h19_⟩
 have n20_ : Aside0 (gb193 ≠ gb220) := ⟨h20_⟩
 have n21_ : Aside0 (gb220 ≠ gb193) := ⟨h21_⟩
 have n22_ : Aside0 (gb200 ≠ gb220) := ⟨h22_⟩
 have n23_ : Aside0 (gb220 ≠ gb200) := ⟨h23_⟩
 have n24_ : Aside0 (gb210 ≠ gb220) := ⟨h24_⟩
 have n25_ : Aside0 (gb220 ≠ gb210) := ⟨h25_⟩
 have n26_ : Aside0 (Below w.heap.size w w72) := ⟨h26_⟩
 clear HO170
 clear HO180
 clear HO192
 clear HO208
 clear BK172
 clear BK182
 clear BK189
 clear BK193
 clear BK200
 clear BK210
 clear HB
 clear h0_ h1_ h2_ h3_ h4_ h5_ h6_ h7_ h8_ h9_ h10_ h11_ h12_ h13_ h14_ h15_ h16_ h17_ h18_ h19_ h20_ h21_ h22_ h23_ h24_ h25_ h26_
 have HO170 := n0_
 have HO180 := n1_
 have HO192 := n2_
 have HO208 := n3_
 have HO218 := n4_
 have BK172 := n5_
 have BK182 := n6_
 have BK189 := n7_
 have BK193 := n8_
 have BK200 := n9_
 have BK210 := n10_
 have BK220 := n11_
 have GW220 := n12_
 have GE220 := n13_
 have NB172_220 := n14_
 have NB220_172 := n15_
 have NB182_220 := n16_
 have NB220_182 := n17_
 have NB189_220 := n18_
 have NB220_189 := n19_
 have NB193_220 := n20_
 have NB220_193 := n21_
 have NB200_220 := n22_
 have NB220_200 := n23_
 have NB210_220 := n24_
 have NB220_210 := n25_
 have HB := n26_
 clear n0_ n1_ n2_ n3_ n4_ n5_ n6_ n7_ n8_ n9_ n10_ n11_ n12_ n13_ n14_ n15_ n16_ n17_ n18_ n19_ n20_ n21_ n22_ n23_ n24_ n25_ n26_
 have hHeld : w72.cell? ⟨gb193, 0, none⟩ = some (.slice Ao47 t190.length co47) := hS_
 obtain ⟨Ao73, co73, eo73⟩ := Kd.R_slice HO218.out
 (first | subst eo73 | (injection eo73 with f1_ f2_ f3_; have f4_ := f1_.symm; have f5_ := f3_.symm; clear f1_ f2_ f3_; subst f4_; subst f5_))
 refine norm_ (a' := ?_) ?_ ?_
 rotate_left
 ·simp only [putAll, Act.put, List.setIfInBounds_toArray, List.set_cons_zero, List.set_cons_succ]
  rfl
 refine one_ (i := 7) (N := none) #[true, true, true, true, true, true, true, true, false] rfl rfl (one_of HT_.out (by kernel_rfl)) (by decide) (fun K hK => ?_)
 have hs74 : w72.cell? ⟨gb220, 0, none⟩ = some (.slice none 0 0) := (blk_cell BK220.out 0).trans rfl
 have hfs74 := blk_frozen BK220.out 0
 have hns74_0 := NB172_220.out
 have hns74_1 := NB182_220.out
 have hns74_2 := NB189_220.out
 have hns74_3 := NB193_220.out
 have hns74_4 := NB200_220.out
 have hns74_5 := NB210_220.out
 have hms74_0 := NB220_172.out
 have hms74_1 := NB220_182.out
 have hms74_2 := NB220_189.out
 have hms74_3 := NB220_193.out
 have hms74_4 := NB220_200.out
 have hms74_5 := NB220_210.out
 refine skip_ (w1 := ?_) (by rfl) rfl ?_ ?_
 rotate_left
 ·go_simp
  rfl
 refine hK.out _ _ (((cell_far (p := ⟨gb220, _, none⟩) NB193_220.out _).trans (hHeld))) (fun hHeld => ?_)
 clear hK K
 refine pure_ (i := 8) (N := some 13) (v := ?_) (a' := ?_) #[true, true, true, true, true, true, true, true, true] rfl rfl (any_of HT_.out (by kernel_rfl)) (fun _ _ _ h => h) (Or.inl ⟨by rfl, ?_⟩) ?_ ?_
 rotate_left
 ·intro w'
  go_simp
  with_reducible rfl
 rotate_left
 ·simp only [Act.put, List.setIfInBounds_toArray, List.set_cons_zero, List.set_cons_succ, i64_w, i32_w]
  rfl
 refine done_ (done_of HT_.out (by kernel_rfl)) ?_
 have n0_ : Aside0 (Kd.R k26 26 (w72.setCell ⟨gb220, 0, none⟩ (.slice Ao73 t216.length co73)) w.heap.size (fun k_ => some k_ ≠ (.slice Ao34 t178.length co34 : Value).ownBlock ∧ some k_ ≠ (.slice Ao47 t190.length co47 : Value).ownBlock ∧ some k_ ≠ (.slice Ao65 t206.length co65 : Value).ownBlock ∧ some k_ ≠ (.slice Ao73 t216.length co73 : Value).ownBlock ∧ k_ ≠ gb189 ∧ k_ ≠ gb200) (.slice Ao26 t168.length co26) t168) := ⟨by (with_reducible repeat (first | apply Kd.R_alloc | apply Kd.R_drewN | apply Kd.R_drew)); exact Kd.R_mono (Kd.R_far (p := ⟨gb220, 0, none⟩) (Kd.R_types HO170.out BK220.out (by decide)) (fun _ hk => hk.2) (.slice Ao73 t216.length co73)) (fun _ hk => ⟨hk.1.1, ⟨hk.1.2.1, ⟨hk.1.2.2.1, ⟨hk.1.2.2.2.1, ⟨hk.1.2.2.2.2.1, hk.1.2.2.2.2.2⟩⟩⟩⟩⟩)⟩
 have n1_ : Aside0 (Kd.R k26 26 (w72.setCell ⟨gb220, 0, none⟩ (.slice Ao73 t216.length co73)) w.heap.size (fun k_ => some k_ ≠ (.slice Ao26 t168.length co26 : Value).ownBlock ∧ some k_ ≠ (.slice Ao47 t190.length co47 : Value).ownBlock ∧ some k_ ≠ (.slice Ao65 t206.length co65 : Value).ownBlock ∧ some k_ ≠ (.slice Ao73 t216.length co73 : Value).ownBlock ∧ k_ ≠ gb189 ∧ k_ ≠ gb200) (.slice Ao34 t178.length co34) t178) := ⟨by (with_reducible repeat (first | apply Kd.R_alloc | apply Kd.R_drewN | apply Kd.R_drew)); exact Kd.R_mono (Kd.R_far (p := ⟨gb220, 0, none⟩) (Kd.R_types HO180.out BK220.out (by decide)) (fun _ hk => hk.2) (.slice Ao73 t216.length co73)) (fun _ hk => ⟨hk.1.1, ⟨hk.1.2.1, ⟨hk.1.2.2.1, ⟨hk.1.2.2.2.1, ⟨hk.1.2.2.2.2.1, hk.1.2.2.2.2.2⟩⟩⟩⟩⟩)⟩
 have n2_ : Aside0 (Kd.R k26 26 (w72.setCell ⟨gb220, 0, none⟩ (.slice Ao73 t216.length co73)) w.heap.size (fun k_ => some k_ ≠ (.slice Ao26 t168.length co26 : Value).ownBlock ∧ some k_ ≠ (.slice Ao34 t178.length co34 : Value).ownBlock ∧ some k_ ≠ (.slice Ao65 t206.length co65 : Value).ownBlock ∧ some k_ ≠ (.slice Ao73 t216.length co73 : Value).ownBlock ∧ k_ ≠ gb189 ∧ k_ ≠ gb200) (.slice Ao47 t190.length co47) t190) := ⟨by (with_reducible repeat (first | apply Kd.R_alloc | apply Kd.R_drewN | apply Kd.R_drew)); exact Kd.R_mono (Kd.R_far (p := ⟨gb220, 0, none⟩) (Kd.R_types HO192.out BK220.out (by decide)) (fun _ hk => hk.2) (.slice Ao73 t216.length co73)) (fun _ hk => ⟨hk.1.1, ⟨hk.1.2.1, ⟨hk.1.2.2.1, ⟨hk.1.2.2.2.1, ⟨hk.1.2.2.2.2.1, hk.1.2.2.2.2.2⟩⟩⟩⟩⟩)⟩
 have n3_ : Aside0 (Kd.R k26 26 (w72.setCell ⟨gb220, 0, none⟩ (.slice Ao73 t216.length co73)) w.heap.size (fun k_ => some k_ ≠ (.slice Ao26 t168.length co26 : Value).ownBlock ∧ some k_ ≠ (.slice Ao34 t178.length co34 : Value).ownBlock ∧ some k_ ≠ (.slice Ao47 t190.length co47 : Value).ownBlock ∧ some k_ ≠ (.slice Ao73 t216.length co73 : Value).ownBlock ∧ k_ ≠ gb189 ∧ k_ ≠ gb200) (.slice Ao65 t206.length co65) t206) := ⟨by (with_reducible repeat (first | apply Kd.R_alloc | apply Kd.R_drewN | apply Kd.R_drew)); exact Kd.R_mono (Kd.R_far (p := ⟨gb220, 0, none⟩) (Kd.R_types HO208.out BK220.out (by decide)) (fun _ hk => hk.2) (.slice Ao73 t216.length co73)) (fun _ hk => ⟨hk.1.1, ⟨hk.1.2.1, ⟨hk.1.2.2.1, ⟨hk.1.2.2.2.1, ⟨hk.1.2.2.2.2.1, hk.1.2.2.2.2.2⟩⟩⟩⟩⟩)⟩
 have n4_ : Aside0 (Kd.R k26 26 (w72.setCell ⟨gb220, 0, none⟩ (.slice Ao73 t216.length co73)) w.heap.size (fun k_ => some k_ ≠ (.slice Ao26 t168.length co26 : Value).ownBlock ∧ some k_ ≠ (.slice Ao34 t178.length co34 : Value).ownBlock ∧ some k_ ≠ (.slice Ao47 t190.length co47 : Value).ownBlock ∧ some k_ ≠ (.slice Ao65 t206.length co65 : Value).ownBlock ∧ k_ ≠ gb189 ∧ k_ ≠ gb200) (.slice Ao73 t216.length co73) t216) := ⟨by (with_reducible repeat (first | apply Kd.R_alloc | apply Kd.R_drewN | apply Kd.R_drew)); exact Kd.R_mono (Kd.R_far (p := ⟨gb220, 0, none⟩) (Kd.R_types HO218.out BK220.out (by decide)) (fun _ hk => hk.2) (.slice Ao73 t216.length co73)) (fun _ hk => ⟨hk.1.1, ⟨hk.1.2.1, ⟨hk.1.2.2.1, ⟨hk.1.2.2.2.1, ⟨hk.1.2.2.2.2.1, hk.1.2.2.2.2.2⟩⟩⟩⟩⟩)⟩
 have n5_ : Aside0 ((w72.setCell ⟨gb220, 0, none⟩ (.slice Ao73 t216.length co73)).heap[gb172]? = some (.cells #[.slice Ao26 t168.length co26] 24 (0, 0))) := ⟨by (with_reducible repeat (first | refine blk_drewN ?_ _ | refine blk_drew ?_ | refine blk_alloc ?_ _)); refine blk_far ?_ NB172_220.out _; (with_reducible repeat (first | refine blk_drewN ?_ _ | refine blk_drew ?_ | refine blk_alloc ?_ _)); exact BK172.out⟩
 have n6_ : Aside0 ((w72.setCell ⟨gb220, 0, none⟩ (.slice Ao73 t216.length co73)).heap[gb182]? = some (.cells #[.slice Ao34 t178.length co34] 24 (0, 0))) := ⟨by (with_reducible repeat (first | refine blk_drewN ?_ _ | refine blk_drew ?_ | refine blk_alloc ?_ _)); refine blk_far ?_ NB182_220.out _; (with_reducible repeat (first | refine blk_drewN ?_ _ | refine blk_drew ?_ | refine blk_alloc ?_ _)); exact BK182.out⟩
 have n7_ : Aside0 ((w72.setCell ⟨gb220, 0, none⟩ (.slice Ao73 t216.length co73)).heap[gb189]? = some (.cells #[.int .i64 t183, .int .i64 t184, .int .i64 t185, .int .i64 t186, .int .i64 t187] 26 (0, 0))) := ⟨by (with_reducible repeat (first | refine blk_drewN ?_ _ | refine blk_drew ?_ | refine blk_alloc ?_ _)); refine blk_far ?_ NB189_220.out _; (with_reducible repeat (first | refine blk_drewN ?_ _ | refine blk_drew ?_ | refine blk_alloc ?_ _)); exact BK189.out⟩
 have n8_ : Aside0 ((w72.setCell ⟨gb220, 0, none⟩ (.slice Ao73 t216.length co73)).heap[gb193]? = some (.cells #[.slice Ao47 t190.length co47] 24 (0, 0))) := ⟨by (with_reducible repeat (first | refine blk_drewN ?_ _ | refine blk_drew ?_ | refine blk_alloc ?_ _)); refine blk_far ?_ NB193_220.out _; (with_reducible repeat (first | refine blk_drewN ?_ _ | refine blk_drew ?_ | refine blk_alloc ?_ _)); exact BK193.out⟩
 have n9_ : Aside0 ((w72.setCell ⟨gb220, 0, none⟩ (.slice Ao73 t216.length co73)).heap[gb200]? = some (.cells #[.int .i64 t194, .int .i64 t195, .int .i64 t196, .int .i64 t197, .int .i64 t198] 26 (0, 0))) := ⟨by (with_reducible repeat (first | refine blk_drewN ?_ _ | refine blk_drew ?_ | refine blk_alloc ?_ _)); refine blk_far ?_ NB200_220.out _; (with_reducible repeat (first | refine blk_drewN ?_ _ | refine blk_drew ?_ | refine blk_alloc ?_ _)); exact BK200.out⟩
 have n10_ : Aside0 ((w72.setCell ⟨gb220, 0, none⟩ (.slice Ao73 t216.length co73)).heap[gb210]? = some (.cells #[.slice Ao65 t206.length co65] 24 (0, 0))) := ⟨by (with_reducible repeat (first | refine blk_drewN ?_ _ | refine blk_drew ?_ | refine blk_alloc ?_ _)); refine blk_far ?_ NB210_220.out _; (with_reducible repeat (first | refine blk_drewN ?_ _ | refine blk_drew ?_ | refine blk_alloc ?_ _)); exact BK210.out⟩
 have n11_ : Aside0 ((w72.setCell ⟨gb220, 0, none⟩ (.slice Ao73 t216.length co73)).heap[gb220]? = some (.cells #[.slice Ao73 t216.length co73] 24 (0, 0))) := ⟨by (with_reducible repeat (first | refine blk_drewN ?_ _ | refine blk_drew ?_ | refine blk_alloc ?_ _)); refine blk_put (cs := #[.slice none 0 0]) ?_ 0 _ rfl; (with_reducible repeat (first | refine blk_drewN ?_ _ | refine blk_drew ?_ | refine blk_alloc ?_ _)); exact BK220.out⟩
 have n12_ : Aside0 (Below w.heap.size w (w72.setCell ⟨gb220, 0, none⟩ (.slice Ao73 t216.length co73))) := ⟨by repeat (first | (with_reducible first | exact HB.out | apply below_alloc | apply pw_below_drewN | apply below_drew1 | refine below_set ?_ GE172.out | refine below_set ?_ GE182.out | refine below_set ?_ GE189.out | refine below_set ?_ GE193.out | refine below_set ?_ GE200.out | refine below_set ?_ GE210.out | refine below_set ?_ GE220.out) | exact HB.out)⟩
 (try clear HO170)
 (try clear HO180)
 (try clear HO192)
 (try clear HO208)
 (try clear HO218)
 (try clear BK172)
 (try clear BK182)
 (try clear BK189)
 (try clear BK193)
 (try clear BK200)
 (try clear BK210)
 (try clear BK220)
 (try clear HB)
 generalize (w72.setCell ⟨gb220, 0, none⟩ (.slice Ao73 t216.length co73)) = w75 at n0_ n1_ n2_ n3_ n4_ n5_ n6_ n7_ n8_ n9_ n10_ n11_ n12_ ⊢
 have HO170 := n0_
 have HO180 := n1_
 have HO192 := n2_
 have HO208 := n3_
 have HO218 := n4_
 have BK172 := n5_
 have BK182 := n6_
 have BK189 := n7_
 have BK193 := n8_
 have BK200 := n9_
 have BK210 := n10_
 have BK220 := n11_
 have HB := n12_
 clear n0_ n1_ n2_ n3_ n4_ n5_ n6_ n7_ n8_ n9_ n10_ n11_ n12_
 have hnb76 := NB193_210.out
 have hnc76 := NB210_193.out
 have hnb77 := NB193_220.out
 have hnc77 := NB220_193.out
 have hcz78_0 : w75.cell? ⟨gb193, 0, none⟩ = some (.slice Ao47 t190.length co47) := (blk_cell BK193.out 0).trans rfl
 have hfz78_0 := blk_frozen BK193.out 0
 try go_wp2_with (first | ((with_reducible refine gate_callee (f := 16) rfl ?_); refine goesL_ (some 54) rfl rfl Try.func16 (by kernel_rfl) rfl #[.agg #[.slice Ao47 t190.length co47], .int .i64 2, .int .i64 2] rfl (by (try simp only [List.map_toArray, List.map_cons, List.map_nil]); first | done | rfl | (simp only [List.length_drop, List.length_take]; rfl)) ?_; (with_reducible refine (queue_Drop.calls 64 (fun k_ => some k_ = (.slice Ao47 t190.length co47 : Value).ownBlock) _ _ t190 2 2 t221 _ ?side1 A12.out).mono ?_); (case side1 => exact Kd.R_V (Kd.R_tight rfl (Kd.R_types (Kd.R_types (Kd.R_types (Kd.R_types (Kd.R_types (HO192.out) BK172.out (by decide)) BK182.out (by decide)) BK193.out (by decide)) BK210.out (by decide)) BK220.out (by decide)))); rintro e w79 ⟨v222, rfl, ho0, hb⟩; refine ⟨_, rfl, ?_⟩; have n0_ := Aside0.mk (Kd.R_elder' (by with_reducible exact HO170.out) (Kd.R_base ho0) hb); have n1_ := Aside0.mk (Kd.R_elder' (by with_reducible exact HO180.out) (Kd.R_base ho0) hb); have n2_ := Aside0.mk (Kd.R_elder' (by with_reducible exact HO192.out) (Kd.R_base ho0) hb); have n3_ := Aside0.mk (Kd.R_elder' (by with_reducible exact HO208.out) (Kd.R_base ho0) hb); have n4_ := Aside0.mk (Kd.R_elder' (by with_reducible exact HO218.out) (Kd.R_base ho0) hb); have n5_ := Aside0.mk (Kd.R_lower (Kd.R_newB (Kd.R_newB (Kd.R_new' (Kd.R_new' (Kd.R_new' (Kd.R_new' (Kd.R_new' (Kd.R_mono (ok' := fun k_ => True) ho0 (fun _ hk_ => trivial)) (Kd.R_lt (by with_reducible exact HO170.out))) (Kd.R_lt (by with_reducible exact HO180.out))) (Kd.R_lt (by with_reducible exact HO192.out))) (Kd.R_lt (by with_reducible exact HO208.out))) (Kd.R_lt (by with_reducible exact HO218.out))) (g := gb189) (o := .cells #[.int .i64 t183, .int .i64 t184, .int .i64 t185, .int .i64 t186, .int .i64 t187] 26 (0, 0)) (by with_reducible exact BK189.out)) (g := gb200) (o := .cells #[.int .i64 t194, .int .i64 t195, .int .i64 t196, .int .i64 t197, .int .i64 t198] 26 (0, 0)) (by with_reducible exact BK200.out)) (below_size (by with_reducible exact HB.out))); have n6_ := Aside0.mk (blk_below (g := gb172) (o := .cells #[.slice Ao26 t168.length co26] 24 (0, 0)) (by with_reducible exact BK172.out) hb); have n7_ := Aside0.mk (blk_below (g := gb182) (o := .cells #[.slice Ao34 t178.length co34] 24 (0, 0)) (by with_reducible exact BK182.out) hb); have n8_ := Aside0.mk (blk_below (g := gb189) (o := .cells #[.int .i64 t183, .int .i64 t184, .int .i64 t185, .int .i64 t186, .int .i64 t187] 26 (0, 0)) (by with_reducible exact BK189.out) hb); have n9_ := Aside0.mk (blk_below (g := gb193) (o := .cells #[.slice Ao47 t190.length co47] 24 (0, 0)) (by with_reducible exact BK193.out) hb); have n10_ := Aside0.mk (blk_below (g := gb200) (o := .cells #[.int .i64 t194, .int .i64 t195, .int .i64 t196, .int .i64 t197, .int .i64 t198] 26 (0, 0)) (by with_reducible exact BK200.out) hb); have n11_ := Aside0.mk (blk_below (g := gb210) (o := .cells #[.slice Ao65 t206.length co65] 24 (0, 0)) (by with_reducible exact BK210.out) hb); have n12_ := Aside0.mk (blk_below (g := gb220) (o := .cells #[.slice Ao73 t216.length co73] 24 (0, 0)) (by with_reducible exact BK220.out) hb); have n13_ := Aside0.mk (below_step (by with_reducible exact HB.out) hb); clear HO170; clear HO180; clear HO192; clear HO208; clear HO218; clear BK172; clear BK182; clear BK189; clear BK193; clear BK200; clear BK210; clear BK220; clear HB; have HO170 := n0_; have HO180 := n1_; have HO192 := n2_; have HO208 := n3_; have HO218 := n4_; have HO223 := n5_; have BK172 := n6_; have BK182 := n7_; have BK189 := n8_; have BK193 := n9_; have BK200 := n10_; have BK210 := n11_; have BK220 := n12_; have HB := n13_; clear n0_ n1_ n2_ n3_ n4_ n5_ n6_ n7_ n8_ n9_ n10_ n11_ n12_ n13_; (try clear hb); (try clear hb2); (try clear hk); (try clear hi); (try clear ho0); obtain ⟨Ao80, co80, eo80⟩ := Kd.R_slice HO223.out; subst eo80) | ((with_reducible refine gate_callee (f := 13) rfl ?_); refine goesL_ (some 55) rfl rfl Try.func13 (by kernel_rfl) rfl #[.agg #[.slice Ao80 t221.length co80]] rfl (by (try simp only [List.map_toArray, List.map_cons, List.map_nil]); first | done | rfl | (simp only [List.length_drop, List.length_take]; rfl)) ?_; (with_reducible refine (queue_Head.calls 64 _ _ t221 t224 t225 t226 t227 t228 false _ ?side1 ?side2 A13.out).mono ?_); (case side1 => repeat (first | exact (Kd.R_reads' HO223.out).2.2 | (with_reducible refine Kd.C_alloc ?_ _) | (with_reducible refine Kd.C_drewN ?_ _) | (with_reducible refine Kd.C_drew ?_))); (case side2 => exact (Kd.R_reads' HO223.out).2.1); rintro e w81 ⟨rfl, hb⟩; refine ⟨_, rfl, ?_⟩; have n0_ := Aside0.mk (Kd.R_below (by with_reducible exact HO170.out) hb); have n1_ := Aside0.mk (Kd.R_below (by with_reducible exact HO180.out) hb); have n2_ := Aside0.mk (Kd.R_below (by with_reducible exact HO192.out) hb); have n3_ := Aside0.mk (Kd.R_below (by with_reducible exact HO208.out) hb); have n4_ := Aside0.mk (Kd.R_below (by with_reducible exact HO218.out) hb); have n5_ := Aside0.mk (Kd.R_below (by with_reducible exact HO223.out) hb); have n6_ := Aside0.mk (blk_below (g := gb172) (o := .cells #[.slice Ao26 t168.length co26] 24 (0, 0)) (by with_reducible exact BK172.out) hb); have n7_ := Aside0.mk (blk_below (g := gb182) (o := .cells #[.slice Ao34 t178.length co34] 24 (0, 0)) (by with_reducible exact BK182.out) hb); have n8_ := Aside0.mk (blk_below (g := gb189) (o := .cells #[.int .i64 t183, .int .i64 t184, .int .i64 t185, .int .i64 t186, .int .i64 t187] 26 (0, 0)) (by with_reducible exact BK189.out) hb); have n9_ := Aside0.mk (blk_below (g := gb193) (o := .cells #[.slice Ao47 t190.length co47] 24 (0, 0)) (by with_reducible exact BK193.out) hb); have n10_ := Aside0.mk (blk_below (g := gb200) (o := .cells #[.int .i64 t194, .int .i64 t195, .int .i64 t196, .int .i64 t197, .int .i64 t198] 26 (0, 0)) (by with_reducible exact BK200.out) hb); have n11_ := Aside0.mk (blk_below (g := gb210) (o := .cells #[.slice Ao65 t206.length co65] 24 (0, 0)) (by with_reducible exact BK210.out) hb); have n12_ := Aside0.mk (blk_below (g := gb220) (o := .cells #[.slice Ao73 t216.length co73] 24 (0, 0)) (by with_reducible exact BK220.out) hb); have n13_ := Aside0.mk (below_step (by with_reducible exact HB.out) hb); clear HO170; clear HO180; clear HO192; clear HO208; clear HO218; clear HO223; clear BK172; clear BK182; clear BK189; clear BK193; clear BK200; clear BK210; clear BK220; clear HB; have HO170 := n0_; have HO180 := n1_; have HO192 := n2_; have HO208 := n3_; have HO218 := n4_; have HO223 := n5_; have BK172 := n6_; have BK182 := n7_; have BK189 := n8_; have BK193 := n9_; have BK200 := n10_; have BK210 := n11_; have BK220 := n12_; have HB := n13_; clear n0_ n1_ n2_ n3_ n4_ n5_ n6_ n7_ n8_ n9_ n10_ n11_ n12_ n13_; (try clear hb); (try clear hb2); (try clear hk); (try clear hi)) | ((with_reducible refine gate_dst (N := 14) rfl ?_); refine box_event ?hg (N := 14) ?hd (cs := #[.int .i64 0, .int .i64 0, .int .i64 0, .int .i64 0, .int .i64 0]) (t := 26) ?hr ?_; (case hd => rfl); (case hg => rfl); (case hr => first | (go_simp; done) | (go_simp; rfl)); intro gb230 hg w82 hbox hb; have n0_ := Aside0.mk (Kd.R_below (Kd.R_elderB (by with_reducible exact HO170.out) gb230 (Nat.le_of_eq hg.symm)) hb); have n1_ := Aside0.mk (Kd.R_below (Kd.R_elderB (by with_reducible exact HO180.out) gb230 (Nat.le_of_eq hg.symm)) hb); have n2_ := Aside0.mk (Kd.R_below (Kd.R_elderB (by with_reducible exact HO192.out) gb230 (Nat.le_of_eq hg.symm)) hb); have n3_ := Aside0.mk (Kd.R_below (Kd.R_elderB (by with_reducible exact HO208.out) gb230 (Nat.le_of_eq hg.symm)) hb); have n4_ := Aside0.mk (Kd.R_below (Kd.R_elderB (by with_reducible exact HO218.out) gb230 (Nat.le_of_eq hg.symm)) hb); have n5_ := Aside0.mk (Kd.R_below (Kd.R_elderB (by with_reducible exact HO223.out) gb230 (Nat.le_of_eq hg.symm)) hb); have n6_ := Aside0.mk (blk_below (g := gb172) (o := .cells #[.slice Ao26 t168.length co26] 24 (0, 0)) (by with_reducible exact BK172.out) hb); have n7_ := Aside0.mk (blk_below (g := gb182) (o := .cells #[.slice Ao34 t178.length co34] 24 (0, 0)) (by with_reducible exact BK182.out) hb); have n8_ := Aside0.mk (blk_below (g := gb189) (o := .cells #[.int .i64 t183, .int .i64 t184, .int .i64 t185, .int .i64 t186, .int .i64 t187] 26 (0, 0)) (by with_reducible exact BK189.out) hb); have n9_ := Aside0.mk (blk_below (g := gb193) (o := .cells #[.slice Ao47 t190.length co47] 24 (0, 0)) (by with_reducible exact BK193.out) hb); have n10_ := Aside0.mk (blk_below (g := gb200) (o := .cells #[.int .i64 t194, .int .i64 t195, .int .i64 t196, .int .i64 t197, .int .i64 t198] 26 (0, 0)) (by with_reducible exact BK200.out) hb); have n11_ := Aside0.mk (blk_below (g := gb210) (o := .cells #[.slice Ao65 t206.length co65] 24 (0, 0)) (by with_reducible exact BK210.out) hb); have n12_ := Aside0.mk (blk_below (g := gb220) (o := .cells #[.slice Ao73 t216.length co73] 24 (0, 0)) (by with_reducible exact BK220.out) hb); have n13_ := Aside0.mk (below_step (by with_reducible exact HB.out) hb); have n14_ := Aside0.mk (hbox); have n15_ := Aside0.mk ((by rw [hg]; exact (below_size (by with_reducible exact HB.out)) : w.heap.size ≤ gb230)); have n16_ := Aside0.mk ((by rw [hg]; exact (below_size (by with_reducible exact HB.out)) : w.heap.size ≤ gb230)); have n17_ := Aside0.mk ((by rw [hg]; exact Nat.ne_of_lt (blk_lt (g := gb172) (o := .cells #[.slice Ao26 t168.length co26] 24 (0, 0)) (by with_reducible exact BK172.out)) : gb172 ≠ gb230)); have n18_ := Aside0.mk ((by rw [hg]; exact Nat.ne_of_gt (blk_lt (g := gb172) (o := .cells #[.slice Ao26 t168.length co26] 24 (0, 0)) (by with_reducible exact BK172.out)) : gb230 ≠ gb172)); have n19_ := Aside0.mk ((by rw [hg]; exact Nat.ne_of_lt (blk_lt (g := gb182) (o := .cells #[.slice Ao34 t178.length co34] 24 (0, 0)) (by with_reducible exact BK182.out)) : gb182 ≠ gb230)); have n20_ := Aside0.mk ((by rw [hg]; exact Nat.ne_of_gt (blk_lt (g := gb182) (o := .cells #[.slice Ao34 t178.length co34] 24 (0, 0)) (by with_reducible exact BK182.out)) : gb230 ≠ gb182)); have n21_ := Aside0.mk ((by rw [hg]; exact Nat.ne_of_lt (blk_lt (g := gb189) (o := .cells #[.int .i64 t183, .int .i64 t184, .int .i64 t185, .int .i64 t186, .int .i64 t187] 26 (0, 0)) (by with_reducible exact BK189.out)) : gb189 ≠ gb230)); have n22_ := Aside0.mk ((by rw [hg]; exact Nat.ne_of_gt (blk_lt (g := gb189) (o := .cells #[.int .i64 t183, .int .i64 t184, .int .i64 t185, .int .i64 t186, .int .i64 t187] 26 (0, 0)) (by with_reducible exact BK189.out)) : gb230 ≠ gb189)); have n23_ := Aside0.mk ((by rw [hg]; exact Nat.ne_of_lt (blk_lt (g := gb193) (o := .cells #[.slice Ao47 t190.length co47] 24 (0, 0)) (by with_reducible exact BK193.out)) : gb193 ≠ gb230)); have n24_ := Aside0.mk ((by rw [hg]; exact Nat.ne_of_gt (blk_lt (g := gb193) (o := .cells #[.slice Ao47 t190.length co47] 24 (0, 0)) (by with_reducible exact BK193.out)) : gb230 ≠ gb193)); have n25_ := Aside0.mk ((by rw [hg]; exact Nat.ne_of_lt (blk_lt (g := gb200) (o := .cells #[.int .i64 t194, .int .i64 t195, .int .i64 t196, .int .i64 t197, .int .i64 t198] 26 (0, 0)) (by with_reducible exact BK200.out)) : gb200 ≠ gb230)); have n26_ := Aside0.mk ((by rw [hg]; exact Nat.ne_of_gt (blk_lt (g := gb200) (o := .cells #[.int .i64 t194, .int .i64 t195, .int .i64 t196, .int .i64 t197, .int .i64 t198] 26 (0, 0)) (by with_reducible exact BK200.out)) : gb230 ≠ gb200)); have n27_ := Aside0.mk ((by rw [hg]; exact Nat.ne_of_lt (blk_lt (g := gb210) (o := .cells #[.slice Ao65 t206.length co65] 24 (0, 0)) (by with_reducible exact BK210.out)) : gb210 ≠ gb230)); have n28_ := Aside0.mk ((by rw [hg]; exact Nat.ne_of_gt (blk_lt (g := gb210) (o := .cells #[.slice Ao65 t206.length co65] 24 (0, 0)) (by with_reducible exact BK210.out)) : gb230 ≠ gb210)); have n29_ := Aside0.mk ((by rw [hg]; exact Nat.ne_of_lt (blk_lt (g := gb220) (o := .cells #[.slice Ao73 t216.length co73] 24 (0, 0)) (by with_reducible exact BK220.out)) : gb220 ≠ gb230)); have n30_ := Aside0.mk ((by rw [hg]; exact Nat.ne_of_gt (blk_lt (g := gb220) (o := .cells #[.slice Ao73 t216.length co73] 24 (0, 0)) (by with_reducible exact BK220.out)) : gb230 ≠ gb220)); clear HO170; clear HO180; clear HO192; clear HO208; clear HO218; clear HO223; clear BK172; clear BK182; clear BK189; clear BK193; clear BK200; clear BK210; clear BK220; clear HB; have HO170 := n0_; have HO180 := n1_; have HO192 := n2_; have HO208 := n3_; have HO218 := n4_; have HO223 := n5_; have BK172 := n6_; have BK182 := n7_; have BK189 := n8_; have BK193 := n9_; have BK200 := n10_; have BK210 := n11_; have BK220 := n12_; have HB := n13_; have BK230 := n14_; have GW230 := n15_; have GE230 := n16_; have NB172_230 := n17_; have NB230_172 := n18_; have NB182_230 := n19_; have NB230_182 := n20_; have NB189_230 := n21_; have NB230_189 := n22_; have NB193_230 := n23_; have NB230_193 := n24_; have NB200_230 := n25_; have NB230_200 := n26_; have NB210_230 := n27_; have NB230_210 := n28_; have NB220_230 := n29_; have NB230_220 := n30_; clear n0_ n1_ n2_ n3_ n4_ n5_ n6_ n7_ n8_ n9_ n10_ n11_ n12_ n13_ n14_ n15_ n16_ n17_ n18_ n19_ n20_ n21_ n22_ n23_ n24_ n25_ n26_ n27_ n28_ n29_ n30_; clear hb hbox hg; have hnb83 := NB230_172.out; have hnc83 := NB172_230.out; have hnb84 := NB230_182.out; have hnc84 := NB182_230.out; have hnb85 := NB230_189.out; have hnc85 := NB189_230.out; have hnb86 := NB230_193.out; have hnc86 := NB193_230.out; have hnb87 := NB230_200.out; have hnc87 := NB200_230.out; have hnb88 := NB230_210.out; have hnc88 := NB210_230.out; have hnb89 := NB230_220.out; have hnc89 := NB220_230.out; have hcz90_0 : w82.cell? ⟨gb230, 0, none⟩ = some (.int .i64 0) := (blk_cell BK230.out 0).trans rfl; have hcz90_1 : w82.cell? ⟨gb230, 1, none⟩ = some (.int .i64 0) := (blk_cell BK230.out 1).trans rfl; have hcz90_2 : w82.cell? ⟨gb230, 2, none⟩ = some (.int .i64 0) := (blk_cell BK230.out 2).trans rfl; have hcz90_3 : w82.cell? ⟨gb230, 3, none⟩ = some (.int .i64 0) := (blk_cell BK230.out 3).trans rfl; have hcz90_4 : w82.cell? ⟨gb230, 4, none⟩ = some (.int .i64 0) := (blk_cell BK230.out 4).trans rfl; have hfz90_0 := blk_frozen BK230.out 0; have hfz90_1 := blk_frozen BK230.out 1; have hfz90_2 := blk_frozen BK230.out 2; have hfz90_3 := blk_frozen BK230.out 3; have hfz90_4 := blk_frozen BK230.out 4))
 have n0_ : Aside0 (Kd.R k26 26 (((((w82.setCell ⟨gb230, 0, none⟩ (.int .i64 t224)).setCell ⟨gb230, 1, none⟩ (.int .i64 t225)).setCell ⟨gb230, 2, none⟩ (.int .i64 t226)).setCell ⟨gb230, 3, none⟩ (.int .i64 t227)).setCell ⟨gb230, 4, none⟩ (.int .i64 t228)) w.heap.size (fun k_ => some k_ ≠ (.slice Ao34 t178.length co34 : Value).ownBlock ∧ some k_ ≠ (.slice Ao47 t190.length co47 : Value).ownBlock ∧ some k_ ≠ (.slice Ao65 t206.length co65 : Value).ownBlock ∧ some k_ ≠ (.slice Ao73 t216.length co73 : Value).ownBlock ∧ some k_ ≠ (.slice Ao80 t221.length co80 : Value).ownBlock ∧ k_ ≠ gb189 ∧ k_ ≠ gb200 ∧ k_ ≠ gb230) (.slice Ao26 t168.length co26) t168) := ⟨by (with_reducible repeat (first | apply Kd.R_alloc | apply Kd.R_drewN | apply Kd.R_drew)); exact Kd.R_mono (Kd.R_far (p := ⟨gb230, 4, none⟩) (Kd.R_far (p := ⟨gb230, 3, none⟩) (Kd.R_far (p := ⟨gb230, 2, none⟩) (Kd.R_far (p := ⟨gb230, 1, none⟩) (Kd.R_far (p := ⟨gb230, 0, none⟩) (Kd.R_mono HO170.out (fun k_ hk => (⟨hk, hk.2⟩ : _ ∧ k_ ≠ gb230))) (fun _ hk => hk.2) (.int .i64 t224)) (fun _ hk => hk.2) (.int .i64 t225)) (fun _ hk => hk.2) (.int .i64 t226)) (fun _ hk => hk.2) (.int .i64 t227)) (fun _ hk => hk.2) (.int .i64 t228)) (fun _ hk => ⟨hk.1.1.1.1, ⟨hk.1.1.1.2.1, ⟨hk.1.1.1.2.2.1, ⟨hk.1.1.1.2.2.2.1, ⟨hk.1.1.2, ⟨hk.1.1.1.2.2.2.2.1, ⟨hk.1.1.1.2.2.2.2.2, hk.1.2⟩⟩⟩⟩⟩⟩⟩)⟩
 have n1_ : Aside0 (Kd.R k26 26 (((((w82.setCell ⟨gb230, 0, none⟩ (.int .i64 t224)).setCell ⟨gb230, 1, none⟩ (.int .i64 t225)).setCell ⟨gb230, 2, none⟩ (.int .i64 t226)).setCell ⟨gb230, 3, none⟩ (.int .i64 t227)).setCell ⟨gb230, 4, none⟩ (.int .i64 t228)) w.heap.size (fun k_ => some k_ ≠ (.slice Ao26 t168.length co26 : Value).ownBlock ∧ some k_ ≠ (.slice Ao47 t190.length co47 : Value).ownBlock ∧ some k_ ≠ (.slice Ao65 t206.length co65 : Value).ownBlock ∧ some k_ ≠ (.slice Ao73 t216.length co73 : Value).ownBlock ∧ some k_ ≠ (.slice Ao80 t221.length co80 : Value).ownBlock ∧ k_ ≠ gb189 ∧ k_ ≠ gb200 ∧ k_ ≠ gb230) (.slice Ao34 t178.length co34) t178) := ⟨by (with_reducible repeat (first | apply Kd.R_alloc | apply Kd.R_drewN | apply Kd.R_drew)); exact Kd.R_mono (Kd.R_far (p := ⟨gb230, 4, none⟩) (Kd.R_far (p := ⟨gb230, 3, none⟩) (Kd.R_far (p := ⟨gb230, 2, none⟩) (Kd.R_far (p := ⟨gb230, 1, none⟩) (Kd.R_far (p := ⟨gb230, 0, none⟩) (Kd.R_mono HO180.out (fun k_ hk => (⟨hk, hk.2⟩ : _ ∧ k_ ≠ gb230))) (fun _ hk => hk.2) (.int .i64 t224)) (fun _ hk => hk.2) (.int .i64 t225)) (fun _ hk => hk.2) (.int .i64 t226)) (fun _ hk => hk.2) (.int .i64 t227)) (fun _ hk => hk.2) (.int .i64 t228)) (fun _ hk => ⟨hk.1.1.1.1, ⟨hk.1.1.1.2.1, ⟨hk.1.1.1.2.2.1, ⟨hk.1.1.1.2.2.2.1, ⟨hk.1.1.2, ⟨hk.1.1.1.2.2.2.2.1, ⟨hk.1.1.1.2.2.2.2.2, hk.1.2⟩⟩⟩⟩⟩⟩⟩)⟩
 have n2_ : Aside0 (Kd.R k26 26 (((((w82.setCell ⟨gb230, 0, none⟩ (.int .i64 t224)).setCell ⟨gb230, 1, none⟩ (.int .i64 t225)).setCell ⟨gb230, 2, none⟩ (.int .i64 t226)).setCell ⟨gb230, 3, none⟩ (.int .i64 t227)).setCell ⟨gb230, 4, none⟩ (.int .i64 t228)) w.heap.size (fun k_ => some k_ ≠ (.slice Ao26 t168.length co26 : Value).ownBlock ∧ some k_ ≠ (.slice Ao34 t178.length co34 : Value).ownBlock ∧ some k_ ≠ (.slice Ao65 t206.length co65 : Value).ownBlock ∧ some k_ ≠ (.slice Ao73 t216.length co73 : Value).ownBlock ∧ some k_ ≠ (.slice Ao80 t221.length co80 : Value).ownBlock ∧ k_ ≠ gb189 ∧ k_ ≠ gb200 ∧ k_ ≠ gb230) (.slice Ao47 t190.length co47) t190) := ⟨by (with_reducible repeat (first | apply Kd.R_alloc | apply Kd.R_drewN | apply Kd.R_drew)); exact Kd.R_mono (Kd.R_far (p := ⟨gb230, 4, none⟩) (Kd.R_far (p := ⟨gb230, 3, none⟩) (Kd.R_far (p := ⟨gb230, 2, none⟩) (Kd.R_far (p := ⟨gb230, 1, none⟩) (Kd.R_far (p := ⟨gb230, 0, none⟩) (Kd.R_mono HO192.out (fun k_ hk => (⟨hk, hk.2⟩ : _ ∧ k_ ≠ gb230))) (fun _ hk => hk.2) (.int .i64 t224)) (fun _ hk => hk.2) (.int .i64 t225)) (fun _ hk => hk.2) (.int .i64 t226)) (fun _ hk => hk.2) (.int .i64 t227)) (fun _ hk => hk.2) (.int .i64 t228)) (fun _ hk => ⟨hk.1.1.1.1, ⟨hk.1.1.1.2.1, ⟨hk.1.1.1.2.2.1, ⟨hk.1.1.1.2.2.2.1, ⟨hk.1.1.2, ⟨hk.1.1.1.2.2.2.2.1, ⟨hk.1.1.1.2.2.2.2.2, hk.1.2⟩⟩⟩⟩⟩⟩⟩)⟩
 have n3_ : Aside0 (Kd.R k26 26 (((((w82.setCell ⟨gb230, 0, none⟩ (.int .i64 t224)).setCell ⟨gb230, 1, none⟩ (.int .i64 t225)).setCell ⟨gb230, 2, none⟩ (.int .i64 t226)).setCell ⟨gb230, 3, none⟩ (.int .i64 t227)).setCell ⟨gb230, 4, none⟩ (.int .i64 t228)) w.heap.size (fun k_ => some k_ ≠ (.slice Ao26 t168.length co26 : Value).ownBlock ∧ some k_ ≠ (.slice Ao34 t178.length co34 : Value).ownBlock ∧ some k_ ≠ (.slice Ao47 t190.length co47 : Value).ownBlock ∧ some k_ ≠ (.slice Ao73 t216.length co73 : Value).ownBlock ∧ some k_ ≠ (.slice Ao80 t221.length co80 : Value).ownBlock ∧ k_ ≠ gb189 ∧ k_ ≠ gb200 ∧ k_ ≠ gb230) (.slice Ao65 t206.length co65) t206) := ⟨by (with_reducible repeat (first | apply Kd.R_alloc | apply Kd.R_drewN | apply Kd.R_drew)); exact Kd.R_mono (Kd.R_far (p := ⟨gb230, 4, none⟩) (Kd.R_far (p := ⟨gb230, 3, none⟩) (Kd.R_far (p := ⟨gb230, 2, none⟩) (Kd.R_far (p := ⟨gb230, 1, none⟩) (Kd.R_far (p := ⟨gb230, 0, none⟩) (Kd.R_mono HO208.out (fun k_ hk => (⟨hk, hk.2⟩ : _ ∧ k_ ≠ gb230))) (fun _ hk => hk.2) (.int .i64 t224)) (fun _ hk => hk.2) (.int .i64 t225)) (fun _ hk => hk.2) (.int .i64 t226)) (fun _ hk => hk.2) (.int .i64 t227)) (fun _ hk => hk.2) (.int .i64 t228)) (fun _ hk => ⟨hk.1.1.1.1, ⟨hk.1.1.1.2.1, ⟨hk.1.1.1.2.2.1, ⟨hk.1.1.1.2.2.2.1, ⟨hk.1.1.2, ⟨hk.1.1.1.2.2.2.2.1, ⟨hk.1.1.1.2.2.2.2.2, hk.1.2⟩⟩⟩⟩⟩⟩⟩)⟩
 have n4_ : Aside0 (Kd.R k26 26 (((((w82.setCell ⟨gb230, 0, none⟩ (.int .i64 t224)).setCell ⟨gb230, 1, none⟩ (.int .i64 t225)).setCell ⟨gb230, 2, none⟩ (.int .i64 t226)).setCell ⟨gb230, 3, none⟩ (.int .i64 t227)).setCell ⟨gb230, 4, none⟩ (.int .i64 t228)) w.heap.size (fun k_ => some k_ ≠ (.slice Ao26 t168.length co26 : Value).ownBlock ∧ some k_ ≠ (.slice Ao34 t178.length co34 : Value).ownBlock ∧ some k_ ≠ (.slice Ao47 t190.length co47 : Value).ownBlock ∧ some k_ ≠ (.slice Ao65 t206.length co65 : Value).ownBlock ∧ some k_ ≠ (.slice Ao80 t221.length co80 : Value).ownBlock ∧ k_ ≠ gb189 ∧ k_ ≠ gb200 ∧ k_ ≠ gb230) (.slice Ao73 t216.length co73) t216) := ⟨by (with_reducible repeat (first | apply Kd.R_alloc | apply Kd.R_drewN | apply Kd.R_drew)); exact Kd.R_mono (Kd.R_far (p := ⟨gb230, 4, none⟩) (Kd.R_far (p := ⟨gb230, 3, none⟩) (Kd.R_far (p := ⟨gb230, 2, none⟩) (Kd.R_far (p := ⟨gb230, 1, none⟩) (Kd.R_far (p := ⟨gb230, 0, none⟩) (Kd.R_mono HO218.out (fun k_ hk => (⟨hk, hk.2⟩ : _ ∧ k_ ≠ gb230))) (fun _ hk => hk.2) (.int .i64 t224)) (fun _ hk => hk.2) (.int .i64 t225)) (fun _ hk => hk.2) (.int .i64 t226)) (fun _ hk => hk.2) (.int .i64 t227)) (fun _ hk => hk.2) (.int .i64 t228)) (fun _ hk => ⟨hk.1.1.1.1, ⟨hk.1.1.1.2.1, ⟨hk.1.1.1.2.2.1, ⟨hk.1.1.1.2.2.2.1, ⟨hk.1.1.2, ⟨hk.1.1.1.2.2.2.2.1, ⟨hk.1.1.1.2.2.2.2.2, hk.1.2⟩⟩⟩⟩⟩⟩⟩)⟩
 have n5_ : Aside0 (Kd.R k26 26 (((((w82.setCell ⟨gb230, 0, none⟩ (.int .i64 t224)).setCell ⟨gb230, 1, none⟩ (.int .i64 t225)).setCell ⟨gb230, 2, none⟩ (.int .i64 t226)).setCell ⟨gb230, 3, none⟩ (.int .i64 t227)).setCell ⟨gb230, 4, none⟩ (.int .i64 t228)) w.heap.size (fun k_ => some k_ ≠ (.slice Ao26 t168.length co26 : Value).ownBlock ∧ some k_ ≠ (.slice Ao34 t178.length co34 : Value).ownBlock ∧ some k_ ≠ (.slice Ao47 t190.length co47 : Value).ownBlock ∧ some k_ ≠ (.slice Ao65 t206.length co65 : Value).ownBlock ∧ some k_ ≠ (.slice Ao73 t216.length co73 : Value).ownBlock ∧ k_ ≠ gb189 ∧ k_ ≠ gb200 ∧ k_ ≠ gb230) (.slice Ao80 t221.length co80) t221) := ⟨by (with_reducible repeat (first | apply Kd.R_alloc | apply Kd.R_drewN | apply Kd.R_drew)); exact Kd.R_mono (Kd.R_far (p := ⟨gb230, 4, none⟩) (Kd.R_far (p := ⟨gb230, 3, none⟩) (Kd.R_far (p := ⟨gb230, 2, none⟩) (Kd.R_far (p := ⟨gb230, 1, none⟩) (Kd.R_far (p := ⟨gb230, 0, none⟩) (Kd.R_mono HO223.out (fun k_ hk => (⟨hk, hk.2⟩ : _ ∧ k_ ≠ gb230))) (fun _ hk => hk.2) (.int .i64 t224)) (fun _ hk => hk.2) (.int .i64 t225)) (fun _ hk => hk.2) (.int .i64 t226)) (fun _ hk => hk.2) (.int .i64 t227)) (fun _ hk => hk.2) (.int .i64 t228)) (fun _ hk => ⟨hk.1.1.1.1.1.1.1.1.2, ⟨hk.1.1.1.1.1.1.1.2, ⟨hk.1.1.1.1.1.1.2, ⟨hk.1.1.1.1.1.2, ⟨hk.1.1.1.1.2, ⟨hk.1.1.1.2, ⟨hk.1.1.2, hk.1.2⟩⟩⟩⟩⟩⟩⟩)⟩
 have n6_ : Aside0 ((((((w82.setCell ⟨gb230, 0, none⟩ (.int .i64 t224)).setCell ⟨gb230, 1, none⟩ (.int .i64 t225)).setCell ⟨gb230, 2, none⟩ (.int .i64 t226)).setCell ⟨gb230, 3, none⟩ (.int .i64 t227)).setCell ⟨gb230, 4, none⟩ (.int .i64 t228)).heap[gb172]? = some (.cells #[.slice Ao26 t168.length co26] 24 (0, 0))) := ⟨by (with_reducible repeat (first | refine blk_drewN ?_ _ | refine blk_drew ?_ | refine blk_alloc ?_ _)); refine blk_far ?_ NB172_230.out _; (with_reducible repeat (first | refine blk_drewN ?_ _ | refine blk_drew ?_ | refine blk_alloc ?_ _)); refine blk_far ?_ NB172_230.out _; (with_reducible repeat (first | refine blk_drewN ?_ _ | refine blk_drew ?_ | refine blk_alloc ?_ _)); refine blk_far ?_ NB172_230.out _; (with_reducible repeat (first | refine blk_drewN ?_ _ | refine blk_drew ?_ | refine blk_alloc ?_ _)); refine blk_far ?_ NB172_230.out _; (with_reducible repeat (first | refine blk_drewN ?_ _ | refine blk_drew ?_ | refine blk_alloc ?_ _)); refine blk_far ?_ NB172_230.out _; (with_reducible repeat (first | refine blk_drewN ?_ _ | refine blk_drew ?_ | refine blk_alloc ?_ _)); exact BK172.out⟩
 have n7_ : Aside0 ((((((w82.setCell ⟨gb230, 0, none⟩ (.int .i64 t224)).setCell ⟨gb230, 1, none⟩ (.int .i64 t225)).setCell ⟨gb230, 2, none⟩ (.int .i64 t226)).setCell ⟨gb230, 3, none⟩ (.int .i64 t227)).setCell ⟨gb230, 4, none⟩ (.int .i64 t228)).heap[gb182]? = some (.cells #[.slice Ao34 t178.length co34] 24 (0, 0))) := ⟨by (with_reducible repeat (first | refine blk_drewN ?_ _ | refine blk_drew ?_ | refine blk_alloc ?_ _)); refine blk_far ?_ NB182_230.out _; (with_reducible repeat (first | refine blk_drewN ?_ _ | refine blk_drew ?_ | refine blk_alloc ?_ _)); refine blk_far ?_ NB182_230.out _; (with_reducible repeat (first | refine blk_drewN ?_ _ | refine blk_drew ?_ | refine blk_alloc ?_ _)); refine blk_far ?_ NB182_230.out _; (with_reducible repeat (first | refine blk_drewN ?_ _ | refine blk_drew ?_ | refine blk_alloc ?_ _)); refine blk_far ?_ NB182_230.out _; (with_reducible repeat (first | refine blk_drewN ?_ _ | refine blk_drew ?_ | refine blk_alloc ?_ _)); refine blk_far ?_ NB182_230.out _; (with_reducible repeat (first | refine blk_drewN ?_ _ | refine blk_drew ?_ | refine blk_alloc ?_ _)); exact BK182.out⟩
 have n8_ : Aside0 ((((((w82.setCell ⟨gb230, 0, none⟩ (.int .i64 t224)).setCell ⟨gb230, 1, none⟩ (.int .i64 t225)).setCell ⟨gb230, 2, none⟩ (.int .i64 t226)).setCell ⟨gb230, 3, none⟩ (.int .i64 t227)).setCell ⟨gb230, 4, none⟩ (.int .i64 t228)).heap[gb189]? = some (.cells #[.int .i64 t183, .int .i64 t184, .int .i64 t185, .int .i64 t186, .int .i64 t187] 26 (0, 0))) := ⟨by (with_reducible repeat (first | refine blk_drewN ?_ _ | refine blk_drew ?_ | refine blk_alloc ?_ _)); refine blk_far ?_ NB189_230.out _; (with_reducible repeat (first | refine blk_drewN ?_ _ | refine blk_drew ?_ | refine blk_alloc ?_ _)); refine blk_far ?_ NB189_230.out _; (with_reducible repeat (first | refine blk_drewN ?_ _ | refine blk_drew ?_ | refine blk_alloc ?_ _)); refine blk_far ?_ NB189_230.out _; (with_reducible repeat (first | refine blk_drewN ?_ _ | refine blk_drew ?_ | refine blk_alloc ?_ _)); refine blk_far ?_ NB189_230.out _; (with_reducible repeat (first | refine blk_drewN ?_ _ | refine blk_drew ?_ | refine blk_alloc ?_ _)); refine blk_far ?_ NB189_230.out _; (with_reducible repeat (first | refine blk_drewN ?_ _ | refine blk_drew ?_ | refine blk_alloc ?_ _)); exact BK189.out⟩
 have n9_ : Aside0 ((((((w82.setCell ⟨gb230, 0, none⟩ (.int .i64 t224)).setCell ⟨gb230, 1, none⟩ (.int .i64 t225)).setCell ⟨gb230, 2, none⟩ (.int .i64 t226)).setCell ⟨gb230, 3, none⟩ (.int .i64 t227)).setCell ⟨gb230, 4, none⟩ (.int .i64 t228)).heap[gb193]? = some (.cells #[.slice Ao47 t190.length co47] 24 (0, 0))) := ⟨by (with_reducible repeat (first | refine blk_drewN ?_ _ | refine blk_drew ?_ | refine blk_alloc ?_ _)); refine blk_far ?_ NB193_230.out _; (with_reducible repeat (first | refine blk_drewN ?_ _ | refine blk_drew ?_ | refine blk_alloc ?_ _)); refine blk_far ?_ NB193_230.out _; (with_reducible repeat (first | refine blk_drewN ?_ _ | refine blk_drew ?_ | refine blk_alloc ?_ _)); refine blk_far ?_ NB193_230.out _; (with_reducible repeat (first | refine blk_drewN ?_ _ | refine blk_drew ?_ | refine blk_alloc ?_ _)); refine blk_far ?_ NB193_230.out _; (with_reducible repeat (first | refine blk_drewN ?_ _ | refine blk_drew ?_ | refine blk_alloc ?_ _)); refine blk_far ?_ NB193_230.out _; (with_reducible repeat (first | refine blk_drewN ?_ _ | refine blk_drew ?_ | refine blk_alloc ?_ _)); exact BK193.out⟩
 have n10_ : Aside0 ((((((w82.setCell ⟨gb230, 0, none⟩ (.int .i64 t224)).setCell ⟨gb230, 1, none⟩ (.int .i64 t225)).setCell ⟨gb230, 2, none⟩ (.int .i64 t226)).setCell ⟨gb230, 3, none⟩ (.int .i64 t227)).setCell ⟨gb230, 4, none⟩ (.int .i64 t228)).heap[gb200]? = some (.cells #[.int .i64 t194, .int .i64 t195, .int .i64 t196, .int .i64 t197, .int .i64 t198] 26 (0, 0))) := ⟨by (with_reducible repeat (first | refine blk_drewN ?_ _ | refine blk_drew ?_ | refine blk_alloc ?_ _)); refine blk_far ?_ NB200_230.out _; (with_reducible repeat (first | refine blk_drewN ?_ _ | refine blk_drew ?_ | refine blk_alloc ?_ _)); refine blk_far ?_ NB200_230.out _; (with_reducible repeat (first | refine blk_drewN ?_ _ | refine blk_drew ?_ | refine blk_alloc ?_ _)); refine blk_far ?_ NB200_230.out _; (with_reducible repeat (first | refine blk_drewN ?_ _ | refine blk_drew ?_ | refine blk_alloc ?_ _)); refine blk_far ?_ NB200_230.out _; (with_reducible repeat (first | refine blk_drewN ?_ _ | refine blk_drew ?_ | refine blk_alloc ?_ _)); refine blk_far ?_ NB200_230.out _; (with_reducible repeat (first | refine blk_drewN ?_ _ | refine blk_drew ?_ | refine blk_alloc ?_ _)); exact BK200.out⟩
 have n11_ : Aside0 ((((((w82.setCell ⟨gb230, 0, none⟩ (.int .i64 t224)).setCell ⟨gb230, 1, none⟩ (.int .i64 t225)).setCell ⟨gb230, 2, none⟩ (.int .i64 t226)).setCell ⟨gb230, 3, none⟩ (.int .i64 t227)).setCell ⟨gb230, 4, none⟩ (.int .i64 t228)).heap[gb210]? = some (.cells #[.slice Ao65 t206.length co65] 24 (0, 0))) := ⟨by (with_reducible repeat (first | refine blk_drewN ?_ _ | refine blk_drew ?_ | refine blk_alloc ?_ _)); refine blk_far ?_ NB210_230.out _; (with_reducible repeat (first | refine blk_drewN ?_ _ | refine blk_drew ?_ | refine blk_alloc ?_ _)); refine blk_far ?_ NB210_230.out _; (with_reducible repeat (first | refine blk_drewN ?_ _ | refine blk_drew ?_ | refine blk_alloc ?_ _)); refine blk_far ?_ NB210_230.out _; (with_reducible repeat (first | refine blk_drewN ?_ _ | refine blk_drew ?_ | refine blk_alloc ?_ _)); refine blk_far ?_ NB210_230.out _; (with_reducible repeat (first | refine blk_drewN ?_ _ | refine blk_drew ?_ | refine blk_alloc ?_ _)); refine blk_far ?_ NB210_230.out _; (with_reducible repeat (first | refine blk_drewN ?_ _ | refine blk_drew ?_ | refine blk_alloc ?_ _)); exact BK210.out⟩
 have n12_ : Aside0 ((((((w82.setCell ⟨gb230, 0, none⟩ (.int .i64 t224)).setCell ⟨gb230, 1, none⟩ (.int .i64 t225)).setCell ⟨gb230, 2, none⟩ (.int .i64 t226)).setCell ⟨gb230, 3, none⟩ (.int .i64 t227)).setCell ⟨gb230, 4, none⟩ (.int .i64 t228)).heap[gb220]? = some (.cells #[.slice Ao73 t216.length co73] 24 (0, 0))) := ⟨by (with_reducible repeat (first | refine blk_drewN ?_ _ | refine blk_drew ?_ | refine blk_alloc ?_ _)); refine blk_far ?_ NB220_230.out _; (with_reducible repeat (first | refine blk_drewN ?_ _ | refine blk_drew ?_ | refine blk_alloc ?_ _)); refine blk_far ?_ NB220_230.out _; (with_reducible repeat (first | refine blk_drewN ?_ _ | refine blk_drew ?_ | refine blk_alloc ?_ _)); refine blk_far ?_ NB220_230.out _; (with_reducible repeat (first | refine blk_drewN ?_ _ | refine blk_drew ?_ | refine blk_alloc ?_ _)); refine blk_far ?_ NB220_230.out _; (with_reducible repeat (first | refine blk_drewN ?_ _ | refine blk_drew ?_ | refine blk_alloc ?_ _)); refine blk_far ?_ NB220_230.out _; (with_reducible repeat (first | refine blk_drewN ?_ _ | refine blk_drew ?_ | refine blk_alloc ?_ _)); exact BK220.out⟩
 have n13_ : Aside0 ((((((w82.setCell ⟨gb230, 0, none⟩ (.int .i64 t224)).setCell ⟨gb230, 1, none⟩ (.int .i64 t225)).setCell ⟨gb230, 2, none⟩ (.int .i64 t226)).setCell ⟨gb230, 3, none⟩ (.int .i64 t227)).setCell ⟨gb230, 4, none⟩ (.int .i64 t228)).heap[gb230]? = some (.cells #[.int .i64 t224, .int .i64 t225, .int .i64 t226, .int .i64 t227, .int .i64 t228] 26 (0, 0))) := ⟨by (with_reducible repeat (first | refine blk_drewN ?_ _ | refine blk_drew ?_ | refine blk_alloc ?_ _)); refine blk_put (cs := #[.int .i64 t224, .int .i64 t225, .int .i64 t226, .int .i64 t227, .int .i64 0]) ?_ 4 _ rfl; (with_reducible repeat (first | refine blk_drewN ?_ _ | refine blk_drew ?_ | refine blk_alloc ?_ _)); refine blk_put (cs := #[.int .i64 t224, .int .i64 t225, .int .i64 t226, .int .i64 0, .int .i64 0]) ?_ 3 _ rfl; (with_reducible repeat (first | refine blk_drewN ?_ _ | refine blk_drew ?_ | refine blk_alloc ?_ _)); refine blk_put (cs := #[.int .i64 t224, .int .i64 t225, .int .i64 0, .int .i64 0, .int .i64 0]) ?_ 2 _ rfl; (with_reducible repeat (first | refine blk_drewN ?_ _ | refine blk_drew ?_ | refine blk_alloc ?_ _)); refine blk_put (cs := #[.int .i64 t224, .int .i64 0, .int .i64 0, .int .i64 0, .int .i64 0]) ?_ 1 _ rfl; (with_reducible repeat (first | refine blk_drewN ?_ _ | refine blk_drew ?_ | refine blk_alloc ?_ _)); refine blk_put (cs := #[.int .i64 0, .int .i64 0, .int .i64 0, .int .i64 0, .int .i64 0]) ?_ 0 _ rfl; (with_reducible repeat (first | refine blk_drewN ?_ _ | refine blk_drew ?_ | refine blk_alloc ?_ _)); exact BK230.out⟩
 have n14_ : Aside0 (Below w.heap.size w (((((w82.setCell ⟨gb230, 0, none⟩ (.int .i64 t224)).setCell ⟨gb230, 1, none⟩ (.int .i64 t225)).setCell ⟨gb230, 2, none⟩ (.int .i64 t226)).setCell ⟨gb230, 3, none⟩ (.int .i64 t227)).setCell ⟨gb230, 4, none⟩ (.int .i64 t228))) := ⟨by repeat (first | (with_reducible first | exact HB.out | apply below_alloc | apply pw_below_drewN | apply below_drew1 | refine below_set ?_ GE172.out | refine below_set ?_ GE182.out | refine below_set ?_ GE189.out | refine below_set ?_ GE193.out | refine below_set ?_ GE200.out | refine below_set ?_ GE210.out | refine below_set ?_ GE220.out | refine below_set ?_ GE230.out) | exact HB.out)⟩
 (try clear HO170)
 (try clear HO180)
 (try clear HO192)
 (try clear HO208)
 (try clear HO218)
 (try clear HO223)
 (try clear BK172)
 (try clear BK182)
 (try clear BK189)
 (try clear BK193)
 (try clear BK200)
 (try clear BK210)
 (try clear BK220)
 (try clear BK230)
 (try clear HB)
 generalize (((((w82.setCell ⟨gb230, 0, none⟩ (.int .i64 t224)).setCell ⟨gb230, 1, none⟩ (.int .i64 t225)).setCell ⟨gb230, 2, none⟩ (.int .i64 t226)).setCell ⟨gb230, 3, none⟩ (.int .i64 t227)).setCell ⟨gb230, 4, none⟩ (.int .i64 t228)) = w91 at n0_ n1_ n2_ n3_ n4_ n5_ n6_ n7_ n8_ n9_ n10_ n11_ n12_ n13_ n14_ ⊢
 have HO170 := n0_
 have HO180 := n1_
 have HO192 := n2_
 have HO208 := n3_
 have HO218 := n4_
 have HO223 := n5_
 have BK172 := n6_
 have BK182 := n7_
 have BK189 := n8_
 have BK193 := n9_
 have BK200 := n10_
 have BK210 := n11_
 have BK220 := n12_
 have BK230 := n13_
 have HB := n14_
 clear n0_ n1_ n2_ n3_ n4_ n5_ n6_ n7_ n8_ n9_ n10_ n11_ n12_ n13_ n14_
 have n0_ := Aside0.mk (Kd.R_drew HO170.out)
 have n1_ := Aside0.mk (Kd.R_drew HO180.out)
 have n2_ := Aside0.mk (Kd.R_drew HO192.out)
 have n3_ := Aside0.mk (Kd.R_drew HO208.out)
 have n4_ := Aside0.mk (Kd.R_drew HO218.out)
 have n5_ := Aside0.mk (Kd.R_drew HO223.out)
 have n6_ := Aside0.mk (blk_drew BK172.out)
 have n7_ := Aside0.mk (blk_drew BK182.out)
 have n8_ := Aside0.mk (blk_drew BK189.out)
 have n9_ := Aside0.mk (blk_drew BK193.out)
 have n10_ := Aside0.mk (blk_drew BK200.out)
 have n11_ := Aside0.mk (blk_drew BK210.out)
 have n12_ := Aside0.mk (blk_drew BK220.out)
 have n13_ := Aside0.mk (blk_drew BK230.out)
 have n14_ := Aside0.mk (below_drew1 HB.out)
 clear HO170
 clear HO180
 clear HO192
 clear HO208
 clear HO218
 clear HO223
 clear BK172
 clear BK182
 clear BK189
 clear BK193
 clear BK200
 clear BK210
 clear BK220
 clear BK230
 clear HB
 have HO170 := n0_
 have HO180 := n1_
 have HO192 := n2_
 have HO208 := n3_
 have HO218 := n4_
 have HO223 := n5_
 have BK172 := n6_
 have BK182 := n7_
 have BK189 := n8_
 have BK193 := n9_
 have BK200 := n10_
 have BK210 := n11_
 have BK220 := n12_
 have BK230 := n13_
 have HB := n14_
 clear n0_ n1_ n2_ n3_ n4_ n5_ n6_ n7_ n8_ n9_ n10_ n11_ n12_ n13_ n14_
 refine start_ (n := 40) (S := fun w' => w'.cell? ⟨gb189, 0, none⟩ = some (.int .i64 t183) ∧ w'.cell? ⟨gb189, 1, none⟩ = some (.int .i64 t184) ∧ w'.cell? ⟨gb189, 2, none⟩ = some (.int .i64 t185) ∧ w'.cell? ⟨gb189, 3, none⟩ = some (.int .i64 t186) ∧ w'.cell? ⟨gb189, 4, none⟩ = some (.int .i64 t187) ∧ w'.cell? ⟨gb200, 0, none⟩ = some (.int .i64 t194) ∧ w'.cell? ⟨gb200, 1, none⟩ = some (.int .i64 t195) ∧ w'.cell? ⟨gb200, 2, none⟩ = some (.int .i64 t196) ∧ w'.cell? ⟨gb200, 3, none⟩ = some (.int .i64 t197) ∧ w'.cell? ⟨gb200, 4, none⟩ = some (.int .i64 t198) ∧ w'.cell? ⟨gb182, 0, none⟩ = some (.slice Ao34 t178.length co34)) (ds := []) #[false, false, false, false, false, false, false, false, false, false, false, false, false, false, false, false, false, false, false, false, false, false, false, false, false, false, false, false, false, false, false, false, false, false, false, false, false, false, false, false] (by kernel_rfl) rfl rfl ⟨(blk_cell BK189.out 0).trans rfl, (blk_cell BK189.out 1).trans rfl, (blk_cell BK189.out 2).trans rfl, (blk_cell BK189.out 3).trans rfl, (blk_cell BK189.out 4).trans rfl, (blk_cell BK200.out 0).trans rfl, (blk_cell BK200.out 1).trans rfl, (blk_cell BK200.out 2).trans rfl, (blk_cell BK200.out 3).trans rfl, (blk_cell BK200.out 4).trans rfl, (blk_cell BK182.out 0).trans rfl⟩ (fun hHeld => ?_); refine with_tabW slotmeshlaw27_head.tab9 slotmeshlaw27_head.bits9 (fun HT_ HW_ => ?_)
 generalize w91.drew = w92 at HO170 HO180 HO192 HO208 HO218 HO223 BK172 BK182 BK189 BK193 BK200 BK210 BK220 BK230 HB hHeld ⊢
 refine pure_ (i := 0) (N := some 58) (v := ?_) (a' := ?_) #[true, false, false, false, false, false, false, false, false, false, false, false, false, false, false, false, false, false, false, false, false, false, false, false, false, false, false, false, false, false, false, false, false, false, false, false, false, false, false, false] rfl rfl (any_of HT_.out (by kernel_rfl)) (fun _ _ _ h => h) (Or.inl ⟨by rfl, ?_⟩) ?_ ?_
 rotate_left
 ·intro w'
  go_simp
  with_reducible rfl
 rotate_left
 ·simp only [Act.put, List.setIfInBounds_toArray, List.set_cons_zero, List.set_cons_succ, i64_w, i32_w]
  rfl
 refine pure_ (i := 1) (N := some 59) (v := ?_) (a' := ?_) #[true, true, false, false, false, false, false, false, false, false, false, false, false, false, false, false, false, false, false, false, false, false, false, false, false, false, false, false, false, false, false, false, false, false, false, false, false, false, false, false] rfl rfl (any_of HT_.out (by kernel_rfl)) (fun _ _ _ h => h) (Or.inl ⟨by rfl, ?_⟩) ?_ ?_
 rotate_left
 ·intro w'
  go_simp
  with_reducible rfl
 rotate_left
 ·simp only [Act.put, List.setIfInBounds_toArray, List.set_cons_zero, List.set_cons_succ, i64_w, i32_w]
  rfl
 refine pure_ (i := 2) (N := some 60) (v := ?_) (a' := ?_) #[true, true, true, false, false, false, false, false, false, false, false, false, false, false, false, false, false, false, false, false, false, false, false, false, false, false, false, false, false, false, false, false, false, false, false, false, false, false, false, false] rfl rfl (any_of HT_.out (by kernel_rfl)) (fun _ _ _ h => h) (Or.inl ⟨by rfl, ?_⟩) ?_ ?_
 rotate_left
 ·intro w'
  go_simp
  with_reducible rfl
 rotate_left
 ·simp only [Act.put, List.setIfInBounds_toArray, List.set_cons_zero, List.set_cons_succ, i64_w, i32_w]
  rfl
 refine pure_ (i := 3) (N := some 61) (v := ?_) (a' := ?_) #[true, true, true, true, false, false, false, false, false, false, false, false, false, false, false, false, false, false, false, false, false, false, false, false, false, false, false, false, false, false, false, false, false, false, false, false, false, false, false, false] rfl rfl (any_of HT_.out (by kernel_rfl)) (fun _ _ _ h => h) (Or.inl ⟨by rfl, ?_⟩) ?_ ?_
 rotate_left
 ·intro w'
  go_simp
  with_reducible rfl
 rotate_left
 ·simp only [Act.put, List.setIfInBounds_toArray, List.set_cons_zero, List.set_cons_succ, i64_w, i32_w]
  rfl
 refine pure_ (i := 4) (N := some 62) (v := ?_) (a' := ?_) #[true, true, true, true, true, false, false, false, false, false, false, false, false, false, false, false, false, false, false, false, false, false, false, false, false, false, false, false, false, false, false, false, false, false, false, false, false, false, false, false] rfl rfl (any_of HT_.out (by kernel_rfl)) (fun _ _ _ h => h) (Or.inl ⟨by rfl, ?_⟩) ?_ ?_
 rotate_left
 ·intro w'
  go_simp
  with_reducible rfl
 rotate_left
 ·simp only [Act.put, List.setIfInBounds_toArray, List.set_cons_zero, List.set_cons_succ, i64_w, i32_w]
  rfl
 refine pure_ (i := 5) (N := some 63) (v := ?_) (a' := ?_) #[true, true, true, true, true, true, false, false, false, false, false, false, false, false, false, false, false, false, false, false, false, false, false, false, false, false, false, false, false, false, false, false, false, false, false, false, false, false, false, false] rfl rfl (any_of HT_.out (by kernel_rfl)) (fun _ _ _ h => h) (Or.inl ⟨by rfl, ?_⟩) ?_ ?_
 rotate_left
 ·intro w'
  go_simp
  with_reducible rfl
 rotate_left
 ·simp only [Act.put, List.setIfInBounds_toArray, List.set_cons_zero, List.set_cons_succ, i64_w, i32_w]
  rfl
 refine pure_ (i := 6) (N := some 64) (v := ?_) (a' := ?_) #[true, true, true, true, true, true, true, false, false, false, false, false, false, false, false, false, false, false, false, false, false, false, false, false, false, false, false, false, false, false, false, false, false, false, false, false, false, false, false, false] rfl rfl (any_of HT_.out (by kernel_rfl)) (fun _ _ _ h => h) (Or.inl ⟨by rfl, ?_⟩) ?_ ?_
 rotate_left
 ·intro w'
  go_simp
  with_reducible rfl
 rotate_left
 ·simp only [Act.put, List.setIfInBounds_toArray, List.set_cons_zero, List.set_cons_succ, i64_w, i32_w]
  rfl
 refine pure_ (i := 7) (N := some 65) (v := ?_) (a' := ?_) #[true, true, true, true, true, true, true, true, false, false, false, false, false, false, false, false, false, false, false, false, false, false, false, false, false, false, false, false, false, false, false, false, false, false, false, false, false, false, false, false] rfl rfl (any_of HT_.out (by kernel_rfl)) (fun _ _ _ h => h) (Or.inl ⟨by rfl, ?_⟩) ?_ ?_
 rotate_left
 ·intro w'
  go_simp
  with_reducible rfl
 rotate_left
 ·simp only [Act.put, List.setIfInBounds_toArray, List.set_cons_zero, List.set_cons_succ, i64_w, i32_w]
  rfl
 refine pure_ (i := 8) (N := some 66) (v := ?_) (a' := ?_) #[true, true, true, true, true, true, true, true, true, false, false, false, false, false, false, false, false, false, false, false, false, false, false, false, false, false, false, false, false, false, false, false, false, false, false, false, false, false, false, false] rfl rfl (any_of HT_.out (by kernel_rfl)) (fun _ _ _ h => h) (Or.inl ⟨by rfl, ?_⟩) ?_ ?_
 rotate_left
 ·intro w'
  go_simp
  with_reducible rfl
 rotate_left
 ·simp only [Act.put, List.setIfInBounds_toArray, List.set_cons_zero, List.set_cons_succ, i64_w, i32_w]
  rfl
 refine pure_ (i := 9) (N := some 67) (v := ?_) (a' := ?_) #[true, true, true, true, true, true, true, true, true, true, false, false, false, false, false, false, false, false, false, false, false, false, false, false, false, false, false, false, false, false, false, false, false, false, false, false, false, false, false, false] rfl rfl (any_of HT_.out (by kernel_rfl)) (fun _ _ _ h => h) (Or.inl ⟨by rfl, ?_⟩) ?_ ?_
 rotate_left
 ·intro w'
  go_simp
  with_reducible rfl
 rotate_left
 ·simp only [Act.put, List.setIfInBounds_toArray, List.set_cons_zero, List.set_cons_succ, i64_w, i32_w]
  rfl
 refine pure_ (i := 10) (N := some 68) (v := ?_) (a' := ?_) #[true, true, true, true, true, true, true, true, true, true, true, false, false, false, false, false, false, false, false, false, false, false, false, false, false, false, false, false, false, false, false, false, false, false, false, false, false, false, false, false] rfl rfl (any_of HT_.out (by kernel_rfl)) (fun _ _ _ h => h) (Or.inl ⟨by rfl, ?_⟩) ?_ ?_
 rotate_left
 ·intro w'
  go_simp
  with_reducible rfl
 rotate_left
 ·simp only [Act.put, List.setIfInBounds_toArray, List.set_cons_zero, List.set_cons_succ, i64_w, i32_w]
  rfl
 refine pure_ (i := 11) (N := some 69) (v := ?_) (a' := ?_) #[true, true, true, true, true, true, true, true, true, true, true, true, false, false, false, false, false, false, false, false, false, false, false, false, false, false, false, false, false, false, false, false, false, false, false, false, false, false, false, false] rfl rfl (any_of HT_.out (by kernel_rfl)) (fun _ _ _ h => h) (Or.inl ⟨by rfl, ?_⟩) ?_ ?_
 rotate_left
 ·intro w'
  go_simp
  with_reducible rfl
 rotate_left
 ·simp only [Act.put, List.setIfInBounds_toArray, List.set_cons_zero, List.set_cons_succ, i64_w, i32_w]
  rfl
 refine pure_ (i := 12) (N := some 70) (v := ?_) (a' := ?_) #[true, true, true, true, true, true, true, true, true, true, true, true, true, false, false, false, false, false, false, false, false, false, false, false, false, false, false, false, false, false, false, false, false, false, false, false, false, false, false, false] rfl rfl (any_of HT_.out (by kernel_rfl)) (fun _ _ _ h => h) (Or.inl ⟨by rfl, ?_⟩) ?_ ?_
 rotate_left
 ·intro w'
  go_simp
  with_reducible rfl
 rotate_left
 ·simp only [Act.put, List.setIfInBounds_toArray, List.set_cons_zero, List.set_cons_succ, i64_w, i32_w]
  rfl
 refine pure_ (i := 13) (N := some 71) (v := ?_) (a' := ?_) #[true, true, true, true, true, true, true, true, true, true, true, true, true, true, false, false, false, false, false, false, false, false, false, false, false, false, false, false, false, false, false, false, false, false, false, false, false, false, false, false] rfl rfl (any_of HT_.out (by kernel_rfl)) (fun _ _ _ h => h) (Or.inl ⟨by rfl, ?_⟩) ?_ ?_
 rotate_left
 ·intro w'
  go_simp
  with_reducible rfl
 rotate_left
 ·simp only [Act.put, List.setIfInBounds_toArray, List.set_cons_zero, List.set_cons_succ, i64_w, i32_w]
  rfl
 refine pure_ (i := 14) (N := some 72) (v := ?_) (a' := ?_) #[true, true, true, true, true, true, true, true, true, true, true, true, true, true, true, false, false, false, false, false, false, false, false, false, false, false, false, false, false, false, false, false, false, false, false, false, false, false, false, false] rfl rfl (any_of HT_.out (by kernel_rfl)) (fun _ _ _ h => h) (Or.inl ⟨by rfl, ?_⟩) ?_ ?_
 rotate_left
 ·intro w'
  go_simp
  with_reducible rfl
 rotate_left
 ·simp only [Act.put, List.setIfInBounds_toArray, List.set_cons_zero, List.set_cons_succ, i64_w, i32_w]
  rfl
 refine pure_ (i := 15) (N := some 73) (v := ?_) (a' := ?_) #[true, true, true, true, true, true, true, true, true, true, true, true, true, true, true, true, false, false, false, false, false, false, false, false, false, false, false, false, false, false, false, false, false, false, false, false, false, false, false, false] rfl rfl (any_of HT_.out (by kernel_rfl)) (fun _ _ _ h => h) (Or.inl ⟨by rfl, ?_⟩) ?_ ?_
 rotate_left
 ·intro w'
  go_simp
  with_reducible rfl
 rotate_left
 ·simp only [Act.put, List.setIfInBounds_toArray, List.set_cons_zero, List.set_cons_succ, i64_w, i32_w]
  rfl
 refine pure_ (i := 16) (N := some 74) (v := ?_) (a' := ?_) #[true, true, true, true, true, true, true, true, true, true, true, true, true, true, true, true, true, false, false, false, false, false, false, false, false, false, false, false, false, false, false, false, false, false, false, false, false, false, false, false] rfl rfl (any_of HT_.out (by kernel_rfl)) (fun _ _ _ h => h) (Or.inl ⟨by rfl, ?_⟩) ?_ ?_
 rotate_left
 ·intro w'
  go_simp
  with_reducible rfl
 rotate_left
 ·simp only [Act.put, List.setIfInBounds_toArray, List.set_cons_zero, List.set_cons_succ, i64_w, i32_w]
  rfl
 refine pure_ (i := 17) (N := some 75) (v := ?_) (a' := ?_) #[true, true, true, true, true, true, true, true, true, true, true, true, true, true, true, true, true, true, false, false, false, false, false, false, false, false, false, false, false, false, false, false, false, false, false, false, false, false, false, false] rfl rfl (any_of HT_.out (by kernel_rfl)) (fun _ _ _ h => h) (Or.inl ⟨by rfl, ?_⟩) ?_ ?_
 rotate_left
 ·intro w'
  go_simp
  with_reducible rfl
 rotate_left
 ·simp only [Act.put, List.setIfInBounds_toArray, List.set_cons_zero, List.set_cons_succ, i64_w, i32_w]
  rfl
 refine pure_ (i := 18) (N := some 76) (v := ?_) (a' := ?_) #[true, true, true, true, true, true, true, true, true, true, true, true, true, true, true, true, true, true, true, false, false, false, false, false, false, false, false, false, false, false, false, false, false, false, false, false, false, false, false, false] rfl rfl (any_of HT_.out (by kernel_rfl)) (fun _ _ _ h => h) (Or.inl ⟨by rfl, ?_⟩) ?_ ?_
 rotate_left
 ·intro w'
  go_simp
  with_reducible rfl
 rotate_left
 ·simp only [Act.put, List.setIfInBounds_toArray, List.set_cons_zero, List.set_cons_succ, i64_w, i32_w]
  rfl
 refine pure_ (i := 19) (N := some 77) (v := ?_) (a' := ?_) #[true, true, true, true, true, true, true, true, true, true, true, true, true, true, true, true, true, true, true, true, false, false, false, false, false, false, false, false, false, false, false, false, false, false, false, false, false, false, false, false] rfl rfl (any_of HT_.out (by kernel_rfl)) (fun _ _ _ h => h) (Or.inl ⟨by rfl, ?_⟩) ?_ ?_
 rotate_left
 ·intro w'
  go_simp
  with_reducible rfl
 rotate_left
 ·simp only [Act.put, List.setIfInBounds_toArray, List.set_cons_zero, List.set_cons_succ, i64_w, i32_w]
  rfl
 refine pure_ (i := 20) (N := some 78) (v := ?_) (a' := ?_) #[true, true, true, true, true, true, true, true, true, true, true, true, true, true, true, true, true, true, true, true, true, false, false, false, false, false, false, false, false, false, false, false, false, false, false, false, false, false, false, false] rfl rfl (any_of HT_.out (by kernel_rfl)) (fun _ _ _ h => h) (Or.inl ⟨by rfl, ?_⟩) ?_ ?_
 rotate_left
 ·intro w'
  go_simp
  with_reducible rfl
 rotate_left
 ·simp only [Act.put, List.setIfInBounds_toArray, List.set_cons_zero, List.set_cons_succ, i64_w, i32_w]
  rfl
 refine pure_ (i := 21) (N := some 79) (v := ?_) (a' := ?_) #[true, true, true, true, true, true, true, true, true, true, true, true, true, true, true, true, true, true, true, true, true, true, false, false, false, false, false, false, false, false, false, false, false, false, false, false, false, false, false, false] rfl rfl (any_of HT_.out (by kernel_rfl)) (fun _ _ _ h => h) (Or.inl ⟨by rfl, ?_⟩) ?_ ?_
 rotate_left
 ·intro w'
  go_simp
  with_reducible rfl
 rotate_left
 ·simp only [Act.put, List.setIfInBounds_toArray, List.set_cons_zero, List.set_cons_succ, i64_w, i32_w]
  rfl
 refine pure_ (i := 22) (N := some 80) (v := ?_) (a' := ?_) #[true, true, true, true, true, true, true, true, true, true, true, true, true, true, true, true, true, true, true, true, true, true, true, false, false, false, false, false, false, false, false, false, false, false, false, false, false, false, false, false] rfl rfl (any_of HT_.out (by kernel_rfl)) (fun _ _ _ h => h) (Or.inl ⟨by rfl, ?_⟩) ?_ ?_
 rotate_left
 ·intro w'
  go_simp
  with_reducible rfl
 rotate_left
 ·simp only [Act.put, List.setIfInBounds_toArray, List.set_cons_zero, List.set_cons_succ, i64_w, i32_w]
  rfl
 refine pure_ (i := 23) (N := some 81) (v := ?_) (a' := ?_) #[true, true, true, true, true, true, true, true, true, true, true, true, true, true, true, true, true, true, true, true, true, true, true, true, false, false, false, false, false, false, false, false, false, false, false, false, false, false, false, false] rfl rfl (any_of HT_.out (by kernel_rfl)) (fun _ _ _ h => h) (Or.inl ⟨by rfl, ?_⟩) ?_ ?_
 rotate_left
 ·intro w'
  go_simp
  with_reducible rfl
 rotate_left
 ·simp only [Act.put, List.setIfInBounds_toArray, List.set_cons_zero, List.set_cons_succ, i64_w, i32_w]
  rfl
 refine pure_ (i := 24) (N := some 82) (v := ?_) (a' := ?_) #[true, true, true, true, true, true, true, true, true, true, true, true, true, true, true, true, true, true, true, true, true, true, true, true, true, false, false, false, false, false, false, false, false, false, false, false, false, false, false, false] rfl rfl (any_of HT_.out (by kernel_rfl)) (fun _ _ _ h => h) (Or.inl ⟨by rfl, ?_⟩) ?_ ?_
 rotate_left
 ·intro w'
  go_simp
  with_reducible rfl
 rotate_left
 ·simp only [Act.put, List.setIfInBounds_toArray, List.set_cons_zero, List.set_cons_succ, i64_w, i32_w]
  rfl
 refine take_ (i := 25) (N := some 83) (v := ?_) (a' := ?_) #[true, true, true, true, true, true, true, true, true, true, true, true, true, true, true, true, true, true, true, true, true, true, true, true, true, true, false, false, false, false, false, false, false, false, false, false, false, false, false, false] rfl rfl (take_ofW HT_.out HW_.out (by kernel_rfl)) (fun _ _ _ h => h) (Or.inl ⟨by rfl, ?_⟩) hHeld ?_ ?_
 rotate_left
 ·rintro w' ⟨s0, s1, s2, s3, s4, s5, s6, s7, s8, s9, s10⟩
  go_simp
  with_reducible rfl
 rotate_left
 ·simp only [Act.put, List.setIfInBounds_toArray, List.set_cons_zero, List.set_cons_succ, i64_w, i32_w]
  rfl
 refine one_ (i := 26) (N := some 84) #[true, true, true, true, true, true, true, true, true, true, true, true, true, true, true, true, true, true, true, true, true, true, true, true, true, true, true, false, false, false, false, false, false, false, false, false, false, false, false, false] rfl rfl (one_of HT_.out (by kernel_rfl)) (by decide) (fun K hK => ?_)
 refine goes_ Try.func23 (by kernel_rfl) rfl #[.int .i64 2, .int .i64 1] (by rfl) rfl rfl (by (try simp only [List.map_toArray, List.map_cons, List.map_nil]); first | done | rfl | (simp only [List.length_drop, List.length_take]; rfl)) ?_
 with_reducible refine (slotmeshlaw27_reading.calls 2 1 t231 t232 t233 t234 t235 _ A18.out).mono ?_
 rintro e w93 ⟨rfl, hb⟩
 refine ⟨_, rfl, ?_⟩
 have n0_ := Aside0.mk (Kd.R_below (by with_reducible exact HO170.out) hb)
 have n1_ := Aside0.mk (Kd.R_below (by with_reducible exact HO180.out) hb)
 have n2_ := Aside0.mk (Kd.R_below (by with_reducible exact HO192.out) hb)
 have n3_ := Aside0.mk (Kd.R_below (by with_reducible exact HO208.out) hb)
 have n4_ := Aside0.mk (Kd.R_below (by with_reducible exact HO218.out) hb)
 have n5_ := Aside0.mk (Kd.R_below (by with_reducible exact HO223.out) hb)
 have n6_ := Aside0.mk (blk_below (g := gb172) (o := .cells #[.slice Ao26 t168.length co26] 24 (0, 0)) (by with_reducible exact BK172.out) hb)
 have n7_ := Aside0.mk (blk_below (g := gb182) (o := .cells #[.slice Ao34 t178.length co34] 24 (0, 0)) (by with_reducible exact BK182.out) hb)
 have n8_ := Aside0.mk (blk_below (g := gb189) (o := .cells #[.int .i64 t183, .int .i64 t184, .int .i64 t185, .int .i64 t186, .int .i64 t187] 26 (0, 0)) (by with_reducible exact BK189.out) hb)
 have n9_ := Aside0.mk (blk_below (g := gb193) (o := .cells #[.slice Ao47 t190.length co47] 24 (0, 0)) (by with_reducible exact BK193.out) hb)
 have n10_ := Aside0.mk (blk_below (g := gb200) (o := .cells #[.int .i64 t194, .int .i64 t195, .int .i64 t196, .int .i64 t197, .int .i64 t198] 26 (0, 0)) (by with_reducible exact BK200.out) hb)
 have n11_ := Aside0.mk (blk_below (g := gb210) (o := .cells #[.slice Ao65 t206.length co65] 24 (0, 0)) (by with_reducible exact BK210.out) hb)
 have n12_ := Aside0.mk (blk_below (g := gb220) (o := .cells #[.slice Ao73 t216.length co73] 24 (0, 0)) (by with_reducible exact BK220.out) hb)
 have n13_ := Aside0.mk (blk_below (g := gb230) (o := .cells #[.int .i64 t224, .int .i64 t225, .int .i64 t226, .int .i64 t227, .int .i64 t228] 26 (0, 0)) (by with_reducible exact BK230.out) hb)
 have n14_ := Aside0.mk (below_step (by with_reducible exact HB.out) hb)
 clear HO170
 clear HO180
 clear HO192
 clear HO208
 clear HO218
 clear HO223
 clear BK172
 clear BK182
 clear BK189
 clear BK193
 clear BK200
 clear BK210
 clear BK220
 clear BK230
 clear HB
 have HO170 := n0_
 have HO180 := n1_
 have HO192 := n2_
 have HO208 := n3_
 have HO218 := n4_
 have HO223 := n5_
 have BK172 := n6_
 have BK182 := n7_
 have BK189 := n8_
 have BK193 := n9_
 have BK200 := n10_
 have BK210 := n11_
 have BK220 := n12_
 have BK230 := n13_
 have HB := n14_
 clear n0_ n1_ n2_ n3_ n4_ n5_ n6_ n7_ n8_ n9_ n10_ n11_ n12_ n13_ n14_
 (try clear hb)
 (try clear hb2)
 (try clear hk)
 (try clear hi)
 refine hK.out _ _ ⟨(blk_cell BK189.out 0).trans rfl, (blk_cell BK189.out 1).trans rfl, (blk_cell BK189.out 2).trans rfl, (blk_cell BK189.out 3).trans rfl, (blk_cell BK189.out 4).trans rfl, (blk_cell BK200.out 0).trans rfl, (blk_cell BK200.out 1).trans rfl, (blk_cell BK200.out 2).trans rfl, (blk_cell BK200.out 3).trans rfl, (blk_cell BK200.out 4).trans rfl, (blk_cell BK182.out 0).trans rfl⟩ (fun hHeld => ?_)
 clear hK K
 refine norm_ (a' := ?_) ?_ ?_
 rotate_left
 ·show Act.put _ (some 84) _ = _
  simp only [Act.put, List.setIfInBounds_toArray, List.set_cons_zero, List.set_cons_succ, i64_w, i32_w]
  rfl
 refine pure_ (i := 27) (N := some 85) (v := ?_) (a' := ?_) #[true, true, true, true, true, true, true, true, true, true, true, true, true, true, true, true, true, true, true, true, true, true, true, true, true, true, true, true, false, false, false, false, false, false, false, false, false, false, false, false] rfl rfl (any_of HT_.out (by kernel_rfl)) (fun _ _ _ h => h) (Or.inl ⟨by rfl, ?_⟩) ?_ ?_
 rotate_left
 ·intro w'
  go_simp
  with_reducible rfl
 rotate_left
 ·simp only [Act.put, List.setIfInBounds_toArray, List.set_cons_zero, List.set_cons_succ, i64_w, i32_w]
  rfl
 refine pure_ (i := 28) (N := some 86) (v := ?_) (a' := ?_) #[true, true, true, true, true, true, true, true, true, true, true, true, true, true, true, true, true, true, true, true, true, true, true, true, true, true, true, true, true, false, false, false, false, false, false, false, false, false, false, false] rfl rfl (any_of HT_.out (by kernel_rfl)) (fun _ _ _ h => h) (Or.inl ⟨by rfl, ?_⟩) ?_ ?_
 rotate_left
 ·intro w'
  go_simp
  with_reducible rfl
 rotate_left
 ·simp only [Act.put, List.setIfInBounds_toArray, List.set_cons_zero, List.set_cons_succ, i64_w, i32_w]
  rfl
 refine pure_ (i := 29) (N := some 87) (v := ?_) (a' := ?_) #[true, true, true, true, true, true, true, true, true, true, true, true, true, true, true, true, true, true, true, true, true, true, true, true, true, true, true, true, true, true, false, false, false, false, false, false, false, false, false, false] rfl rfl (any_of HT_.out (by kernel_rfl)) (fun _ _ _ h => h) (Or.inl ⟨by rfl, ?_⟩) ?_ ?_
 rotate_left
 ·intro w'
  go_simp
  with_reducible rfl
 rotate_left
 ·simp only [Act.put, List.setIfInBounds_toArray, List.set_cons_zero, List.set_cons_succ, i64_w, i32_w]
  rfl
 refine take_ (i := 30) (N := some 88) (v := ?_) (a' := ?_) #[true, true, true, true, true, true, true, true, true, true, true, true, true, true, true, true, true, true, true, true, true, true, true, true, true, true, true, true, true, true, true, false, false, false, false, false, false, false, false, false] rfl rfl (take_ofW HT_.out HW_.out (by kernel_rfl)) (fun _ _ _ h => h) (Or.inl ⟨by rfl, ?_⟩) hHeld ?_ ?_
 rotate_left
 ·rintro w' ⟨s0, s1, s2, s3, s4, s5, s6, s7, s8, s9, s10⟩
  go_simp
  with_reducible rfl
 rotate_left
 ·simp only [Act.put, List.setIfInBounds_toArray, List.set_cons_zero, List.set_cons_succ, i64_w, i32_w]
  rfl
 refine one_ (i := 31) (N := some 89) #[true, true, true, true, true, true, true, true, true, true, true, true, true, true, true, true, true, true, true, true, true, true, true, true, true, true, true, true, true, true, true, true, false, false, false, false, false, false, false, false] rfl rfl (one_of HT_.out (by kernel_rfl)) (by decide) (fun K hK => ?_)
 refine goes_ Try.func23 (by kernel_rfl) rfl #[.int .i64 2, .int .i64 2] (by rfl) rfl rfl (by (try simp only [List.map_toArray, List.map_cons, List.map_nil]); first | done | rfl | (simp only [List.length_drop, List.length_take]; rfl)) ?_
 with_reducible refine (slotmeshlaw27_reading.calls 2 2 t236 t237 t238 t239 t240 _ A20.out).mono ?_
 rintro e w94 ⟨rfl, hb⟩
 refine ⟨_, rfl, ?_⟩
 have n0_ := Aside0.mk (Kd.R_below (by with_reducible exact HO170.out) hb)
 have n1_ := Aside0.mk (Kd.R_below (by with_reducible exact HO180.out) hb)
 have n2_ := Aside0.mk (Kd.R_below (by with_reducible exact HO192.out) hb)
 have n3_ := Aside0.mk (Kd.R_below (by with_reducible exact HO208.out) hb)
 have n4_ := Aside0.mk (Kd.R_below (by with_reducible exact HO218.out) hb)
 have n5_ := Aside0.mk (Kd.R_below (by with_reducible exact HO223.out) hb)
 have n6_ := Aside0.mk (blk_below (g := gb172) (o := .cells #[.slice Ao26 t168.length co26] 24 (0, 0)) (by with_reducible exact BK172.out) hb)
 have n7_ := Aside0.mk (blk_below (g := gb182) (o := .cells #[.slice Ao34 t178.length co34] 24 (0, 0)) (by with_reducible exact BK182.out) hb)
 have n8_ := Aside0.mk (blk_below (g := gb189) (o := .cells #[.int .i64 t183, .int .i64 t184, .int .i64 t185, .int .i64 t186, .int .i64 t187] 26 (0, 0)) (by with_reducible exact BK189.out) hb)
 have n9_ := Aside0.mk (blk_below (g := gb193) (o := .cells #[.slice Ao47 t190.length co47] 24 (0, 0)) (by with_reducible exact BK193.out) hb)
 have n10_ := Aside0.mk (blk_below (g := gb200) (o := .cells #[.int .i64 t194, .int .i64 t195, .int .i64 t196, .int .i64 t197, .int .i64 t198] 26 (0, 0)) (by with_reducible exact BK200.out) hb)
 have n11_ := Aside0.mk (blk_below (g := gb210) (o := .cells #[.slice Ao65 t206.length co65] 24 (0, 0)) (by with_reducible exact BK210.out) hb)
 have n12_ := Aside0.mk (blk_below (g := gb220) (o := .cells #[.slice Ao73 t216.length co73] 24 (0, 0)) (by with_reducible exact BK220.out) hb)
 have n13_ := Aside0.mk (blk_below (g := gb230) (o := .cells #[.int .i64 t224, .int .i64 t225, .int .i64 t226, .int .i64 t227, .int .i64 t228] 26 (0, 0)) (by with_reducible exact BK230.out) hb)
 have n14_ := Aside0.mk (below_step (by with_reducible exact HB.out) hb)
 clear HO170
 clear HO180
 clear HO192
 clear HO208
 clear HO218
 clear HO223
 clear BK172
 clear BK182
 clear BK189
 clear BK193
 clear BK200
 clear BK210
 clear BK220
 clear BK230
 clear HB
 have HO170 := n0_
 have HO180 := n1_
 have HO192 := n2_
 have HO208 := n3_
 have HO218 := n4_
 have HO223 := n5_
 have BK172 := n6_
 have BK182 := n7_
 have BK189 := n8_
 have BK193 := n9_
 have BK200 := n10_
 have BK210 := n11_
 have BK220 := n12_
 have BK230 := n13_
 have HB := n14_
 clear n0_ n1_ n2_ n3_ n4_ n5_ n6_ n7_ n8_ n9_ n10_ n11_ n12_ n13_ n14_
 (try clear hb)
 (try clear hb2)
 (try clear hk)
 (try clear hi)
 refine hK.out _ _ ⟨(blk_cell BK189.out 0).trans rfl, (blk_cell BK189.out 1).trans rfl, (blk_cell BK189.out 2).trans rfl, (blk_cell BK189.out 3).trans rfl, (blk_cell BK189.out 4).trans rfl, (blk_cell BK200.out 0).trans rfl, (blk_cell BK200.out 1).trans rfl, (blk_cell BK200.out 2).trans rfl, (blk_cell BK200.out 3).trans rfl, (blk_cell BK200.out 4).trans rfl, (blk_cell BK182.out 0).trans rfl⟩ (fun hHeld => ?_)
 clear hK K
 refine norm_ (a' := ?_) ?_ ?_
 rotate_left
 ·show Act.put _ (some 89) _ = _
  simp only [Act.put, List.setIfInBounds_toArray, List.set_cons_zero, List.set_cons_succ, i64_w, i32_w]
  rfl
 refine pure_ (i := 32) (N := some 90) (v := ?_) (a' := ?_) #[true, true, true, true, true, true, true, true, true, true, true, true, true, true, true, true, true, true, true, true, true, true, true, true, true, true, true, true, true, true, true, true, true, false, false, false, false, false, false, false] rfl rfl (any_of HT_.out (by kernel_rfl)) (fun _ _ _ h => h) (Or.inl ⟨by rfl, ?_⟩) ?_ ?_
 rotate_left
 ·intro w'
  go_simp
  with_reducible rfl
 rotate_left
 ·simp only [Act.put, List.setIfInBounds_toArray, List.set_cons_zero, List.set_cons_succ, i64_w, i32_w]
  rfl
 refine pure_ (i := 33) (N := some 91) (v := ?_) (a' := ?_) #[true, true, true, true, true, true, true, true, true, true, true, true, true, true, true, true, true, true, true, true, true, true, true, true, true, true, true, true, true, true, true, true, true, true, false, false, false, false, false, false] rfl rfl (any_of HT_.out (by kernel_rfl)) (fun _ _ _ h => h) (Or.inl ⟨by rfl, ?_⟩) ?_ ?_
 rotate_left
 ·intro w'
  go_simp
  with_reducible rfl
 rotate_left
 ·simp only [Act.put, List.setIfInBounds_toArray, List.set_cons_zero, List.set_cons_succ, i64_w, i32_w]
  rfl
 refine pure_ (i := 34) (N := some 92) (v := ?_) (a' := ?_) #[true, true, true, true, true, true, true, true, true, true, true, true, true, true, true, true, true, true, true, true, true, true, true, true, true, true, true, true, true, true, true, true, true, true, true, false, false, false, false, false] rfl rfl (any_of HT_.out (by kernel_rfl)) (fun _ _ _ h => h) (Or.inl ⟨by rfl, ?_⟩) ?_ ?_
 rotate_left
 ·intro w'
  go_simp
  with_reducible rfl
 rotate_left
 ·simp only [Act.put, List.setIfInBounds_toArray, List.set_cons_zero, List.set_cons_succ, i64_w, i32_w]
  rfl
 refine take_ (i := 35) (N := some 93) (v := ?_) (a' := ?_) #[true, true, true, true, true, true, true, true, true, true, true, true, true, true, true, true, true, true, true, true, true, true, true, true, true, true, true, true, true, true, true, true, true, true, true, true, false, false, false, false] rfl rfl (take_ofW HT_.out HW_.out (by kernel_rfl)) (fun _ _ _ h => h) (Or.inl ⟨by rfl, ?_⟩) hHeld ?_ ?_
 rotate_left
 ·rintro w' ⟨s0, s1, s2, s3, s4, s5, s6, s7, s8, s9, s10⟩
  go_simp
  with_reducible rfl
 rotate_left
 ·simp only [Act.put, List.setIfInBounds_toArray, List.set_cons_zero, List.set_cons_succ, i64_w, i32_w]
  rfl
 refine one_ (i := 36) (N := some 94) #[true, true, true, true, true, true, true, true, true, true, true, true, true, true, true, true, true, true, true, true, true, true, true, true, true, true, true, true, true, true, true, true, true, true, true, true, true, false, false, false] rfl rfl (one_of HT_.out (by kernel_rfl)) (by decide) (fun K hK => ?_)
 refine goes_ Try.func18 (by kernel_rfl) rfl #[.agg #[.slice Ao34 t178.length co34]] (by rfl) rfl rfl (by (try simp only [List.map_toArray, List.map_cons, List.map_nil]); first | done | rfl | (simp only [List.length_drop, List.length_take]; rfl)) ?_
 with_reducible refine (queue_Full.calls 64 _ _ t178 t241 _ ?side1 ?side2 A22.out).mono ?_
 (case side1 => repeat (first | exact (Kd.R_reads' HO180.out).2.2 | (with_reducible refine Kd.C_alloc ?_ _) | (with_reducible refine Kd.C_drewN ?_ _) | (with_reducible refine Kd.C_drew ?_)))
 (case side2 => exact (Kd.R_reads' HO180.out).2.1)
 rintro e w95 ⟨rfl, hb⟩
 refine ⟨_, rfl, ?_⟩
 have n0_ := Aside0.mk (Kd.R_below (by with_reducible exact HO170.out) hb)
 have n1_ := Aside0.mk (Kd.R_below (by with_reducible exact HO180.out) hb)
 have n2_ := Aside0.mk (Kd.R_below (by with_reducible exact HO192.out) hb)
 have n3_ := Aside0.mk (Kd.R_below (by with_reducible exact HO208.out) hb)
 have n4_ := Aside0.mk (Kd.R_below (by with_reducible exact HO218.out) hb)
 have n5_ := Aside0.mk (Kd.R_below (by with_reducible exact HO223.out) hb)
 have n6_ := Aside0.mk (blk_below (g := gb172) (o := .cells #[.slice Ao26 t168.length co26] 24 (0, 0)) (by with_reducible exact BK172.out) hb)
 have n7_ := Aside0.mk (blk_below (g := gb182) (o := .cells #[.slice Ao34 t178.length co34] 24 (0, 0)) (by with_reducible exact BK182.out) hb)
 have n8_ := Aside0.mk (blk_below (g := gb189) (o := .cells #[.int .i64 t183, .int .i64 t184, .int .i64 t185, .int .i64 t186, .int .i64 t187] 26 (0, 0)) (by with_reducible exact BK189.out) hb)
 have n9_ := Aside0.mk (blk_below (g := gb193) (o := .cells #[.slice Ao47 t190.length co47] 24 (0, 0)) (by with_reducible exact BK193.out) hb)
 have n10_ := Aside0.mk (blk_below (g := gb200) (o := .cells #[.int .i64 t194, .int .i64 t195, .int .i64 t196, .int .i64 t197, .int .i64 t198] 26 (0, 0)) (by with_reducible exact BK200.out) hb)
 have n11_ := Aside0.mk (blk_below (g := gb210) (o := .cells #[.slice Ao65 t206.length co65] 24 (0, 0)) (by with_reducible exact BK210.out) hb)
 have n12_ := Aside0.mk (blk_below (g := gb220) (o := .cells #[.slice Ao73 t216.length co73] 24 (0, 0)) (by with_reducible exact BK220.out) hb)
 have n13_ := Aside0.mk (blk_below (g := gb230) (o := .cells #[.int .i64 t224, .int .i64 t225, .int .i64 t226, .int .i64 t227, .int .i64 t228] 26 (0, 0)) (by with_reducible exact BK230.out) hb)
 have n14_ := Aside0.mk (below_step (by with_reducible exact HB.out) hb)
 clear HO170
 clear HO180
 clear HO192
 clear HO208
 clear HO218
 clear HO223
 clear BK172
 clear BK182
 clear BK189
 clear BK193
 clear BK200
 clear BK210
 clear BK220
 clear BK230
 clear HB
 have HO170 := n0_
 have HO180 := n1_
 have HO192 := n2_
 have HO208 := n3_
 have HO218 := n4_
 have HO223 := n5_
 have BK172 := n6_
 have BK182 := n7_
 have BK189 := n8_
 have BK193 := n9_
 have BK200 := n10_
 have BK210 := n11_
 have BK220 := n12_
 have BK230 := n13_
 have HB := n14_
 clear n0_ n1_ n2_ n3_ n4_ n5_ n6_ n7_ n8_ n9_ n10_ n11_ n12_ n13_ n14_
 (try clear hb)
 (try clear hb2)
 (try clear hk)
 (try clear hi)
 refine hK.out _ _ ⟨(blk_cell BK189.out 0).trans rfl, (blk_cell BK189.out 1).trans rfl, (blk_cell BK189.out 2).trans rfl, (blk_cell BK189.out 3).trans rfl, (blk_cell BK189.out 4).trans rfl, (blk_cell BK200.out 0).trans rfl, (blk_cell BK200.out 1).trans rfl, (blk_cell BK200.out 2).trans rfl, (blk_cell BK200.out 3).trans rfl, (blk_cell BK200.out 4).trans rfl, (blk_cell BK182.out 0).trans rfl⟩ (fun hHeld => ?_)
 clear hK K
 refine norm_ (a' := ?_) ?_ ?_
 rotate_left
 ·show Act.put _ (some 94) _ = _
  simp only [Act.put, List.setIfInBounds_toArray, List.set_cons_zero, List.set_cons_succ, i64_w, i32_w]
  rfl
 refine pure_ (i := 37) (N := some 95) (v := ?_) (a' := ?_) #[true, true, true, true, true, true, true, true, true, true, true, true, true, true, true, true, true, true, true, true, true, true, true, true, true, true, true, true, true, true, true, true, true, true, true, true, true, true, false, false] rfl rfl (any_of HT_.out (by kernel_rfl)) (fun _ _ _ h => h) (Or.inl ⟨by rfl, ?_⟩) ?_ ?_
 rotate_left
 ·intro w'
  go_simp
  with_reducible rfl
 rotate_left
 ·simp only [Act.put, List.setIfInBounds_toArray, List.set_cons_zero, List.set_cons_succ, i64_w, i32_w]
  rfl
 refine pure_ (i := 38) (N := some 96) (v := ?_) (a' := ?_) #[true, true, true, true, true, true, true, true, true, true, true, true, true, true, true, true, true, true, true, true, true, true, true, true, true, true, true, true, true, true, true, true, true, true, true, true, true, true, true, false] rfl rfl (any_of HT_.out (by kernel_rfl)) (fun _ _ _ h => h) (Or.inl ⟨by rfl, ?_⟩) ?_ ?_
 rotate_left
 ·intro w'
  go_simp
  with_reducible rfl
 rotate_left
 ·simp only [Act.put, List.setIfInBounds_toArray, List.set_cons_zero, List.set_cons_succ, i64_w, i32_w]
  rfl
 refine pure_ (i := 39) (N := some 0) (v := ?_) (a' := ?_) #[true, true, true, true, true, true, true, true, true, true, true, true, true, true, true, true, true, true, true, true, true, true, true, true, true, true, true, true, true, true, true, true, true, true, true, true, true, true, true, true] rfl rfl (any_of HT_.out (by kernel_rfl)) (fun _ _ _ h => h) (Or.inl ⟨by rfl, ?_⟩) ?_ ?_
 rotate_left
 ·intro w'
  go_simp
  with_reducible rfl
 rotate_left
 ·simp only [Act.put, List.setIfInBounds_toArray, List.set_cons_zero, List.set_cons_succ, i64_w, i32_w]
  rfl
 refine done_ (done_of HT_.out (by kernel_rfl)) ?_
 try go_wp2
 go_ret
 exact ⟨by first | rfl | (simp [errW_none, errW_some] <;> rfl) | (simp only [Nt163.out, Nt164.out, Nt165.out, Nt166.out, Nt167.out, Nt168.out, Nt171.out, Nt173.out, Nt174.out, Nt175.out, Nt176.out, Nt177.out, Nt178.out, Nt181.out, Nt183.out, Nt184.out, Nt185.out, Nt186.out, Nt187.out, Nt190.out, Nt194.out, Nt195.out, Nt196.out, Nt197.out, Nt198.out, Nt201.out, Nt202.out, Nt203.out, Nt204.out, Nt205.out, Nt206.out, Nt209.out, Nt211.out, Nt212.out, Nt213.out, Nt214.out, Nt215.out, Nt216.out, Nt219.out, Nt221.out, Nt224.out, Nt225.out, Nt226.out, Nt227.out, Nt228.out, Nt231.out, Nt232.out, Nt233.out, Nt234.out, Nt235.out, Nt236.out, Nt237.out, Nt238.out, Nt239.out, Nt240.out, Nt241.out] <;> rfl) | (simp [*, errW_none, errW_some] <;> rfl), by with_reducible exact HB.out⟩

end Go.Proofs.Ytcjnjgafhfkegaa.Px
