/- Walks of functions of this seat, written by a program of this workplace out of the translation. -/
import Derived.Test.YtbpfbdljcdcgnaaPx0
import Derived.Test.YtbpfbdljcdcgnaaPx10
import Derived.Test.YtbpfbdljcdcgnaaPx11
import Derived.Test.YtbpfbdljcdcgnaaPx16
import Derived.Test.YtbpfbdljcdcgnaaPx18
import Derived.Test.YtbpfbdljcdcgnaaPx19
import Derived.Test.YtbpfbdljcdcgnaaPx20
namespace Go.Proofs.Ytbpfbdljcdcgnaa.Px
open Go.RowKit Go.Proofs.YtbpfbdljcdcgnaaW.PrintWords Go.Proofs.YtbpfbdljcdcgnaaW.PrintLast Go.Proofs.YtbpfbdljcdcgnaaW.PrintMore
attribute [local go_sem] max2_int min2_int max_two min_two max_three min_three max_four min_four   -- for this text's walks alone
set_option linter.unusedVariables false
set_option linter.unusedSimpArgs false

/-! ### slotmeshlaw12_head: function 10 -/
def slotmeshlaw12_head.f  : Option (Bool) := some true
def slotmeshlaw12_head.T2 : Bool × List (List Nat × List Nat) := (true, [([], []), ([], []), ([1], []), ([2], [2]), ([0, 1, 3, 2], [0, 1, 3]), ([4], [4]), ([5], [5]), ([5], [5]), ([], []), ([8, 6, 4, 0, 1, 2, 3, 4, 5, 6, 8], [6, 8]), ([7, 9, 0, 1, 2, 3, 4, 5, 6, 7, 8, 9], [7])])
def slotmeshlaw12_head.B2 : List Nat := [0, 0, 2, 6, 15, 31, 63, 63, 0, 383, 1023]
theorem slotmeshlaw12_head.tab2 : rtab .any (opsOf Try.f10 2) = slotmeshlaw12_head.T2 := by kernel_rfl
theorem slotmeshlaw12_head.bits2 : waitsOk slotmeshlaw12_head.T2.2 slotmeshlaw12_head.B2 = true := by kernel_rfl
def slotmeshlaw12_head.T4 : Bool × List (List Nat × List Nat) := (true, [([], []), ([], []), ([1], []), ([2], [2]), ([0, 1, 3, 2], [0, 1, 3]), ([4], [4]), ([5], [5]), ([5], [5]), ([], []), ([8, 6, 4, 0, 1, 2, 3, 4, 5, 6, 8], [6, 8]), ([7, 9, 0, 1, 2, 3, 4, 5, 6, 7, 8, 9], [7])])
def slotmeshlaw12_head.B4 : List Nat := [0, 0, 2, 6, 15, 31, 63, 63, 0, 383, 1023]
theorem slotmeshlaw12_head.tab4 : rtab .any (opsOf Try.f10 4) = slotmeshlaw12_head.T4 := by kernel_rfl
theorem slotmeshlaw12_head.bits4 : waitsOk slotmeshlaw12_head.T4.2 slotmeshlaw12_head.B4 = true := by kernel_rfl
def slotmeshlaw12_head.T5 : Bool × List (List Nat × List Nat) := (true, [([], []), ([0], [0]), ([1], [1]), ([2], [2]), ([3, 2], [2, 3]), ([2, 4], [2, 4]), ([5, 2], [5]), ([6], [6]), ([7, 6], [6, 7]), ([6, 8], [6, 8]), ([9, 6], [9]), ([10], [10]), ([11, 10], [10, 11]), ([10, 12], [10, 12]), ([13, 10], [13]), ([14], [14]), ([15, 14], [14, 15]), ([16, 14], [14, 16]), ([17, 14], [14, 17]), ([14, 18], [14, 18]), ([19, 14], [19]), ([20], [20]), ([21, 20], [20, 21]), ([22, 20], [20, 22]), ([23, 20], [20, 23]), ([20, 24], [20, 24]), ([25, 20], [25]), ([26], [26]), ([27, 26], [26, 27]), ([28, 26], [26, 28]), ([29, 26], [26, 29]), ([26, 30], [26, 30]), ([31, 26], [31]), ([32], [32]), ([33, 32, 32], [32, 33]), ([32, 34], [32, 34]), ([35, 34], [35]), ([36], [36]), ([37, 36, 36], [36, 37]), ([38, 36], [36, 38]), ([36, 39], [36, 39]), ([40, 38], [40]), ([41], [41]), ([42, 41, 41], [41, 42]), ([41], [41]), ([43, 44, 43, 41], [41, 43, 44]), ([41, 45], [41, 45]), ([46, 45], [46]), ([47], [47]), ([48, 47, 47], [47, 48]), ([47], [47]), ([49, 50, 49, 47], [47, 49, 50]), ([47, 51], [47, 51]), ([52, 51], [52]), ([53], [53]), ([53, 53], [53]), ([54, 55, 55, 53], [53, 54, 55]), ([53], [53]), ([56, 57, 56, 53], [53, 56, 57]), ([53, 58], [53, 58]), ([59, 58], [59]), ([60], [60]), ([60, 60], [60]), ([61, 62, 62, 60], [60, 61, 62]), ([60], [60]), ([63, 64, 63, 60], [60, 63, 64]), ([60, 65], [60, 65]), ([66, 65], [66]), ([67], [67]), ([67, 67], [67]), ([68, 69, 69, 67], [67, 68, 69]), ([67, 70], [67, 70]), ([71, 70], [71]), ([72], [72]), ([72], [72]), ([73, 74, 72, 72], [72, 73, 74]), ([75, 72], [72, 75]), ([72, 76], [72, 76]), ([77, 75, 0, 1, 2, 3, 4, 5, 6, 7, 8, 9, 10, 11, 12, 13, 14, 15, 16, 17, 18, 19, 20, 21, 22, 23, 24, 25, 26, 27, 28, 29, 30, 31, 32, 33, 34, 35, 36, 37, 38, 39, 40, 41, 42, 43, 44, 45, 46, 47, 48, 49, 50, 51, 52, 53, 54, 55, 56, 57, 58, 59, 60, 61, 62, 63, 64, 65, 66, 67, 68, 69, 70, 71, 72, 73, 74, 75, 76, 77], [77])])
def slotmeshlaw12_head.B5 : List Nat := [0, 1, 3, 7, 15, 31, 63, 127, 255, 511, 1023, 2047, 4095, 8191, 16383, 32767, 65535, 131071, 262143, 524287, 1048575, 2097151, 4194303, 8388607, 16777215, 33554431, 67108863, 134217727, 268435455, 536870911, 1073741823, 2147483647, 4294967295, 8589934591, 17179869183, 34359738367, 68719476735, 137438953471, 274877906943, 549755813887, 1099511627775, 2199023255551, 4398046511103, 8796093022207, 4398046511103, 35184372088831, 70368744177663, 140737488355327, 281474976710655, 562949953421311, 281474976710655, 2251799813685247, 4503599627370495, 9007199254740991, 18014398509481983, 18014398509481983, 72057594037927935, 18014398509481983, 288230376151711743, 576460752303423487, 1152921504606846975, 2305843009213693951, 2305843009213693951, 9223372036854775807, 2305843009213693951, 36893488147419103231, 73786976294838206463, 147573952589676412927, 295147905179352825855, 295147905179352825855, 1180591620717411303423, 2361183241434822606847, 4722366482869645213695, 9444732965739290427391, 9444732965739290427391, 37778931862957161709567, 75557863725914323419135, 151115727451828646838271, 302231454903657293676543]
theorem slotmeshlaw12_head.tab5 : rtab .any (opsOf Try.f10 5) = slotmeshlaw12_head.T5 := by kernel_rfl
theorem slotmeshlaw12_head.bits5 : waitsOk slotmeshlaw12_head.T5.2 slotmeshlaw12_head.B5 = true := by kernel_rfl
set_option maxHeartbeats 8000000 in
set_option maxRecDepth 100000 in
theorem slotmeshlaw12_head.calls  (r : Bool) (w : World) (h : slotmeshlaw12_head.f  = some r) :
  Calls Try.prog 10 #[] w fun e w' => e = .returned (.bool r) ∧ Below w.heap.size w w' := by
 have hu26 := Try.underlying26
 have hu32 := Try.underlying32
 have hu34 := Try.underlying34
 have hu51 := Try.underlying51
 have hu28 := Try.underlying28
 have HB := Aside0.mk (Below.refl w.heap.size w)
 have H : (some true) = some r := h
 clear h
 obtain ⟨t134, Nt134⟩ : ∃ t_ : Int, Aside0 (t_ = 3) := ⟨_, ⟨rfl⟩⟩
 obtain ⟨t135, Nt135⟩ : ∃ t_ : Int, Aside0 (t_ = 4) := ⟨_, ⟨rfl⟩⟩
 have A1 : Aside0 (slotmeshlaw12_layout.f = some (t134, t135)) := ⟨by (try simp only [Nt134.out, Nt135.out]); kernel_rfl⟩
 obtain ⟨t136, Nt136⟩ : ∃ t_ : Int, Aside0 (t_ = 2) := ⟨_, ⟨rfl⟩⟩
 obtain ⟨t137, Nt137⟩ : ∃ t_ : Int, Aside0 (t_ = 5) := ⟨_, ⟨rfl⟩⟩
 have A2 : Aside0 (slotmeshlaw12_cell.f 2 5 = some (t136, t137)) := ⟨by (try simp only [Nt136.out, Nt137.out]); kernel_rfl⟩
 obtain ⟨t138, Nt138⟩ : ∃ t_ : List (S32), Aside0 (t_ = [⟨⟨2, 5⟩, 0, 7⟩]) := ⟨_, ⟨rfl⟩⟩
 obtain ⟨t141, Nt141⟩ : ∃ t_ : List (S34), Aside0 (t_ = []) := ⟨_, ⟨rfl⟩⟩
 obtain ⟨t144, Nt144⟩ : ∃ t_ : List (S51), Aside0 (t_ = []) := ⟨_, ⟨rfl⟩⟩
 obtain ⟨t147, Nt147⟩ : ∃ t_ : Int, Aside0 (t_ = 0) := ⟨_, ⟨rfl⟩⟩
 have A3 : Aside0 (cells_AddUse.f ([] : List (S32)) ([] : List (S34)) ([] : List (S51)) t134 t135 t136 t137 0 7 = some (t138, t141, t144, t147)) := ⟨by (try simp only [Nt134.out, Nt135.out, Nt136.out, Nt137.out, Nt138.out, Nt141.out, Nt144.out, Nt147.out]); kernel_rfl⟩
 obtain ⟨t149, Nt149⟩ : ∃ t_ : Int, Aside0 (t_ = 3) := ⟨_, ⟨rfl⟩⟩
 obtain ⟨t150, Nt150⟩ : ∃ t_ : Int, Aside0 (t_ = 4) := ⟨_, ⟨rfl⟩⟩
 have A4 : Aside0 (slotmeshlaw12_layout.f = some (t149, t150)) := ⟨by (try simp only [Nt149.out, Nt150.out]); kernel_rfl⟩
 obtain ⟨t151, Nt151⟩ : ∃ t_ : Int, Aside0 (t_ = 2) := ⟨_, ⟨rfl⟩⟩
 obtain ⟨t152, Nt152⟩ : ∃ t_ : Int, Aside0 (t_ = 6) := ⟨_, ⟨rfl⟩⟩
 have A5 : Aside0 (slotmeshlaw12_cell.f 2 6 = some (t151, t152)) := ⟨by (try simp only [Nt151.out, Nt152.out]); kernel_rfl⟩
 obtain ⟨t153, Nt153⟩ : ∃ t_ : List (S32), Aside0 (t_ = []) := ⟨_, ⟨rfl⟩⟩
 obtain ⟨t156, Nt156⟩ : ∃ t_ : List (S34), Aside0 (t_ = []) := ⟨_, ⟨rfl⟩⟩
 obtain ⟨t159, Nt159⟩ : ∃ t_ : List (S51), Aside0 (t_ = []) := ⟨_, ⟨rfl⟩⟩
 obtain ⟨t162, Nt162⟩ : ∃ t_ : Int, Aside0 (t_ = 5) := ⟨_, ⟨rfl⟩⟩
 have A6 : Aside0 (cells_AddGrant.f t138 t141 t144 t149 t150 t151 t152 1 0 0 = some (t153, t156, t159, t162)) := ⟨by (try simp only [Nt138.out, Nt141.out, Nt144.out, Nt149.out, Nt150.out, Nt151.out, Nt152.out, Nt153.out, Nt156.out, Nt159.out, Nt162.out]); kernel_rfl⟩
 obtain ⟨t164, Nt164⟩ : ∃ t_ : Int, Aside0 (t_ = 3) := ⟨_, ⟨rfl⟩⟩
 obtain ⟨t165, Nt165⟩ : ∃ t_ : Int, Aside0 (t_ = 1) := ⟨_, ⟨rfl⟩⟩
 have A7 : Aside0 (slotmeshlaw12_cell.f 3 1 = some (t164, t165)) := ⟨by (try simp only [Nt164.out, Nt165.out]); kernel_rfl⟩
 obtain ⟨y166, hy166⟩ : ∃ y_ : List (S51), y_ = (([(⟨(⟨t164, t165⟩ : S30), 0⟩ : S51)] : List (S51))) := ⟨_, rfl⟩
 have Ny166 := Aside0.mk hy166
 clear hy166
 obtain ⟨t169, Nt169⟩ : ∃ t_ : Int, Aside0 (t_ = 3) := ⟨_, ⟨rfl⟩⟩
 obtain ⟨t170, Nt170⟩ : ∃ t_ : Int, Aside0 (t_ = 4) := ⟨_, ⟨rfl⟩⟩
 have A8 : Aside0 (slotmeshlaw12_layout.f = some (t169, t170)) := ⟨by (try simp only [Nt169.out, Nt170.out]); kernel_rfl⟩
 obtain ⟨t171, Nt171⟩ : ∃ t_ : Int, Aside0 (t_ = 3) := ⟨_, ⟨rfl⟩⟩
 obtain ⟨t172, Nt172⟩ : ∃ t_ : Int, Aside0 (t_ = 9) := ⟨_, ⟨rfl⟩⟩
 have A9 : Aside0 (slotmeshlaw12_cell.f 3 9 = some (t171, t172)) := ⟨by (try simp only [Nt171.out, Nt172.out]); kernel_rfl⟩
 obtain ⟨t173, Nt173⟩ : ∃ t_ : List (S32), Aside0 (t_ = []) := ⟨_, ⟨rfl⟩⟩
 obtain ⟨t176, Nt176⟩ : ∃ t_ : List (S34), Aside0 (t_ = [⟨⟨3, 9⟩, 2, 7, 15⟩]) := ⟨_, ⟨rfl⟩⟩
 obtain ⟨t179, Nt179⟩ : ∃ t_ : List (S51), Aside0 (t_ = []) := ⟨_, ⟨rfl⟩⟩
 obtain ⟨t182, Nt182⟩ : ∃ t_ : Int, Aside0 (t_ = 0) := ⟨_, ⟨rfl⟩⟩
 have A10 : Aside0 (cells_AddGrant.f ([] : List (S32)) ([] : List (S34)) y166 t169 t170 t171 t172 2 7 15 = some (t173, t176, t179, t182)) := ⟨by (try simp only [Nt164.out, Nt165.out, Ny166.out, Nt169.out, Nt170.out, Nt171.out, Nt172.out, Nt173.out, Nt176.out, Nt179.out, Nt182.out]); kernel_rfl⟩
 obtain ⟨t184, Nt184⟩ : ∃ t_ : Int, Aside0 (t_ = 3) := ⟨_, ⟨rfl⟩⟩
 obtain ⟨t185, Nt185⟩ : ∃ t_ : Int, Aside0 (t_ = 4) := ⟨_, ⟨rfl⟩⟩
 have A11 : Aside0 (slotmeshlaw12_layout.f = some (t184, t185)) := ⟨by (try simp only [Nt184.out, Nt185.out]); kernel_rfl⟩
 obtain ⟨t186, Nt186⟩ : ∃ t_ : Int, Aside0 (t_ = 4) := ⟨_, ⟨rfl⟩⟩
 obtain ⟨t187, Nt187⟩ : ∃ t_ : Int, Aside0 (t_ = 5) := ⟨_, ⟨rfl⟩⟩
 have A12 : Aside0 (slotmeshlaw12_cell.f 4 5 = some (t186, t187)) := ⟨by (try simp only [Nt186.out, Nt187.out]); kernel_rfl⟩
 obtain ⟨t188, Nt188⟩ : ∃ t_ : List (S32), Aside0 (t_ = []) := ⟨_, ⟨rfl⟩⟩
 obtain ⟨t191, Nt191⟩ : ∃ t_ : List (S34), Aside0 (t_ = []) := ⟨_, ⟨rfl⟩⟩
 obtain ⟨t194, Nt194⟩ : ∃ t_ : List (S51), Aside0 (t_ = []) := ⟨_, ⟨rfl⟩⟩
 obtain ⟨t197, Nt197⟩ : ∃ t_ : Int, Aside0 (t_ = 1) := ⟨_, ⟨rfl⟩⟩
 have A13 : Aside0 (cells_AddUse.f t138 t141 t144 t184 t185 t186 t187 0 0 = some (t188, t191, t194, t197)) := ⟨by (try simp only [Nt138.out, Nt141.out, Nt144.out, Nt184.out, Nt185.out, Nt186.out, Nt187.out, Nt188.out, Nt191.out, Nt194.out, Nt197.out]); kernel_rfl⟩
 have c14 : t147 = 0 := by (try simp only [Nt147.out]) <;> decide
 have c14b0 : (t147 == 0) = true := beq_iff_eq.mpr c14
 have c14b1 : (t147 != 0) = false := bne_eq_false_iff_eq.mpr c14
 clear c14
 have c15 : t162 = 5 := by (try simp only [Nt162.out]) <;> decide
 have c15b0 : (t162 == 5) = true := beq_iff_eq.mpr c15
 have c15b1 : (t162 != 5) = false := bne_eq_false_iff_eq.mpr c15
 clear c15
 have c16 : t182 = 0 := by (try simp only [Nt182.out]) <;> decide
 have c16b0 : (t182 == 0) = true := beq_iff_eq.mpr c16
 have c16b1 : (t182 != 0) = false := bne_eq_false_iff_eq.mpr c16
 clear c16
 have c17 : t197 = 1 := by (try simp only [Nt197.out]) <;> decide
 have c17b0 : (t197 == 1) = true := beq_iff_eq.mpr c17
 have c17b1 : (t197 != 1) = false := bne_eq_false_iff_eq.mpr c17
 clear c17
 have c18 : (t138.length : Int) = 1 := by (try simp only [Nt138.out]) <;> decide
 have c18b0 : ((t138.length : Int) == 1) = true := beq_iff_eq.mpr c18
 have c18b1 : ((t138.length : Int) != 1) = false := bne_eq_false_iff_eq.mpr c18
 clear c18
 have c19 : (t176.length : Int) = 1 := by (try simp only [Nt176.out]) <;> decide
 have c19b0 : ((t176.length : Int) == 1) = true := beq_iff_eq.mpr c19
 have c19b1 : ((t176.length : Int) != 1) = false := bne_eq_false_iff_eq.mpr c19
 clear c19
 have c20 : (t179.length : Int) = 0 := by (try simp only [Nt179.out]) <;> decide
 have c20b0 : ((t179.length : Int) == 0) = true := beq_iff_eq.mpr c20
 have c20b1 : ((t179.length : Int) != 0) = false := bne_eq_false_iff_eq.mpr c20
 clear c20
 obtain ⟨t199, Nt199⟩ : ∃ t_ : Bool, Aside0 (t_ = true) := ⟨_, ⟨rfl⟩⟩
 have A21 : Aside0 (cells_Busy.f t138 t141 t144 2 = some t199) := ⟨by (try simp only [Nt138.out, Nt141.out, Nt144.out, Nt199.out]); kernel_rfl⟩
 obtain rfl : t199 = true := by (try simp only [Nt199.out]) <;> decide
 obtain ⟨t200, Nt200⟩ : ∃ t_ : Bool, Aside0 (t_ = false) := ⟨_, ⟨rfl⟩⟩
 have A22 : Aside0 (cells_Busy.f t138 t141 t144 3 = some t200) := ⟨by (try simp only [Nt138.out, Nt141.out, Nt144.out, Nt200.out]); kernel_rfl⟩
 obtain rfl : t200 = false := by (try simp only [Nt200.out]) <;> decide
 obtain ⟨t201, Nt201⟩ : ∃ t_ : List (S32), Aside0 (t_ = []) := ⟨_, ⟨rfl⟩⟩
 obtain ⟨t204, Nt204⟩ : ∃ t_ : List (S34), Aside0 (t_ = [⟨⟨3, 9⟩, 2, 7, 15⟩]) := ⟨_, ⟨rfl⟩⟩
 obtain ⟨t207, Nt207⟩ : ∃ t_ : List (S51), Aside0 (t_ = []) := ⟨_, ⟨rfl⟩⟩
 have A23 : Aside0 (cells_Expire.f t173 t176 t179 15 = some (t201, t204, t207)) := ⟨by (try simp only [Nt173.out, Nt176.out, Nt179.out, Nt201.out, Nt204.out, Nt207.out]); kernel_rfl⟩
 obtain ⟨t210, Nt210⟩ : ∃ t_ : Bool, Aside0 (t_ = true) := ⟨_, ⟨rfl⟩⟩
 have A24 : Aside0 (slotmeshref12_Same.f 64 t201 t204 t207 t173 t176 t179 = some t210) := ⟨by (try simp only [Nt173.out, Nt176.out, Nt179.out, Nt201.out, Nt204.out, Nt207.out, Nt210.out]); kernel_rfl⟩
 obtain rfl : t210 = true := by (try simp only [Nt210.out]) <;> decide
 obtain ⟨t211, Nt211⟩ : ∃ t_ : List (S32), Aside0 (t_ = []) := ⟨_, ⟨rfl⟩⟩
 obtain ⟨t214, Nt214⟩ : ∃ t_ : List (S34), Aside0 (t_ = []) := ⟨_, ⟨rfl⟩⟩
 obtain ⟨t217, Nt217⟩ : ∃ t_ : List (S51), Aside0 (t_ = []) := ⟨_, ⟨rfl⟩⟩
 have A25 : Aside0 (cells_Expire.f t173 t176 t179 16 = some (t211, t214, t217)) := ⟨by (try simp only [Nt173.out, Nt176.out, Nt179.out, Nt211.out, Nt214.out, Nt217.out]); kernel_rfl⟩
 obtain ⟨t220, Nt220⟩ : ∃ t_ : Bool, Aside0 (t_ = true) := ⟨_, ⟨rfl⟩⟩
 have A26 : Aside0 (slotmeshref12_Same.f 64 t211 t214 t217 ([] : List (S32)) ([] : List (S34)) ([] : List (S51)) = some t220) := ⟨by (try simp only [Nt211.out, Nt214.out, Nt217.out, Nt220.out]); kernel_rfl⟩
 obtain rfl : t220 = true := by (try simp only [Nt220.out]) <;> decide
 obtain ⟨t221, Nt221⟩ : ∃ t_ : Int, Aside0 (t_ = 2) := ⟨_, ⟨rfl⟩⟩
 obtain ⟨t222, Nt222⟩ : ∃ t_ : Int, Aside0 (t_ = 5) := ⟨_, ⟨rfl⟩⟩
 have A27 : Aside0 (slotmeshlaw12_cell.f 2 5 = some (t221, t222)) := ⟨by (try simp only [Nt221.out, Nt222.out]); kernel_rfl⟩
 obtain ⟨t223, Nt223⟩ : ∃ t_ : List (S32), Aside0 (t_ = []) := ⟨_, ⟨rfl⟩⟩
 obtain ⟨t226, Nt226⟩ : ∃ t_ : List (S34), Aside0 (t_ = []) := ⟨_, ⟨rfl⟩⟩
 obtain ⟨t229, Nt229⟩ : ∃ t_ : List (S51), Aside0 (t_ = []) := ⟨_, ⟨rfl⟩⟩
 have A28 : Aside0 (cells_Drop.f t138 t141 t144 t221 t222 = some (t223, t226, t229)) := ⟨by (try simp only [Nt138.out, Nt141.out, Nt144.out, Nt221.out, Nt222.out, Nt223.out, Nt226.out, Nt229.out]); kernel_rfl⟩
 obtain ⟨t232, Nt232⟩ : ∃ t_ : Bool, Aside0 (t_ = true) := ⟨_, ⟨rfl⟩⟩
 have A29 : Aside0 (slotmeshref12_Same.f 64 t223 t226 t229 ([] : List (S32)) ([] : List (S34)) ([] : List (S51)) = some t232) := ⟨by (try simp only [Nt223.out, Nt226.out, Nt229.out, Nt232.out]); kernel_rfl⟩
 obtain rfl : t232 = true := by (try simp only [Nt232.out]) <;> decide
 obtain ⟨t233, Nt233⟩ : ∃ t_ : Int, Aside0 (t_ = 2) := ⟨_, ⟨rfl⟩⟩
 obtain ⟨t234, Nt234⟩ : ∃ t_ : Int, Aside0 (t_ = 6) := ⟨_, ⟨rfl⟩⟩
 have A30 : Aside0 (slotmeshlaw12_cell.f 2 6 = some (t233, t234)) := ⟨by (try simp only [Nt233.out, Nt234.out]); kernel_rfl⟩
 obtain ⟨t235, Nt235⟩ : ∃ t_ : List (S32), Aside0 (t_ = [⟨⟨2, 5⟩, 0, 7⟩]) := ⟨_, ⟨rfl⟩⟩
 obtain ⟨t238, Nt238⟩ : ∃ t_ : List (S34), Aside0 (t_ = []) := ⟨_, ⟨rfl⟩⟩
 obtain ⟨t241, Nt241⟩ : ∃ t_ : List (S51), Aside0 (t_ = []) := ⟨_, ⟨rfl⟩⟩
 have A31 : Aside0 (cells_Drop.f t138 t141 t144 t233 t234 = some (t235, t238, t241)) := ⟨by (try simp only [Nt138.out, Nt141.out, Nt144.out, Nt233.out, Nt234.out, Nt235.out, Nt238.out, Nt241.out]); kernel_rfl⟩
 obtain ⟨t244, Nt244⟩ : ∃ t_ : Bool, Aside0 (t_ = true) := ⟨_, ⟨rfl⟩⟩
 have A32 : Aside0 (slotmeshref12_Same.f 64 t235 t238 t241 t138 t141 t144 = some t244) := ⟨by (try simp only [Nt138.out, Nt141.out, Nt144.out, Nt235.out, Nt238.out, Nt241.out, Nt244.out]); kernel_rfl⟩
 obtain rfl : t244 = true := by (try simp only [Nt244.out]) <;> decide
 obtain ⟨t245, Nt245⟩ : ∃ t_ : Int, Aside0 (t_ = 3) := ⟨_, ⟨rfl⟩⟩
 obtain ⟨t246, Nt246⟩ : ∃ t_ : Int, Aside0 (t_ = 4) := ⟨_, ⟨rfl⟩⟩
 have A33 : Aside0 (slotmeshlaw12_layout.f = some (t245, t246)) := ⟨by (try simp only [Nt245.out, Nt246.out]); kernel_rfl⟩
 obtain ⟨t247, Nt247⟩ : ∃ t_ : Bool, Aside0 (t_ = true) := ⟨_, ⟨rfl⟩⟩
 have A34 : Aside0 (cells_Valid.f t173 t176 t179 t245 t246 = some t247) := ⟨by (try simp only [Nt173.out, Nt176.out, Nt179.out, Nt245.out, Nt246.out, Nt247.out]); kernel_rfl⟩
 obtain rfl : t247 = true := by (try simp only [Nt247.out]) <;> decide
 obtain ⟨t248, Nt248⟩ : ∃ t_ : Bool, Aside0 (t_ = false) := ⟨_, ⟨rfl⟩⟩
 have A35 : Aside0 (cells_Valid.f t173 t176 t179 2 4 = some t248) := ⟨by (try simp only [Nt173.out, Nt176.out, Nt179.out, Nt248.out]); kernel_rfl⟩
 obtain rfl := Option.some.inj H
 go_enter Try.func10, Try.ntmps10
 try go_wp2_with (first | ((with_reducible refine gate_callee (f := 27) rfl ?_); refine gC (some 11) Try.func27 #[] ?_; (with_reducible refine (slotmeshlaw12_layout.calls  t134 t135 _ A1.out).mono ?_); rintro e w36 ⟨rfl, hb⟩; refine ⟨_, rfl, ?_⟩; replace HB := tW HB hb; (try clear hb); (try clear hb2); (try clear hk); (try clear hi)) | ((with_reducible refine gate_callee (f := 28) rfl ?_); refine gC (some 12) Try.func28 #[.int .i64 2, .int .i64 5] ?_; (with_reducible refine (slotmeshlaw12_cell.calls 2 5 t136 t137 _ A2.out).mono ?_); rintro e w37 ⟨rfl, hb⟩; refine ⟨_, rfl, ?_⟩; replace HB := tW HB hb; (try clear hb); (try clear hb2); (try clear hk); (try clear hi)) | ((with_reducible refine gate_callee (f := 12) rfl ?_); refine gC (some 14) Try.func12 #[.agg #[.slice none 0 0, .slice none 0 0, .slice none 0 0], .agg #[.int .i64 t134, .int .i64 t135], .agg #[.int .i64 t136, .int .i64 t137, .int .i64 0, .int .i64 7]] ?_; (refine (cells_AddUse.calls _ _ ([] : List (S32)) _ _ ([] : List (S34)) _ _ ([] : List (S51)) t134 t135 t136 t137 0 7 t138 t141 t144 t147 _ ?side1 ?side2 ?side3 ?side4 ?side5 ?side6 A3.out).mono ?_); (case side1 => exact Kd.C_nil _ _); (case side2 => exact Nat.le_refl _); (case side3 => exact Kd.C_nil _ _); (case side4 => exact Nat.le_refl _); (case side5 => exact Kd.C_nil _ _); (case side6 => exact Nat.le_refl _); rintro e w38 ⟨v139, v142, v145, rfl, ho0, ho1, ho2, hb⟩; refine ⟨_, rfl, ?_⟩; have HO140 := Aside0.mk (Kd.R_lower ho0 (below_size (sW HB))); have HO143 := Aside0.mk (Kd.R_lower ho1 (below_size (sW HB))); have HO146 := Aside0.mk (Kd.R_lower ho2 (below_size (sW HB))); replace HB := tW HB hb; (try clear hb); (try clear hb2); (try clear hk); (try clear hi); (try clear ho0); (try clear ho1); (try clear ho2)) | ((with_reducible refine gate_dst (N := 1) rfl ?_); (try (refine gate_guard (by rfl) ?_; dsimp only)); refine bE (N := 1) (cs := #[.slice none 0 0, .slice none 0 0, .slice none 0 0]) (t := 26) ?_; intro gb148 hg w39 hbox hb; replace HO140 := tR HO140 hb; replace HO143 := tR HO143 hb; replace HO146 := tR HO146 hb; have BK148 := Aside0.mk (hbox); have GW148 := gW hg HB; have GE148 := GW148; replace HB := tW HB hb; clear hb hbox hg; obtain ⟨Ao40, co40, eo40⟩ := Kd.R_slice HO140.out; subst eo40; have hcz41_0 : w39.cell? ⟨gb148, 0, none⟩ = some (.slice none 0 0) := bt BK148 0; have hcz41_1 : w39.cell? ⟨gb148, 1, none⟩ = some (.slice none 0 0) := bt BK148 1; have hcz41_2 : w39.cell? ⟨gb148, 2, none⟩ = some (.slice none 0 0) := bt BK148 2; have hfz41_0 := blk_frozen BK148.out 0; have hfz41_1 := blk_frozen BK148.out 1; have hfz41_2 := blk_frozen BK148.out 2; obtain ⟨Ao42, co42, eo42⟩ := Kd.R_slice HO143.out; subst eo42; obtain ⟨Ao43, co43, eo43⟩ := Kd.R_slice HO146.out; subst eo43))
 have n0_ : Aside0 (Kd.R k32 32 (((w39.setCell ⟨gb148, 0, none⟩ (.slice Ao40 t138.length co40)).setCell ⟨gb148, 1, none⟩ (.slice Ao42 t141.length co42)).setCell ⟨gb148, 2, none⟩ (.slice Ao43 t144.length co43)) w.heap.size (fun _ => True) (.slice Ao40 t138.length co40) t138) := ⟨mR (by exact Kd.R_mono (Kd.R_far (p := ⟨gb148, 2, none⟩) (Kd.R_far (p := ⟨gb148, 1, none⟩) (Kd.R_far (p := ⟨gb148, 0, none⟩) (Kd.R_types HO140.out BK148.out (by decide)) (fun _ hk => hk.2) (.slice Ao40 t138.length co40)) (fun _ hk => hk.2) (.slice Ao42 t141.length co42)) (fun _ hk => hk.2) (.slice Ao43 t144.length co43)) (fun _ hk => trivial))⟩
 have n1_ : Aside0 (Kd.R k34 34 (((w39.setCell ⟨gb148, 0, none⟩ (.slice Ao40 t138.length co40)).setCell ⟨gb148, 1, none⟩ (.slice Ao42 t141.length co42)).setCell ⟨gb148, 2, none⟩ (.slice Ao43 t144.length co43)) w.heap.size (fun _ => True) (.slice Ao42 t141.length co42) t141) := ⟨mR (by exact Kd.R_mono (Kd.R_far (p := ⟨gb148, 2, none⟩) (Kd.R_far (p := ⟨gb148, 1, none⟩) (Kd.R_far (p := ⟨gb148, 0, none⟩) (Kd.R_types HO143.out BK148.out (by decide)) (fun _ hk => hk.2) (.slice Ao40 t138.length co40)) (fun _ hk => hk.2) (.slice Ao42 t141.length co42)) (fun _ hk => hk.2) (.slice Ao43 t144.length co43)) (fun _ hk => trivial))⟩
 have n2_ : Aside0 (Kd.R k51 51 (((w39.setCell ⟨gb148, 0, none⟩ (.slice Ao40 t138.length co40)).setCell ⟨gb148, 1, none⟩ (.slice Ao42 t141.length co42)).setCell ⟨gb148, 2, none⟩ (.slice Ao43 t144.length co43)) w.heap.size (fun _ => True) (.slice Ao43 t144.length co43) t144) := ⟨mR (by exact Kd.R_mono (Kd.R_far (p := ⟨gb148, 2, none⟩) (Kd.R_far (p := ⟨gb148, 1, none⟩) (Kd.R_far (p := ⟨gb148, 0, none⟩) (Kd.R_types HO146.out BK148.out (by decide)) (fun _ hk => hk.2) (.slice Ao40 t138.length co40)) (fun _ hk => hk.2) (.slice Ao42 t141.length co42)) (fun _ hk => hk.2) (.slice Ao43 t144.length co43)) (fun _ hk => trivial))⟩
 have n3_ : Aside0 ((((w39.setCell ⟨gb148, 0, none⟩ (.slice Ao40 t138.length co40)).setCell ⟨gb148, 1, none⟩ (.slice Ao42 t141.length co42)).setCell ⟨gb148, 2, none⟩ (.slice Ao43 t144.length co43)).heap[gb148]? = some (.cells #[.slice Ao40 t138.length co40, .slice Ao42 t141.length co42, .slice Ao43 t144.length co43] 26 (0, 0))) := ⟨by (with_reducible repeat (first | refine blk_drewN ?_ _ | refine blk_drew ?_ | refine blk_alloc ?_ _)); refine blk_put (cs := #[.slice Ao40 t138.length co40, .slice Ao42 t141.length co42, .slice none 0 0]) ?_ 2 _ rfl; (with_reducible repeat (first | refine blk_drewN ?_ _ | refine blk_drew ?_ | refine blk_alloc ?_ _)); refine blk_put (cs := #[.slice Ao40 t138.length co40, .slice none 0 0, .slice none 0 0]) ?_ 1 _ rfl; (with_reducible repeat (first | refine blk_drewN ?_ _ | refine blk_drew ?_ | refine blk_alloc ?_ _)); refine blk_put (cs := #[.slice none 0 0, .slice none 0 0, .slice none 0 0]) ?_ 0 _ rfl; (with_reducible repeat (first | refine blk_drewN ?_ _ | refine blk_drew ?_ | refine blk_alloc ?_ _)); exact BK148.out⟩
 have n4_ : Aside0 (Below w.heap.size w (((w39.setCell ⟨gb148, 0, none⟩ (.slice Ao40 t138.length co40)).setCell ⟨gb148, 1, none⟩ (.slice Ao42 t141.length co42)).setCell ⟨gb148, 2, none⟩ (.slice Ao43 t144.length co43))) := ⟨sW HB⟩
 (try clear HO140)
 (try clear HO143)
 (try clear HO146)
 (try clear BK148)
 (try clear HB)
 generalize (((w39.setCell ⟨gb148, 0, none⟩ (.slice Ao40 t138.length co40)).setCell ⟨gb148, 1, none⟩ (.slice Ao42 t141.length co42)).setCell ⟨gb148, 2, none⟩ (.slice Ao43 t144.length co43)) = w44 at n0_ n1_ n2_ n3_ n4_ ⊢
 have HO140 := n0_
 have HO143 := n1_
 have HO146 := n2_
 have BK148 := n3_
 have HB := n4_
 clear n0_ n1_ n2_ n3_ n4_
 replace HO140 := Aside0.mk (Kd.R_drew HO140.out)
 replace HO143 := Aside0.mk (Kd.R_drew HO143.out)
 replace HO146 := Aside0.mk (Kd.R_drew HO146.out)
 replace BK148 := Aside0.mk (blk_drew BK148.out)
 replace HB := Aside0.mk (below_drew1 HB.out)
 refine start_ (n := 11) (S := fun w' => w'.cell? ⟨gb148, 0, none⟩ = some (.slice Ao40 t138.length co40) ∧ w'.cell? ⟨gb148, 1, none⟩ = some (.slice Ao42 t141.length co42) ∧ w'.cell? ⟨gb148, 2, none⟩ = some (.slice Ao43 t144.length co43)) (ds := []) #[false, false, false, false, false, false, false, false, false, false, false] (by kernel_rfl) rfl rfl ⟨bt BK148 0, bt BK148 1, bt BK148 2⟩ (fun hHeld => ?_); refine with_tabW slotmeshlaw12_head.tab2 slotmeshlaw12_head.bits2 (fun HT_ HW_ => ?_)
 generalize w44.drew = w45 at HO140 HO143 HO146 BK148 HB hHeld ⊢
 refine run_ [(0, some 18)] ?_
 refine runT (v := ?_) (a' := ?_) rfl rfl (take_ofW HT_.out HW_.out (by kernel_rfl)) (fun _ _ _ h => h) (Or.inl ⟨by rfl, ?_⟩) hHeld ?_ ?_; rotate_left; (· rintro w' ⟨s0, s1, s2⟩; go_simp; with_reducible rfl); rotate_left; (· simp only [Act.put, List.setIfInBounds_toArray, List.set_cons_zero, List.set_cons_succ, i64_w, i32_w]; rfl)
 refine runE ?_
 refine join_ (σ := Value × Value × Value × Nat) 2 #[true, true, true, true, true, true, true, true, true, false, false] (fun s_ => [(19, .agg #[.int .i64 t149, .int .i64 t150]), (20, .agg #[.int .i64 t151, .int .i64 t152]), (22, .tuple #[.agg #[s_.1, s_.2.1, s_.2.2.1], .int .i64 t162]), (3, .pointer (some ⟨s_.2.2.2, 0, none⟩)), (21, .agg #[.int .i64 t151, .int .i64 t152, .int .i64 1, .int .i64 0, .int .i64 0]), (17, .tuple #[.agg #[s_.1, s_.2.1, s_.2.2.1], .int .i64 t162]), (23, .agg #[s_.1, s_.2.1, s_.2.2.1]), (24, .int .i64 t162)]) (fun s_ w' => (w'.cell? ⟨gb148, 0, none⟩ = some (.slice Ao40 t138.length co40) ∧ w'.cell? ⟨gb148, 1, none⟩ = some (.slice Ao42 t141.length co42) ∧ w'.cell? ⟨gb148, 2, none⟩ = some (.slice Ao43 t144.length co43)) ∧ (Kd.R k32 32 w' w.heap.size (fun k_ => some k_ ≠ (s_.1 : Value).ownBlock) (.slice Ao40 t138.length co40) t138) ∧ (Kd.R k34 34 w' w.heap.size (fun k_ => some k_ ≠ (s_.2.1 : Value).ownBlock) (.slice Ao42 t141.length co42) t141) ∧ (Kd.R k51 51 w' w.heap.size (fun k_ => some k_ ≠ (s_.2.2.1 : Value).ownBlock) (.slice Ao43 t144.length co43) t144) ∧ (Kd.R k32 32 w' w.heap.size (fun k_ => some k_ ≠ (.slice Ao40 t138.length co40 : Value).ownBlock) s_.1 t153) ∧ (Kd.R k34 34 w' w.heap.size (fun k_ => some k_ ≠ (.slice Ao42 t141.length co42 : Value).ownBlock) s_.2.1 t156) ∧ (Kd.R k51 51 w' w.heap.size (fun k_ => some k_ ≠ (.slice Ao43 t144.length co43 : Value).ownBlock) s_.2.2.1 t159) ∧ (w'.heap[gb148]? = some (.cells #[.slice Ao40 t138.length co40, .slice Ao42 t141.length co42, .slice Ao43 t144.length co43] 26 (0, 0))) ∧ (w'.heap[s_.2.2.2]? = some (.cells #[.slice none 0 0, .slice none 0 0, .slice none 0 0] 26 (0, 0))) ∧ (w.heap.size ≤ s_.2.2.2) ∧ (w.heap.size ≤ s_.2.2.2) ∧ (gb148 ≠ s_.2.2.2) ∧ (s_.2.2.2 ≠ gb148) ∧ (Below w.heap.size w w')) ?_ ?_
 rotate_left
 ·intro hCont
  refine two_ (i := 1) (j := 8) (Ni := some 19) (Nj := some 3) #[true, true, false, false, false, false, false, false, false, false, false] #[true, false, false, false, false, false, false, false, true, false, false] rfl rfl rfl rfl (two_of HT_.out (by kernel_rfl)) (by decide) (by decide) (fun K hK => ?_) (fun K hK => ?_)
  ·skip
   refine gO Try.func27 #[] ?_
   with_reducible refine (slotmeshlaw12_layout.calls  t149 t150 _ A4.out).mono ?_
   rintro e w46 ⟨rfl, hb⟩
   refine ⟨_, rfl, ?_⟩
   replace HO140 := tR HO140 hb
   replace HO143 := tR HO143 hb
   replace HO146 := tR HO146 hb
   replace BK148 := tB BK148 hb
   replace HB := tW HB hb
   (try clear hb)
   (try clear hb2)
   (try clear hk)
   (try clear hi)
   refine hK.out _ _ ⟨bt BK148 0, bt BK148 1, bt BK148 2⟩ (fun hHeld => ?_)
   clear hK K
   refine norm_ (a' := ?_) ?_ ?_
   rotate_left
   ·show Act.put _ (some 19) _ = _
    simp only [Act.put, List.setIfInBounds_toArray, List.set_cons_zero, List.set_cons_succ, i64_w, i32_w]
    rfl
   refine two_ (i := 2) (j := 8) (Ni := some 20) (Nj := some 3) #[true, true, true, false, false, false, false, false, false, false, false] #[true, true, false, false, false, false, false, false, true, false, false] rfl rfl rfl rfl (two_of HT_.out (by kernel_rfl)) (by decide) (by decide) (fun K hK => ?_) (fun K hK => ?_)
   ·skip
    refine gO Try.func28 #[.int .i64 2, .int .i64 6] ?_
    with_reducible refine (slotmeshlaw12_cell.calls 2 6 t151 t152 _ A5.out).mono ?_
    rintro e w47 ⟨rfl, hb⟩
    refine ⟨_, rfl, ?_⟩
    replace HO140 := tR HO140 hb
    replace HO143 := tR HO143 hb
    replace HO146 := tR HO146 hb
    replace BK148 := tB BK148 hb
    replace HB := tW HB hb
    (try clear hb)
    (try clear hb2)
    (try clear hk)
    (try clear hi)
    refine hK.out _ _ ⟨bt BK148 0, bt BK148 1, bt BK148 2⟩ (fun hHeld => ?_)
    clear hK K
    refine norm_ (a' := ?_) ?_ ?_
    rotate_left
    ·show Act.put _ (some 20) _ = _
     simp only [Act.put, List.setIfInBounds_toArray, List.set_cons_zero, List.set_cons_succ, i64_w, i32_w]
     rfl
    refine run_ [(3, some 21)] ?_
    refine runP (v := ?_) (a' := ?_) rfl rfl (any_of HT_.out (by kernel_rfl)) (fun _ _ _ h => h) (Or.inl ⟨by rfl, ?_⟩) ?_ ?_; rotate_left; (· intro w'; go_simp; with_reducible rfl); rotate_left; (· simp only [Act.put, List.setIfInBounds_toArray, List.set_cons_zero, List.set_cons_succ, i64_w, i32_w]; rfl)
    refine runE ?_
    refine two_ (i := 4) (j := 8) (Ni := some 22) (Nj := some 3) #[true, true, true, true, true, false, false, false, false, false, false] #[true, true, true, true, false, false, false, false, true, false, false] rfl rfl rfl rfl (two_of HT_.out (by kernel_rfl)) (by decide) (by decide) (fun K hK => ?_) (fun K hK => ?_)
    ·skip
     refine gO Try.func14 #[.agg #[.slice Ao40 t138.length co40, .slice Ao42 t141.length co42, .slice Ao43 t144.length co43], .agg #[.int .i64 t149, .int .i64 t150], .agg #[.int .i64 t151, .int .i64 t152, .int .i64 1, .int .i64 0, .int .i64 0]] ?_
     with_reducible refine (cells_AddGrant.calls _ _ t138 _ _ t141 _ _ t144 t149 t150 t151 t152 1 0 0 t153 t156 t159 t162 _ ?side1 ?side2 ?side3 ?side4 ?side5 ?side6 A6.out).mono ?_
     (case side1 => exact sC (Kd.R_reads' HO140.out).2.2)
     (case side2 => exact (Kd.R_reads' HO140.out).2.1)
     (case side3 => exact sC (Kd.R_reads' HO143.out).2.2)
     (case side4 => exact (Kd.R_reads' HO143.out).2.1)
     (case side5 => exact sC (Kd.R_reads' HO146.out).2.2)
     (case side6 => exact (Kd.R_reads' HO146.out).2.1)
     rintro e w48 ⟨v154, v157, v160, rfl, ho0, ho1, ho2, hb⟩
     refine ⟨_, rfl, ?_⟩
     have HO155 := nR ho0 HO140 HB
     replace HO140 := eR HO140 ho0 hb
     have HO158 := nR ho1 HO143 HB
     replace HO143 := eR HO143 ho1 hb
     have HO161 := nR ho2 HO146 HB
     replace HO146 := eR HO146 ho2 hb
     replace BK148 := tB BK148 hb
     replace HB := tW HB hb
     (try clear hb)
     (try clear hb2)
     (try clear hk)
     (try clear hi)
     (try clear ho0)
     (try clear ho1)
     (try clear ho2)
     refine hK.out _ _ ⟨bt BK148 0, bt BK148 1, bt BK148 2⟩ (fun hHeld => ?_)
     clear hK K
     refine norm_ (a' := ?_) ?_ ?_
     rotate_left
     ·show Act.put _ (some 22) _ = _
      simp only [Act.put, List.setIfInBounds_toArray, List.set_cons_zero, List.set_cons_succ, i64_w, i32_w]
      rfl
     refine run_ [(5, some 17), (6, some 23), (7, some 24)] ?_
     iterate 3 (refine runP (v := ?_) (a' := ?_) rfl rfl (any_of HT_.out (by kernel_rfl)) (fun _ _ _ h => h) (Or.inl ⟨by rfl, ?_⟩) ?_ ?_; rotate_left; (· intro w'; go_simp; with_reducible rfl); rotate_left; (· simp only [Act.put, List.setIfInBounds_toArray, List.set_cons_zero, List.set_cons_succ, i64_w, i32_w]; rfl))
     refine runE ?_
     refine one_ (i := 8) (N := some 3) #[true, true, true, true, true, true, true, true, true, false, false] rfl rfl (one_of HT_.out (by kernel_rfl)) (by decide) (fun K hK => ?_)
     refine bS (N := 3) (cs := #[.slice none 0 0, .slice none 0 0, .slice none 0 0]) (t := 26) ?_
     intro gb163 hg w49 hbox hb
     replace HO140 := tR HO140 hb
     replace HO143 := tR HO143 hb
     replace HO146 := tR HO146 hb
     replace HO155 := tR HO155 hb
     replace HO158 := tR HO158 hb
     replace HO161 := tR HO161 hb
     have BK163 := Aside0.mk (hbox)
     have GW163 := gW hg HB
     have GE163 := GW163
     replace HB := tW HB hb
     have NB148_163 := gL hg BK148
     have NB163_148 := gG hg BK148
     replace BK148 := tB BK148 hb
     clear hb hbox hg
     refine hK.out _ _ ⟨bt BK148 0, bt BK148 1, bt BK148 2⟩ (fun hHeld => ?_)
     clear hK K
     refine norm_ (a' := ?_) ?_ ?_
     rotate_left
     ·show Act.put _ (some 3) _ = _
      simp only [Act.put, List.setIfInBounds_toArray, List.set_cons_zero, List.set_cons_succ, i64_w, i32_w]
      rfl
     exact norm_ (by simp only [putAll, Act.put, List.setIfInBounds_toArray, List.set_cons_zero, List.set_cons_succ]) (hCont (v154, v157, v160, gb163) _ ⟨hHeld, (mR (by exact Kd.R_mono HO140.out (fun _ hk => hk.2))), (mR (by exact Kd.R_mono HO143.out (fun _ hk => hk.2))), (mR (by exact Kd.R_mono HO146.out (fun _ hk => hk.2))), (mR (by exact Kd.R_mono HO155.out (fun _ hk => hk.2))), (mR (by exact Kd.R_mono HO158.out (fun _ hk => hk.2))), (mR (by exact Kd.R_mono HO161.out (fun _ hk => hk.2))), (sB BK148), (sB BK163), GW163.out, GE163.out, NB148_163.out, NB163_148.out, (sW HB)⟩)
    skip
    refine bS (N := 3) (cs := #[.slice none 0 0, .slice none 0 0, .slice none 0 0]) (t := 26) ?_
    intro gb163 hg w48 hbox hb
    replace HO140 := tR HO140 hb
    replace HO143 := tR HO143 hb
    replace HO146 := tR HO146 hb
    have BK163 := Aside0.mk (hbox)
    have GW163 := gW hg HB
    have GE163 := GW163
    replace HB := tW HB hb
    have NB148_163 := gL hg BK148
    have NB163_148 := gG hg BK148
    replace BK148 := tB BK148 hb
    clear hb hbox hg
    refine hK.out _ _ ⟨bt BK148 0, bt BK148 1, bt BK148 2⟩ (fun hHeld => ?_)
    clear hK K
    refine norm_ (a' := ?_) ?_ ?_
    rotate_left
    ·show Act.put _ (some 3) _ = _
     simp only [Act.put, List.setIfInBounds_toArray, List.set_cons_zero, List.set_cons_succ, i64_w, i32_w]
     rfl
    refine one_ (i := 4) (N := some 22) #[true, true, true, true, true, false, false, false, true, false, false] rfl rfl (one_of HT_.out (by kernel_rfl)) (by decide) (fun K hK => ?_)
    refine gO Try.func14 #[.agg #[.slice Ao40 t138.length co40, .slice Ao42 t141.length co42, .slice Ao43 t144.length co43], .agg #[.int .i64 t149, .int .i64 t150], .agg #[.int .i64 t151, .int .i64 t152, .int .i64 1, .int .i64 0, .int .i64 0]] ?_
    with_reducible refine (cells_AddGrant.calls _ _ t138 _ _ t141 _ _ t144 t149 t150 t151 t152 1 0 0 t153 t156 t159 t162 _ ?side1 ?side2 ?side3 ?side4 ?side5 ?side6 A6.out).mono ?_
    (case side1 => exact sC (Kd.R_reads' HO140.out).2.2)
    (case side2 => exact (Kd.R_reads' HO140.out).2.1)
    (case side3 => exact sC (Kd.R_reads' HO143.out).2.2)
    (case side4 => exact (Kd.R_reads' HO143.out).2.1)
    (case side5 => exact sC (Kd.R_reads' HO146.out).2.2)
    (case side6 => exact (Kd.R_reads' HO146.out).2.1)
    rintro e w49 ⟨v154, v157, v160, rfl, ho0, ho1, ho2, hb⟩
    refine ⟨_, rfl, ?_⟩
    have HO155 := nR ho0 HO140 HB
    replace HO140 := eR HO140 ho0 hb
    have HO158 := nR ho1 HO143 HB
    replace HO143 := eR HO143 ho1 hb
    have HO161 := nR ho2 HO146 HB
    replace HO146 := eR HO146 ho2 hb
    replace BK148 := tB BK148 hb
    replace BK163 := tB BK163 hb
    replace HB := tW HB hb
    (try clear hb)
    (try clear hb2)
    (try clear hk)
    (try clear hi)
    (try clear ho0)
    (try clear ho1)
    (try clear ho2)
    refine hK.out _ _ ⟨bt BK148 0, bt BK148 1, bt BK148 2⟩ (fun hHeld => ?_)
    clear hK K
    refine norm_ (a' := ?_) ?_ ?_
    rotate_left
    ·show Act.put _ (some 22) _ = _
     simp only [Act.put, List.setIfInBounds_toArray, List.set_cons_zero, List.set_cons_succ, i64_w, i32_w]
     rfl
    refine run_ [(5, some 17), (6, some 23), (7, some 24)] ?_
    iterate 3 (refine runP (v := ?_) (a' := ?_) rfl rfl (any_of HT_.out (by kernel_rfl)) (fun _ _ _ h => h) (Or.inl ⟨by rfl, ?_⟩) ?_ ?_; rotate_left; (· intro w'; go_simp; with_reducible rfl); rotate_left; (· simp only [Act.put, List.setIfInBounds_toArray, List.set_cons_zero, List.set_cons_succ, i64_w, i32_w]; rfl))
    refine runE ?_
    exact norm_ (by simp only [putAll, Act.put, List.setIfInBounds_toArray, List.set_cons_zero, List.set_cons_succ]) (hCont (v154, v157, v160, gb163) _ ⟨hHeld, (mR (by exact Kd.R_mono HO140.out (fun _ hk => hk.2))), (mR (by exact Kd.R_mono HO143.out (fun _ hk => hk.2))), (mR (by exact Kd.R_mono HO146.out (fun _ hk => hk.2))), (mR (by exact Kd.R_mono HO155.out (fun _ hk => hk.2))), (mR (by exact Kd.R_mono HO158.out (fun _ hk => hk.2))), (mR (by exact Kd.R_mono HO161.out (fun _ hk => hk.2))), (sB BK148), (sB BK163), GW163.out, GE163.out, NB148_163.out, NB163_148.out, (sW HB)⟩)
   skip
   refine bS (N := 3) (cs := #[.slice none 0 0, .slice none 0 0, .slice none 0 0]) (t := 26) ?_
   intro gb163 hg w47 hbox hb
   replace HO140 := tR HO140 hb
   replace HO143 := tR HO143 hb
   replace HO146 := tR HO146 hb
   have BK163 := Aside0.mk (hbox)
   have GW163 := gW hg HB
   have GE163 := GW163
   replace HB := tW HB hb
   have NB148_163 := gL hg BK148
   have NB163_148 := gG hg BK148
   replace BK148 := tB BK148 hb
   clear hb hbox hg
   refine hK.out _ _ ⟨bt BK148 0, bt BK148 1, bt BK148 2⟩ (fun hHeld => ?_)
   clear hK K
   refine norm_ (a' := ?_) ?_ ?_
   rotate_left
   ·show Act.put _ (some 3) _ = _
    simp only [Act.put, List.setIfInBounds_toArray, List.set_cons_zero, List.set_cons_succ, i64_w, i32_w]
    rfl
   refine one_ (i := 2) (N := some 20) #[true, true, true, false, false, false, false, false, true, false, false] rfl rfl (one_of HT_.out (by kernel_rfl)) (by decide) (fun K hK => ?_)
   refine gO Try.func28 #[.int .i64 2, .int .i64 6] ?_
   with_reducible refine (slotmeshlaw12_cell.calls 2 6 t151 t152 _ A5.out).mono ?_
   rintro e w48 ⟨rfl, hb⟩
   refine ⟨_, rfl, ?_⟩
   replace HO140 := tR HO140 hb
   replace HO143 := tR HO143 hb
   replace HO146 := tR HO146 hb
   replace BK148 := tB BK148 hb
   replace BK163 := tB BK163 hb
   replace HB := tW HB hb
   (try clear hb)
   (try clear hb2)
   (try clear hk)
   (try clear hi)
   refine hK.out _ _ ⟨bt BK148 0, bt BK148 1, bt BK148 2⟩ (fun hHeld => ?_)
   clear hK K
   refine norm_ (a' := ?_) ?_ ?_
   rotate_left
   ·show Act.put _ (some 20) _ = _
    simp only [Act.put, List.setIfInBounds_toArray, List.set_cons_zero, List.set_cons_succ, i64_w, i32_w]
    rfl
   refine run_ [(3, some 21)] ?_
   refine runP (v := ?_) (a' := ?_) rfl rfl (any_of HT_.out (by kernel_rfl)) (fun _ _ _ h => h) (Or.inl ⟨by rfl, ?_⟩) ?_ ?_; rotate_left; (· intro w'; go_simp; with_reducible rfl); rotate_left; (· simp only [Act.put, List.setIfInBounds_toArray, List.set_cons_zero, List.set_cons_succ, i64_w, i32_w]; rfl)
   refine runE ?_
   refine one_ (i := 4) (N := some 22) #[true, true, true, true, true, false, false, false, true, false, false] rfl rfl (one_of HT_.out (by kernel_rfl)) (by decide) (fun K hK => ?_)
   refine gO Try.func14 #[.agg #[.slice Ao40 t138.length co40, .slice Ao42 t141.length co42, .slice Ao43 t144.length co43], .agg #[.int .i64 t149, .int .i64 t150], .agg #[.int .i64 t151, .int .i64 t152, .int .i64 1, .int .i64 0, .int .i64 0]] ?_
   with_reducible refine (cells_AddGrant.calls _ _ t138 _ _ t141 _ _ t144 t149 t150 t151 t152 1 0 0 t153 t156 t159 t162 _ ?side1 ?side2 ?side3 ?side4 ?side5 ?side6 A6.out).mono ?_
   (case side1 => exact sC (Kd.R_reads' HO140.out).2.2)
   (case side2 => exact (Kd.R_reads' HO140.out).2.1)
   (case side3 => exact sC (Kd.R_reads' HO143.out).2.2)
   (case side4 => exact (Kd.R_reads' HO143.out).2.1)
   (case side5 => exact sC (Kd.R_reads' HO146.out).2.2)
   (case side6 => exact (Kd.R_reads' HO146.out).2.1)
   rintro e w49 ⟨v154, v157, v160, rfl, ho0, ho1, ho2, hb⟩
   refine ⟨_, rfl, ?_⟩
   have HO155 := nR ho0 HO140 HB
   replace HO140 := eR HO140 ho0 hb
   have HO158 := nR ho1 HO143 HB
   replace HO143 := eR HO143 ho1 hb
   have HO161 := nR ho2 HO146 HB
   replace HO146 := eR HO146 ho2 hb
   replace BK148 := tB BK148 hb
   replace BK163 := tB BK163 hb
   replace HB := tW HB hb
   (try clear hb)
   (try clear hb2)
   (try clear hk)
   (try clear hi)
   (try clear ho0)
   (try clear ho1)
   (try clear ho2)
   refine hK.out _ _ ⟨bt BK148 0, bt BK148 1, bt BK148 2⟩ (fun hHeld => ?_)
   clear hK K
   refine norm_ (a' := ?_) ?_ ?_
   rotate_left
   ·show Act.put _ (some 22) _ = _
    simp only [Act.put, List.setIfInBounds_toArray, List.set_cons_zero, List.set_cons_succ, i64_w, i32_w]
    rfl
   refine run_ [(5, some 17), (6, some 23), (7, some 24)] ?_
   iterate 3 (refine runP (v := ?_) (a' := ?_) rfl rfl (any_of HT_.out (by kernel_rfl)) (fun _ _ _ h => h) (Or.inl ⟨by rfl, ?_⟩) ?_ ?_; rotate_left; (· intro w'; go_simp; with_reducible rfl); rotate_left; (· simp only [Act.put, List.setIfInBounds_toArray, List.set_cons_zero, List.set_cons_succ, i64_w, i32_w]; rfl))
   refine runE ?_
   exact norm_ (by simp only [putAll, Act.put, List.setIfInBounds_toArray, List.set_cons_zero, List.set_cons_succ]) (hCont (v154, v157, v160, gb163) _ ⟨hHeld, (mR (by exact Kd.R_mono HO140.out (fun _ hk => hk.2))), (mR (by exact Kd.R_mono HO143.out (fun _ hk => hk.2))), (mR (by exact Kd.R_mono HO146.out (fun _ hk => hk.2))), (mR (by exact Kd.R_mono HO155.out (fun _ hk => hk.2))), (mR (by exact Kd.R_mono HO158.out (fun _ hk => hk.2))), (mR (by exact Kd.R_mono HO161.out (fun _ hk => hk.2))), (sB BK148), (sB BK163), GW163.out, GE163.out, NB148_163.out, NB163_148.out, (sW HB)⟩)
  skip
  refine bS (N := 3) (cs := #[.slice none 0 0, .slice none 0 0, .slice none 0 0]) (t := 26) ?_
  intro gb163 hg w46 hbox hb
  replace HO140 := tR HO140 hb
  replace HO143 := tR HO143 hb
  replace HO146 := tR HO146 hb
  have BK163 := Aside0.mk (hbox)
  have GW163 := gW hg HB
  have GE163 := GW163
  replace HB := tW HB hb
  have NB148_163 := gL hg BK148
  have NB163_148 := gG hg BK148
  replace BK148 := tB BK148 hb
  clear hb hbox hg
  refine hK.out _ _ ⟨bt BK148 0, bt BK148 1, bt BK148 2⟩ (fun hHeld => ?_)
  clear hK K
  refine norm_ (a' := ?_) ?_ ?_
  rotate_left
  ·show Act.put _ (some 3) _ = _
   simp only [Act.put, List.setIfInBounds_toArray, List.set_cons_zero, List.set_cons_succ, i64_w, i32_w]
   rfl
  refine one_ (i := 1) (N := some 19) #[true, true, false, false, false, false, false, false, true, false, false] rfl rfl (one_of HT_.out (by kernel_rfl)) (by decide) (fun K hK => ?_)
  refine gO Try.func27 #[] ?_
  with_reducible refine (slotmeshlaw12_layout.calls  t149 t150 _ A4.out).mono ?_
  rintro e w47 ⟨rfl, hb⟩
  refine ⟨_, rfl, ?_⟩
  replace HO140 := tR HO140 hb
  replace HO143 := tR HO143 hb
  replace HO146 := tR HO146 hb
  replace BK148 := tB BK148 hb
  replace BK163 := tB BK163 hb
  replace HB := tW HB hb
  (try clear hb)
  (try clear hb2)
  (try clear hk)
  (try clear hi)
  refine hK.out _ _ ⟨bt BK148 0, bt BK148 1, bt BK148 2⟩ (fun hHeld => ?_)
  clear hK K
  refine norm_ (a' := ?_) ?_ ?_
  rotate_left
  ·show Act.put _ (some 19) _ = _
   simp only [Act.put, List.setIfInBounds_toArray, List.set_cons_zero, List.set_cons_succ, i64_w, i32_w]
   rfl
  refine one_ (i := 2) (N := some 20) #[true, true, true, false, false, false, false, false, true, false, false] rfl rfl (one_of HT_.out (by kernel_rfl)) (by decide) (fun K hK => ?_)
  refine gO Try.func28 #[.int .i64 2, .int .i64 6] ?_
  with_reducible refine (slotmeshlaw12_cell.calls 2 6 t151 t152 _ A5.out).mono ?_
  rintro e w48 ⟨rfl, hb⟩
  refine ⟨_, rfl, ?_⟩
  replace HO140 := tR HO140 hb
  replace HO143 := tR HO143 hb
  replace HO146 := tR HO146 hb
  replace BK148 := tB BK148 hb
  replace BK163 := tB BK163 hb
  replace HB := tW HB hb
  (try clear hb)
  (try clear hb2)
  (try clear hk)
  (try clear hi)
  refine hK.out _ _ ⟨bt BK148 0, bt BK148 1, bt BK148 2⟩ (fun hHeld => ?_)
  clear hK K
  refine norm_ (a' := ?_) ?_ ?_
  rotate_left
  ·show Act.put _ (some 20) _ = _
   simp only [Act.put, List.setIfInBounds_toArray, List.set_cons_zero, List.set_cons_succ, i64_w, i32_w]
   rfl
  refine run_ [(3, some 21)] ?_
  refine runP (v := ?_) (a' := ?_) rfl rfl (any_of HT_.out (by kernel_rfl)) (fun _ _ _ h => h) (Or.inl ⟨by rfl, ?_⟩) ?_ ?_; rotate_left; (· intro w'; go_simp; with_reducible rfl); rotate_left; (· simp only [Act.put, List.setIfInBounds_toArray, List.set_cons_zero, List.set_cons_succ, i64_w, i32_w]; rfl)
  refine runE ?_
  refine one_ (i := 4) (N := some 22) #[true, true, true, true, true, false, false, false, true, false, false] rfl rfl (one_of HT_.out (by kernel_rfl)) (by decide) (fun K hK => ?_)
  refine gO Try.func14 #[.agg #[.slice Ao40 t138.length co40, .slice Ao42 t141.length co42, .slice Ao43 t144.length co43], .agg #[.int .i64 t149, .int .i64 t150], .agg #[.int .i64 t151, .int .i64 t152, .int .i64 1, .int .i64 0, .int .i64 0]] ?_
  with_reducible refine (cells_AddGrant.calls _ _ t138 _ _ t141 _ _ t144 t149 t150 t151 t152 1 0 0 t153 t156 t159 t162 _ ?side1 ?side2 ?side3 ?side4 ?side5 ?side6 A6.out).mono ?_
  (case side1 => exact sC (Kd.R_reads' HO140.out).2.2)
  (case side2 => exact (Kd.R_reads' HO140.out).2.1)
  (case side3 => exact sC (Kd.R_reads' HO143.out).2.2)
  (case side4 => exact (Kd.R_reads' HO143.out).2.1)
  (case side5 => exact sC (Kd.R_reads' HO146.out).2.2)
  (case side6 => exact (Kd.R_reads' HO146.out).2.1)
  rintro e w49 ⟨v154, v157, v160, rfl, ho0, ho1, ho2, hb⟩
  refine ⟨_, rfl, ?_⟩
  have HO155 := nR ho0 HO140 HB
  replace HO140 := eR HO140 ho0 hb
  have HO158 := nR ho1 HO143 HB
  replace HO143 := eR HO143 ho1 hb
  have HO161 := nR ho2 HO146 HB
  replace HO146 := eR HO146 ho2 hb
  replace BK148 := tB BK148 hb
  replace BK163 := tB BK163 hb
  replace HB := tW HB hb
  (try clear hb)
  (try clear hb2)
  (try clear hk)
  (try clear hi)
  (try clear ho0)
  (try clear ho1)
  (try clear ho2)
  refine hK.out _ _ ⟨bt BK148 0, bt BK148 1, bt BK148 2⟩ (fun hHeld => ?_)
  clear hK K
  refine norm_ (a' := ?_) ?_ ?_
  rotate_left
  ·show Act.put _ (some 22) _ = _
   simp only [Act.put, List.setIfInBounds_toArray, List.set_cons_zero, List.set_cons_succ, i64_w, i32_w]
   rfl
  refine run_ [(5, some 17), (6, some 23), (7, some 24)] ?_
  iterate 3 (refine runP (v := ?_) (a' := ?_) rfl rfl (any_of HT_.out (by kernel_rfl)) (fun _ _ _ h => h) (Or.inl ⟨by rfl, ?_⟩) ?_ ?_; rotate_left; (· intro w'; go_simp; with_reducible rfl); rotate_left; (· simp only [Act.put, List.setIfInBounds_toArray, List.set_cons_zero, List.set_cons_succ, i64_w, i32_w]; rfl))
  refine runE ?_
  exact norm_ (by simp only [putAll, Act.put, List.setIfInBounds_toArray, List.set_cons_zero, List.set_cons_succ]) (hCont (v154, v157, v160, gb163) _ ⟨hHeld, (mR (by exact Kd.R_mono HO140.out (fun _ hk => hk.2))), (mR (by exact Kd.R_mono HO143.out (fun _ hk => hk.2))), (mR (by exact Kd.R_mono HO146.out (fun _ hk => hk.2))), (mR (by exact Kd.R_mono HO155.out (fun _ hk => hk.2))), (mR (by exact Kd.R_mono HO158.out (fun _ hk => hk.2))), (mR (by exact Kd.R_mono HO161.out (fun _ hk => hk.2))), (sB BK148), (sB BK163), GW163.out, GE163.out, NB148_163.out, NB163_148.out, (sW HB)⟩)
 rintro ⟨v154, v157, v160, gb163⟩ w50 ⟨hS_, h0_, h1_, h2_, h3_, h4_, h5_, h6_, h7_, h8_, h9_, h10_, h11_, h12_⟩
 have n0_ : Aside0 (Kd.R k32 32 w50 w.heap.size (fun k_ => some k_ ≠ (v154 : Value).ownBlock) (.slice Ao40 t138.length co40) t138) := ⟨h0_⟩
 have n1_ : Aside0 (Kd.R k34 34 w50 w.heap.size (fun k_ => some k_ ≠ (v157 : Value).ownBlock) (.slice Ao42 t141.length co42) t141) := ⟨h1_⟩
 have n2_ : Aside0 (Kd.R k51 51 w50 w.heap.size (fun k_ => some k_ ≠ (v160 : Value).ownBlock) (.slice Ao43 t144.length co43) t144) := ⟨h2_⟩
 have n3_ : Aside0 (Kd.R k32 32 w50 w.heap.size (fun k_ => some k_ ≠ (.slice Ao40 t138.length co40 : Value).ownBlock) v154 t153) := ⟨h3_⟩
 have n4_ : Aside0 (Kd.R k34 34 w50 w.heap.size (fun k_ => some k_ ≠ (.slice Ao42 t141.length co42 : Value).ownBlock) v157 t156) := ⟨h4_⟩
 have n5_ : Aside0 (Kd.R k51 51 w50 w.heap.size (fun k_ => some k_ ≠ (.slice Ao43 t144.length co43 : Value).ownBlock) v160 t159) := ⟨h5_⟩
 have n6_ : Aside0 (w50.heap[gb148]? = some (.cells #[.slice Ao40 t138.length co40, .slice Ao42 t141.length co42, .slice Ao43 t144.length co43] 26 (0, 0))) := ⟨h6_⟩
 have n7_ : Aside0 (w50.heap[gb163]? = some (.cells #[.slice none 0 0, .slice none 0 0, .slice none 0 0] 26 (0, 0))) := ⟨h7_⟩
 have n8_ : Aside0 (w.heap.size ≤ gb163) := ⟨h8_⟩
 have n9_ : Aside0 (w.heap.size ≤ gb163) := ⟨h9_⟩
 have n10_ : Aside0 (gb148 ≠ gb163) := ⟨h10_⟩
 have n11_ : Aside0 (gb163 ≠ gb148) := ⟨h11_⟩
 have n12_ : Aside0 (Below w.heap.size w w50) := ⟨h12_⟩
 clear HO140
 clear HO143
 clear HO146
 clear BK148
 clear HB
 clear h0_ h1_ h2_ h3_ h4_ h5_ h6_ h7_ h8_ h9_ h10_ h11_ h12_
 have HO140 := n0_
 have HO143 := n1_
 have HO146 := n2_
 have HO155 := n3_
 have HO158 := n4_
 have HO161 := n5_
 have BK148 := n6_
 have BK163 := n7_
 have GW163 := n8_
 have GE163 := n9_
 have NB148_163 := n10_
 have NB163_148 := n11_
 have HB := n12_
 clear n0_ n1_ n2_ n3_ n4_ n5_ n6_ n7_ n8_ n9_ n10_ n11_ n12_
 have hHeld : w50.cell? ⟨gb148, 0, none⟩ = some (.slice Ao40 t138.length co40) ∧ w50.cell? ⟨gb148, 1, none⟩ = some (.slice Ao42 t141.length co42) ∧ w50.cell? ⟨gb148, 2, none⟩ = some (.slice Ao43 t144.length co43) := hS_
 obtain ⟨Ao51, co51, eo51⟩ := Kd.R_slice HO155.out
 (first | subst eo51 | (injection eo51 with f1_ f2_ f3_; have f4_ := f1_.symm; have f5_ := f3_.symm; clear f1_ f2_ f3_; subst f4_; subst f5_))
 obtain ⟨Ao53, co53, eo53⟩ := Kd.R_slice HO158.out
 (first | subst eo53 | (injection eo53 with f1_ f2_ f3_; have f4_ := f1_.symm; have f5_ := f3_.symm; clear f1_ f2_ f3_; subst f4_; subst f5_))
 obtain ⟨Ao55, co55, eo55⟩ := Kd.R_slice HO161.out
 (first | subst eo55 | (injection eo55 with f1_ f2_ f3_; have f4_ := f1_.symm; have f5_ := f3_.symm; clear f1_ f2_ f3_; subst f4_; subst f5_))
 refine norm_ (a' := ?_) ?_ ?_
 rotate_left
 ·simp only [putAll, Act.put, List.setIfInBounds_toArray, List.set_cons_zero, List.set_cons_succ]
  rfl
 refine one_ (i := 9) (N := none) #[true, true, true, true, true, true, true, true, true, true, false] rfl rfl (one_of HT_.out (by kernel_rfl)) (by decide) (fun K hK => ?_)
 have hs52 : w50.cell? ⟨gb163, 0, none⟩ = some (.slice none 0 0) := bt BK163 0
 have hfs52 := blk_frozen BK163.out 0
 have hns52_0 := NB148_163.out
 have hms52_0 := NB163_148.out
 have hs54 : w50.cell? ⟨gb163, 1, none⟩ = some (.slice none 0 0) := bt BK163 1
 have hfs54 := blk_frozen BK163.out 1
 have hns54_0 := NB148_163.out
 have hms54_0 := NB163_148.out
 have hs56 : w50.cell? ⟨gb163, 2, none⟩ = some (.slice none 0 0) := bt BK163 2
 have hfs56 := blk_frozen BK163.out 2
 have hns56_0 := NB148_163.out
 have hms56_0 := NB163_148.out
 refine skip_ (w1 := ?_) (by rfl) rfl ?_ ?_
 rotate_left
 ·go_simp
  rfl
 refine hK.out _ _ ⟨((cell_far (p := ⟨gb163, _, none⟩) NB148_163.out _).trans (((cell_far (p := ⟨gb163, _, none⟩) NB148_163.out _).trans (((cell_far (p := ⟨gb163, _, none⟩) NB148_163.out _).trans (hHeld.1)))))), ((cell_far (p := ⟨gb163, _, none⟩) NB148_163.out _).trans (((cell_far (p := ⟨gb163, _, none⟩) NB148_163.out _).trans (((cell_far (p := ⟨gb163, _, none⟩) NB148_163.out _).trans (hHeld.2.1)))))), ((cell_far (p := ⟨gb163, _, none⟩) NB148_163.out _).trans (((cell_far (p := ⟨gb163, _, none⟩) NB148_163.out _).trans (((cell_far (p := ⟨gb163, _, none⟩) NB148_163.out _).trans (hHeld.2.2))))))⟩ (fun hHeld => ?_)
 clear hK K
 refine run_ [(10, some 4)] ?_
 refine runP (v := ?_) (a' := ?_) rfl rfl (any_of HT_.out (by kernel_rfl)) (fun _ _ _ h => h) (Or.inl ⟨by rfl, ?_⟩) ?_ ?_; rotate_left; (· intro w'; go_simp; with_reducible rfl); rotate_left; (· simp only [Act.put, List.setIfInBounds_toArray, List.set_cons_zero, List.set_cons_succ, i64_w, i32_w]; rfl)
 refine runE ?_
 refine done_ (done_of HT_.out (by kernel_rfl)) ?_
 try go_wp2_with (first | ((with_reducible refine gate_callee (f := 28) rfl ?_); refine gC (some 26) Try.func28 #[.int .i64 3, .int .i64 1] ?_; (with_reducible refine (slotmeshlaw12_cell.calls 3 1 t164 t165 _ A7.out).mono ?_); rintro e w57 ⟨rfl, hb⟩; refine ⟨_, rfl, ?_⟩; replace HO140 := Aside0.mk (Kd.R_below (mR (by exact (Kd.R_mono (Kd.R_far (p := ⟨gb163, 2, none⟩) (Kd.R_far (p := ⟨gb163, 1, none⟩) (Kd.R_far (p := ⟨gb163, 0, none⟩) (Kd.R_types HO140.out BK163.out (by decide)) (fun _ hk => hk.2) (.slice Ao51 t153.length co51)) (fun _ hk => hk.2) (.slice Ao53 t156.length co53)) (fun _ hk => hk.2) (.slice Ao55 t159.length co55)) (fun _ h_ => h_.1)))) hb); replace HO143 := Aside0.mk (Kd.R_below (mR (by exact (Kd.R_mono (Kd.R_far (p := ⟨gb163, 2, none⟩) (Kd.R_far (p := ⟨gb163, 1, none⟩) (Kd.R_far (p := ⟨gb163, 0, none⟩) (Kd.R_types HO143.out BK163.out (by decide)) (fun _ hk => hk.2) (.slice Ao51 t153.length co51)) (fun _ hk => hk.2) (.slice Ao53 t156.length co53)) (fun _ hk => hk.2) (.slice Ao55 t159.length co55)) (fun _ h_ => h_.1)))) hb); replace HO146 := Aside0.mk (Kd.R_below (mR (by exact (Kd.R_mono (Kd.R_far (p := ⟨gb163, 2, none⟩) (Kd.R_far (p := ⟨gb163, 1, none⟩) (Kd.R_far (p := ⟨gb163, 0, none⟩) (Kd.R_types HO146.out BK163.out (by decide)) (fun _ hk => hk.2) (.slice Ao51 t153.length co51)) (fun _ hk => hk.2) (.slice Ao53 t156.length co53)) (fun _ hk => hk.2) (.slice Ao55 t159.length co55)) (fun _ h_ => h_.1)))) hb); replace HO155 := Aside0.mk (Kd.R_below (mR (by exact (Kd.R_mono (Kd.R_far (p := ⟨gb163, 2, none⟩) (Kd.R_far (p := ⟨gb163, 1, none⟩) (Kd.R_far (p := ⟨gb163, 0, none⟩) (Kd.R_types HO155.out BK163.out (by decide)) (fun _ hk => hk.2) (.slice Ao51 t153.length co51)) (fun _ hk => hk.2) (.slice Ao53 t156.length co53)) (fun _ hk => hk.2) (.slice Ao55 t159.length co55)) (fun _ h_ => h_.1)))) hb); replace HO158 := Aside0.mk (Kd.R_below (mR (by exact (Kd.R_mono (Kd.R_far (p := ⟨gb163, 2, none⟩) (Kd.R_far (p := ⟨gb163, 1, none⟩) (Kd.R_far (p := ⟨gb163, 0, none⟩) (Kd.R_types HO158.out BK163.out (by decide)) (fun _ hk => hk.2) (.slice Ao51 t153.length co51)) (fun _ hk => hk.2) (.slice Ao53 t156.length co53)) (fun _ hk => hk.2) (.slice Ao55 t159.length co55)) (fun _ h_ => h_.1)))) hb); replace HO161 := Aside0.mk (Kd.R_below (mR (by exact (Kd.R_mono (Kd.R_far (p := ⟨gb163, 2, none⟩) (Kd.R_far (p := ⟨gb163, 1, none⟩) (Kd.R_far (p := ⟨gb163, 0, none⟩) (Kd.R_types HO161.out BK163.out (by decide)) (fun _ hk => hk.2) (.slice Ao51 t153.length co51)) (fun _ hk => hk.2) (.slice Ao53 t156.length co53)) (fun _ hk => hk.2) (.slice Ao55 t159.length co55)) (fun _ h_ => h_.1)))) hb); replace BK148 := tB BK148 hb; replace BK163 := Aside0.mk (blk_below (g := gb163) (o := .cells #[.slice Ao51 t153.length co51, .slice Ao53 t156.length co53, .slice Ao55 t159.length co55] 26 (0, 0)) (by (with_reducible repeat (first | refine blk_drewN ?_ _ | refine blk_drew ?_ | refine blk_alloc ?_ _)); refine blk_put (cs := #[.slice Ao51 t153.length co51, .slice Ao53 t156.length co53, .slice none 0 0]) ?_ 2 _ rfl; (with_reducible repeat (first | refine blk_drewN ?_ _ | refine blk_drew ?_ | refine blk_alloc ?_ _)); refine blk_put (cs := #[.slice Ao51 t153.length co51, .slice none 0 0, .slice none 0 0]) ?_ 1 _ rfl; (with_reducible repeat (first | refine blk_drewN ?_ _ | refine blk_drew ?_ | refine blk_alloc ?_ _)); refine blk_put (cs := #[.slice none 0 0, .slice none 0 0, .slice none 0 0]) ?_ 0 _ rfl; (with_reducible repeat (first | refine blk_drewN ?_ _ | refine blk_drew ?_ | refine blk_alloc ?_ _)); exact BK163.out) hb); replace HB := tW HB hb; (try clear hb); (try clear hb2); (try clear hk); (try clear hi)) | ((with_reducible refine gate_dst (N := 28) rfl ?_); (try (refine gate_guard (by rfl) ?_; dsimp only)); refine Kd.R_lit k51 _ 51 ?hg (N := 28) ?hd (xs := ([(⟨(⟨t164, t165⟩ : S30), 0⟩ : S51)] : List (S51))) (inner := [.int .i64 t164, .int .i64 t165, .int .i64 0]) (ok := fun _ => True) (okp := fun _ => True) ?hr ?hp (fun _ hk => hk) trivial (Below.refl _ _) (Nat.le_refl _) (by simp) ?_; (case hd => rfl); (case hg => rfl); (case hr => first | (go_simp; done) | (go_simp; rfl)); (case hp => exact (Reps.c3 (show Kd.M k51 _ _ _ (⟨(⟨t164, t165⟩ : S30), 0⟩ : S51) [.int .i64 t164, .int .i64 t165, .int .i64 0] from (k51_mkM _ _ _ (⟨(⟨t164, t165⟩ : S30), 0⟩ : S51) )) (Reps.none _ _))); intro v167 w58 ho59 hb hg_ hnew_; clear hg_ hnew_; (first | rw [← Ny166.out] at ho59 | (simp only [Int.reduceToNat] at ho59; rw [← Ny166.out] at ho59)); replace HO140 := tR HO140 hb; replace HO143 := tR HO143 hb; replace HO155 := tR HO155 hb; replace HO158 := tR HO158 hb; have HO168 := Aside0.mk (Kd.R_lower (Kd.R_new' (Kd.R_new' ho59 (Kd.R_lt (sR HO146))) (Kd.R_lt (sR HO161))) (below_size (sW HB))); replace HO146 := eR HO146 ho59 hb; replace HO161 := eR HO161 ho59 hb; replace BK148 := tB BK148 hb; replace BK163 := tB BK163 hb; replace HB := tW HB hb; clear hb ho59; obtain ⟨Ao60, co60, eo60⟩ := Kd.R_slice HO168.out; subst eo60) | ((with_reducible refine gate_callee (f := 27) rfl ?_); refine gC (some 30) Try.func27 #[] ?_; (with_reducible refine (slotmeshlaw12_layout.calls  t169 t170 _ A8.out).mono ?_); rintro e w61 ⟨rfl, hb⟩; refine ⟨_, rfl, ?_⟩; replace HO140 := tR HO140 hb; replace HO143 := tR HO143 hb; replace HO146 := tR HO146 hb; replace HO155 := tR HO155 hb; replace HO158 := tR HO158 hb; replace HO161 := tR HO161 hb; replace HO168 := tR HO168 hb; replace BK148 := tB BK148 hb; replace BK163 := tB BK163 hb; replace HB := tW HB hb; (try clear hb); (try clear hb2); (try clear hk); (try clear hi)) | ((with_reducible refine gate_callee (f := 28) rfl ?_); refine gC (some 31) Try.func28 #[.int .i64 3, .int .i64 9] ?_; (with_reducible refine (slotmeshlaw12_cell.calls 3 9 t171 t172 _ A9.out).mono ?_); rintro e w62 ⟨rfl, hb⟩; refine ⟨_, rfl, ?_⟩; replace HO140 := tR HO140 hb; replace HO143 := tR HO143 hb; replace HO146 := tR HO146 hb; replace HO155 := tR HO155 hb; replace HO158 := tR HO158 hb; replace HO161 := tR HO161 hb; replace HO168 := tR HO168 hb; replace BK148 := tB BK148 hb; replace BK163 := tB BK163 hb; replace HB := tW HB hb; (try clear hb); (try clear hb2); (try clear hk); (try clear hi)) | ((with_reducible refine gate_callee (f := 14) rfl ?_); refine gC (some 33) Try.func14 #[.agg #[.slice none 0 0, .slice none 0 0, .slice Ao60 y166.length co60], .agg #[.int .i64 t169, .int .i64 t170], .agg #[.int .i64 t171, .int .i64 t172, .int .i64 2, .int .i64 7, .int .i64 15]] ?_; (refine (cells_AddGrant.calls _ _ ([] : List (S32)) _ _ ([] : List (S34)) _ _ y166 t169 t170 t171 t172 2 7 15 t173 t176 t179 t182 _ ?side1 ?side2 ?side3 ?side4 ?side5 ?side6 A10.out).mono ?_); (case side1 => exact Kd.C_nil _ _); (case side2 => exact Nat.le_refl _); (case side3 => exact Kd.C_nil _ _); (case side4 => exact Nat.le_refl _); (case side5 => exact sC (Kd.R_reads' HO168.out).2.2); (case side6 => exact (Kd.R_reads' HO168.out).2.1); rintro e w63 ⟨v174, v177, v180, rfl, ho0, ho1, ho2, hb⟩; refine ⟨_, rfl, ?_⟩; have HO175 := Aside0.mk (Kd.R_lower (Kd.R_new' (Kd.R_new' ho0 (Kd.R_lt (sR HO140))) (Kd.R_lt (sR HO155))) (below_size (sW HB))); replace HO140 := eR HO140 ho0 hb; replace HO155 := eR HO155 ho0 hb; have HO178 := Aside0.mk (Kd.R_lower (Kd.R_new' (Kd.R_new' ho1 (Kd.R_lt (sR HO143))) (Kd.R_lt (sR HO158))) (below_size (sW HB))); replace HO143 := eR HO143 ho1 hb; replace HO158 := eR HO158 ho1 hb; have HO181 := Aside0.mk (Kd.R_lower (Kd.R_new' (Kd.R_new' (Kd.R_new' ho2 (Kd.R_lt (sR HO146))) (Kd.R_lt (sR HO161))) (Kd.R_lt (sR HO168))) (below_size (sW HB))); replace HO146 := eR HO146 ho2 hb; replace HO161 := eR HO161 ho2 hb; replace HO168 := eR HO168 ho2 hb; replace BK148 := tB BK148 hb; replace BK163 := tB BK163 hb; replace HB := tW HB hb; (try clear hb); (try clear hb2); (try clear hk); (try clear hi); (try clear ho0); (try clear ho1); (try clear ho2)) | ((with_reducible refine gate_dst (N := 5) rfl ?_); (try (refine gate_guard (by rfl) ?_; dsimp only)); refine bE (N := 5) (cs := #[.slice none 0 0, .slice none 0 0, .slice none 0 0]) (t := 26) ?_; intro gb183 hg w64 hbox hb; replace HO140 := tR HO140 hb; replace HO143 := tR HO143 hb; replace HO146 := tR HO146 hb; replace HO155 := tR HO155 hb; replace HO158 := tR HO158 hb; replace HO161 := tR HO161 hb; replace HO168 := tR HO168 hb; replace HO175 := tR HO175 hb; replace HO178 := tR HO178 hb; replace HO181 := tR HO181 hb; have BK183 := Aside0.mk (hbox); have GW183 := gW hg HB; have GE183 := GW183; replace HB := tW HB hb; have NB148_183 := gL hg BK148; have NB183_148 := gG hg BK148; replace BK148 := tB BK148 hb; have NB163_183 := gL hg BK163; have NB183_163 := gG hg BK163; replace BK163 := tB BK163 hb; clear hb hbox hg; obtain ⟨Ao65, co65, eo65⟩ := Kd.R_slice HO175.out; subst eo65; have hnb66 := NB183_148.out; have hnc66 := NB148_183.out; have hnb67 := NB183_163.out; have hnc67 := NB163_183.out; have hcz68_0 : w64.cell? ⟨gb183, 0, none⟩ = some (.slice none 0 0) := bt BK183 0; have hcz68_1 : w64.cell? ⟨gb183, 1, none⟩ = some (.slice none 0 0) := bt BK183 1; have hcz68_2 : w64.cell? ⟨gb183, 2, none⟩ = some (.slice none 0 0) := bt BK183 2; have hfz68_0 := blk_frozen BK183.out 0; have hfz68_1 := blk_frozen BK183.out 1; have hfz68_2 := blk_frozen BK183.out 2; obtain ⟨Ao69, co69, eo69⟩ := Kd.R_slice HO178.out; subst eo69; obtain ⟨Ao70, co70, eo70⟩ := Kd.R_slice HO181.out; subst eo70))
 have n0_ : Aside0 (Kd.R k32 32 (((w64.setCell ⟨gb183, 0, none⟩ (.slice Ao65 t173.length co65)).setCell ⟨gb183, 1, none⟩ (.slice Ao69 t176.length co69)).setCell ⟨gb183, 2, none⟩ (.slice Ao70 t179.length co70)) w.heap.size (fun k_ => some k_ ≠ (.slice Ao51 t153.length co51 : Value).ownBlock ∧ some k_ ≠ (.slice Ao65 t173.length co65 : Value).ownBlock) (.slice Ao40 t138.length co40) t138) := ⟨mR (by exact Kd.R_mono (Kd.R_far (p := ⟨gb183, 2, none⟩) (Kd.R_far (p := ⟨gb183, 1, none⟩) (Kd.R_far (p := ⟨gb183, 0, none⟩) (Kd.R_types HO140.out BK183.out (by decide)) (fun _ hk => hk.2) (.slice Ao65 t173.length co65)) (fun _ hk => hk.2) (.slice Ao69 t176.length co69)) (fun _ hk => hk.2) (.slice Ao70 t179.length co70)) (fun _ hk => ⟨hk.1.1, hk.1.2⟩))⟩
 have n1_ : Aside0 (Kd.R k34 34 (((w64.setCell ⟨gb183, 0, none⟩ (.slice Ao65 t173.length co65)).setCell ⟨gb183, 1, none⟩ (.slice Ao69 t176.length co69)).setCell ⟨gb183, 2, none⟩ (.slice Ao70 t179.length co70)) w.heap.size (fun k_ => some k_ ≠ (.slice Ao53 t156.length co53 : Value).ownBlock ∧ some k_ ≠ (.slice Ao69 t176.length co69 : Value).ownBlock) (.slice Ao42 t141.length co42) t141) := ⟨mR (by exact Kd.R_mono (Kd.R_far (p := ⟨gb183, 2, none⟩) (Kd.R_far (p := ⟨gb183, 1, none⟩) (Kd.R_far (p := ⟨gb183, 0, none⟩) (Kd.R_types HO143.out BK183.out (by decide)) (fun _ hk => hk.2) (.slice Ao65 t173.length co65)) (fun _ hk => hk.2) (.slice Ao69 t176.length co69)) (fun _ hk => hk.2) (.slice Ao70 t179.length co70)) (fun _ hk => ⟨hk.1.1, hk.1.2⟩))⟩
 have n2_ : Aside0 (Kd.R k51 51 (((w64.setCell ⟨gb183, 0, none⟩ (.slice Ao65 t173.length co65)).setCell ⟨gb183, 1, none⟩ (.slice Ao69 t176.length co69)).setCell ⟨gb183, 2, none⟩ (.slice Ao70 t179.length co70)) w.heap.size (fun k_ => some k_ ≠ (.slice Ao55 t159.length co55 : Value).ownBlock ∧ some k_ ≠ (.slice Ao60 y166.length co60 : Value).ownBlock ∧ some k_ ≠ (.slice Ao70 t179.length co70 : Value).ownBlock) (.slice Ao43 t144.length co43) t144) := ⟨mR (by exact Kd.R_mono (Kd.R_far (p := ⟨gb183, 2, none⟩) (Kd.R_far (p := ⟨gb183, 1, none⟩) (Kd.R_far (p := ⟨gb183, 0, none⟩) (Kd.R_types HO146.out BK183.out (by decide)) (fun _ hk => hk.2) (.slice Ao65 t173.length co65)) (fun _ hk => hk.2) (.slice Ao69 t176.length co69)) (fun _ hk => hk.2) (.slice Ao70 t179.length co70)) (fun _ hk => ⟨hk.1.1.1, ⟨hk.1.1.2, hk.1.2⟩⟩))⟩
 have n3_ : Aside0 (Kd.R k32 32 (((w64.setCell ⟨gb183, 0, none⟩ (.slice Ao65 t173.length co65)).setCell ⟨gb183, 1, none⟩ (.slice Ao69 t176.length co69)).setCell ⟨gb183, 2, none⟩ (.slice Ao70 t179.length co70)) w.heap.size (fun k_ => some k_ ≠ (.slice Ao40 t138.length co40 : Value).ownBlock ∧ some k_ ≠ (.slice Ao65 t173.length co65 : Value).ownBlock) (.slice Ao51 t153.length co51) t153) := ⟨mR (by exact Kd.R_mono (Kd.R_far (p := ⟨gb183, 2, none⟩) (Kd.R_far (p := ⟨gb183, 1, none⟩) (Kd.R_far (p := ⟨gb183, 0, none⟩) (Kd.R_types HO155.out BK183.out (by decide)) (fun _ hk => hk.2) (.slice Ao65 t173.length co65)) (fun _ hk => hk.2) (.slice Ao69 t176.length co69)) (fun _ hk => hk.2) (.slice Ao70 t179.length co70)) (fun _ hk => ⟨hk.1.1, hk.1.2⟩))⟩
 have n4_ : Aside0 (Kd.R k34 34 (((w64.setCell ⟨gb183, 0, none⟩ (.slice Ao65 t173.length co65)).setCell ⟨gb183, 1, none⟩ (.slice Ao69 t176.length co69)).setCell ⟨gb183, 2, none⟩ (.slice Ao70 t179.length co70)) w.heap.size (fun k_ => some k_ ≠ (.slice Ao42 t141.length co42 : Value).ownBlock ∧ some k_ ≠ (.slice Ao69 t176.length co69 : Value).ownBlock) (.slice Ao53 t156.length co53) t156) := ⟨mR (by exact Kd.R_mono (Kd.R_far (p := ⟨gb183, 2, none⟩) (Kd.R_far (p := ⟨gb183, 1, none⟩) (Kd.R_far (p := ⟨gb183, 0, none⟩) (Kd.R_types HO158.out BK183.out (by decide)) (fun _ hk => hk.2) (.slice Ao65 t173.length co65)) (fun _ hk => hk.2) (.slice Ao69 t176.length co69)) (fun _ hk => hk.2) (.slice Ao70 t179.length co70)) (fun _ hk => ⟨hk.1.1, hk.1.2⟩))⟩
 have n5_ : Aside0 (Kd.R k51 51 (((w64.setCell ⟨gb183, 0, none⟩ (.slice Ao65 t173.length co65)).setCell ⟨gb183, 1, none⟩ (.slice Ao69 t176.length co69)).setCell ⟨gb183, 2, none⟩ (.slice Ao70 t179.length co70)) w.heap.size (fun k_ => some k_ ≠ (.slice Ao43 t144.length co43 : Value).ownBlock ∧ some k_ ≠ (.slice Ao60 y166.length co60 : Value).ownBlock ∧ some k_ ≠ (.slice Ao70 t179.length co70 : Value).ownBlock) (.slice Ao55 t159.length co55) t159) := ⟨mR (by exact Kd.R_mono (Kd.R_far (p := ⟨gb183, 2, none⟩) (Kd.R_far (p := ⟨gb183, 1, none⟩) (Kd.R_far (p := ⟨gb183, 0, none⟩) (Kd.R_types HO161.out BK183.out (by decide)) (fun _ hk => hk.2) (.slice Ao65 t173.length co65)) (fun _ hk => hk.2) (.slice Ao69 t176.length co69)) (fun _ hk => hk.2) (.slice Ao70 t179.length co70)) (fun _ hk => ⟨hk.1.1.1, ⟨hk.1.1.2, hk.1.2⟩⟩))⟩
 have n6_ : Aside0 (Kd.R k51 51 (((w64.setCell ⟨gb183, 0, none⟩ (.slice Ao65 t173.length co65)).setCell ⟨gb183, 1, none⟩ (.slice Ao69 t176.length co69)).setCell ⟨gb183, 2, none⟩ (.slice Ao70 t179.length co70)) w.heap.size (fun k_ => some k_ ≠ (.slice Ao43 t144.length co43 : Value).ownBlock ∧ some k_ ≠ (.slice Ao55 t159.length co55 : Value).ownBlock ∧ some k_ ≠ (.slice Ao70 t179.length co70 : Value).ownBlock) (.slice Ao60 y166.length co60) y166) := ⟨mR (by exact Kd.R_mono (Kd.R_far (p := ⟨gb183, 2, none⟩) (Kd.R_far (p := ⟨gb183, 1, none⟩) (Kd.R_far (p := ⟨gb183, 0, none⟩) (Kd.R_types HO168.out BK183.out (by decide)) (fun _ hk => hk.2) (.slice Ao65 t173.length co65)) (fun _ hk => hk.2) (.slice Ao69 t176.length co69)) (fun _ hk => hk.2) (.slice Ao70 t179.length co70)) (fun _ hk => ⟨hk.1.1.1.2, ⟨hk.1.1.2, hk.1.2⟩⟩))⟩
 have n7_ : Aside0 (Kd.R k32 32 (((w64.setCell ⟨gb183, 0, none⟩ (.slice Ao65 t173.length co65)).setCell ⟨gb183, 1, none⟩ (.slice Ao69 t176.length co69)).setCell ⟨gb183, 2, none⟩ (.slice Ao70 t179.length co70)) w.heap.size (fun k_ => some k_ ≠ (.slice Ao40 t138.length co40 : Value).ownBlock ∧ some k_ ≠ (.slice Ao51 t153.length co51 : Value).ownBlock) (.slice Ao65 t173.length co65) t173) := ⟨mR (by exact Kd.R_mono (Kd.R_far (p := ⟨gb183, 2, none⟩) (Kd.R_far (p := ⟨gb183, 1, none⟩) (Kd.R_far (p := ⟨gb183, 0, none⟩) (Kd.R_types HO175.out BK183.out (by decide)) (fun _ hk => hk.2) (.slice Ao65 t173.length co65)) (fun _ hk => hk.2) (.slice Ao69 t176.length co69)) (fun _ hk => hk.2) (.slice Ao70 t179.length co70)) (fun _ hk => ⟨hk.1.1.2, hk.1.2⟩))⟩
 have n8_ : Aside0 (Kd.R k34 34 (((w64.setCell ⟨gb183, 0, none⟩ (.slice Ao65 t173.length co65)).setCell ⟨gb183, 1, none⟩ (.slice Ao69 t176.length co69)).setCell ⟨gb183, 2, none⟩ (.slice Ao70 t179.length co70)) w.heap.size (fun k_ => some k_ ≠ (.slice Ao42 t141.length co42 : Value).ownBlock ∧ some k_ ≠ (.slice Ao53 t156.length co53 : Value).ownBlock) (.slice Ao69 t176.length co69) t176) := ⟨mR (by exact Kd.R_mono (Kd.R_far (p := ⟨gb183, 2, none⟩) (Kd.R_far (p := ⟨gb183, 1, none⟩) (Kd.R_far (p := ⟨gb183, 0, none⟩) (Kd.R_types HO178.out BK183.out (by decide)) (fun _ hk => hk.2) (.slice Ao65 t173.length co65)) (fun _ hk => hk.2) (.slice Ao69 t176.length co69)) (fun _ hk => hk.2) (.slice Ao70 t179.length co70)) (fun _ hk => ⟨hk.1.1.2, hk.1.2⟩))⟩
 have n9_ : Aside0 (Kd.R k51 51 (((w64.setCell ⟨gb183, 0, none⟩ (.slice Ao65 t173.length co65)).setCell ⟨gb183, 1, none⟩ (.slice Ao69 t176.length co69)).setCell ⟨gb183, 2, none⟩ (.slice Ao70 t179.length co70)) w.heap.size (fun k_ => some k_ ≠ (.slice Ao43 t144.length co43 : Value).ownBlock ∧ some k_ ≠ (.slice Ao55 t159.length co55 : Value).ownBlock ∧ some k_ ≠ (.slice Ao60 y166.length co60 : Value).ownBlock) (.slice Ao70 t179.length co70) t179) := ⟨mR (by exact Kd.R_mono (Kd.R_far (p := ⟨gb183, 2, none⟩) (Kd.R_far (p := ⟨gb183, 1, none⟩) (Kd.R_far (p := ⟨gb183, 0, none⟩) (Kd.R_types HO181.out BK183.out (by decide)) (fun _ hk => hk.2) (.slice Ao65 t173.length co65)) (fun _ hk => hk.2) (.slice Ao69 t176.length co69)) (fun _ hk => hk.2) (.slice Ao70 t179.length co70)) (fun _ hk => ⟨hk.1.1.1.2, ⟨hk.1.1.2, hk.1.2⟩⟩))⟩
 have n10_ : Aside0 ((((w64.setCell ⟨gb183, 0, none⟩ (.slice Ao65 t173.length co65)).setCell ⟨gb183, 1, none⟩ (.slice Ao69 t176.length co69)).setCell ⟨gb183, 2, none⟩ (.slice Ao70 t179.length co70)).heap[gb148]? = some (.cells #[.slice Ao40 t138.length co40, .slice Ao42 t141.length co42, .slice Ao43 t144.length co43] 26 (0, 0))) := ⟨sB BK148⟩
 have n11_ : Aside0 ((((w64.setCell ⟨gb183, 0, none⟩ (.slice Ao65 t173.length co65)).setCell ⟨gb183, 1, none⟩ (.slice Ao69 t176.length co69)).setCell ⟨gb183, 2, none⟩ (.slice Ao70 t179.length co70)).heap[gb163]? = some (.cells #[.slice Ao51 t153.length co51, .slice Ao53 t156.length co53, .slice Ao55 t159.length co55] 26 (0, 0))) := ⟨sB BK163⟩
 have n12_ : Aside0 ((((w64.setCell ⟨gb183, 0, none⟩ (.slice Ao65 t173.length co65)).setCell ⟨gb183, 1, none⟩ (.slice Ao69 t176.length co69)).setCell ⟨gb183, 2, none⟩ (.slice Ao70 t179.length co70)).heap[gb183]? = some (.cells #[.slice Ao65 t173.length co65, .slice Ao69 t176.length co69, .slice Ao70 t179.length co70] 26 (0, 0))) := ⟨by (with_reducible repeat (first | refine blk_drewN ?_ _ | refine blk_drew ?_ | refine blk_alloc ?_ _)); refine blk_put (cs := #[.slice Ao65 t173.length co65, .slice Ao69 t176.length co69, .slice none 0 0]) ?_ 2 _ rfl; (with_reducible repeat (first | refine blk_drewN ?_ _ | refine blk_drew ?_ | refine blk_alloc ?_ _)); refine blk_put (cs := #[.slice Ao65 t173.length co65, .slice none 0 0, .slice none 0 0]) ?_ 1 _ rfl; (with_reducible repeat (first | refine blk_drewN ?_ _ | refine blk_drew ?_ | refine blk_alloc ?_ _)); refine blk_put (cs := #[.slice none 0 0, .slice none 0 0, .slice none 0 0]) ?_ 0 _ rfl; (with_reducible repeat (first | refine blk_drewN ?_ _ | refine blk_drew ?_ | refine blk_alloc ?_ _)); exact BK183.out⟩
 have n13_ : Aside0 (Below w.heap.size w (((w64.setCell ⟨gb183, 0, none⟩ (.slice Ao65 t173.length co65)).setCell ⟨gb183, 1, none⟩ (.slice Ao69 t176.length co69)).setCell ⟨gb183, 2, none⟩ (.slice Ao70 t179.length co70))) := ⟨sW HB⟩
 (try clear HO140)
 (try clear HO143)
 (try clear HO146)
 (try clear HO155)
 (try clear HO158)
 (try clear HO161)
 (try clear HO168)
 (try clear HO175)
 (try clear HO178)
 (try clear HO181)
 (try clear BK148)
 (try clear BK163)
 (try clear BK183)
 (try clear HB)
 generalize (((w64.setCell ⟨gb183, 0, none⟩ (.slice Ao65 t173.length co65)).setCell ⟨gb183, 1, none⟩ (.slice Ao69 t176.length co69)).setCell ⟨gb183, 2, none⟩ (.slice Ao70 t179.length co70)) = w71 at n0_ n1_ n2_ n3_ n4_ n5_ n6_ n7_ n8_ n9_ n10_ n11_ n12_ n13_ ⊢
 have HO140 := n0_
 have HO143 := n1_
 have HO146 := n2_
 have HO155 := n3_
 have HO158 := n4_
 have HO161 := n5_
 have HO168 := n6_
 have HO175 := n7_
 have HO178 := n8_
 have HO181 := n9_
 have BK148 := n10_
 have BK163 := n11_
 have BK183 := n12_
 have HB := n13_
 clear n0_ n1_ n2_ n3_ n4_ n5_ n6_ n7_ n8_ n9_ n10_ n11_ n12_ n13_
 replace HO140 := Aside0.mk (Kd.R_drew HO140.out)
 replace HO143 := Aside0.mk (Kd.R_drew HO143.out)
 replace HO146 := Aside0.mk (Kd.R_drew HO146.out)
 replace HO155 := Aside0.mk (Kd.R_drew HO155.out)
 replace HO158 := Aside0.mk (Kd.R_drew HO158.out)
 replace HO161 := Aside0.mk (Kd.R_drew HO161.out)
 replace HO168 := Aside0.mk (Kd.R_drew HO168.out)
 replace HO175 := Aside0.mk (Kd.R_drew HO175.out)
 replace HO178 := Aside0.mk (Kd.R_drew HO178.out)
 replace HO181 := Aside0.mk (Kd.R_drew HO181.out)
 replace BK148 := Aside0.mk (blk_drew BK148.out)
 replace BK163 := Aside0.mk (blk_drew BK163.out)
 replace BK183 := Aside0.mk (blk_drew BK183.out)
 replace HB := Aside0.mk (below_drew1 HB.out)
 refine start_ (n := 11) (S := fun w' => w'.cell? ⟨gb148, 0, none⟩ = some (.slice Ao40 t138.length co40) ∧ w'.cell? ⟨gb148, 1, none⟩ = some (.slice Ao42 t141.length co42) ∧ w'.cell? ⟨gb148, 2, none⟩ = some (.slice Ao43 t144.length co43)) (ds := []) #[false, false, false, false, false, false, false, false, false, false, false] (by kernel_rfl) rfl rfl ⟨bt BK148 0, bt BK148 1, bt BK148 2⟩ (fun hHeld => ?_); refine with_tabW slotmeshlaw12_head.tab4 slotmeshlaw12_head.bits4 (fun HT_ HW_ => ?_)
 generalize w71.drew = w72 at HO140 HO143 HO146 HO155 HO158 HO161 HO168 HO175 HO178 HO181 BK148 BK163 BK183 HB hHeld ⊢
 refine run_ [(0, some 37)] ?_
 refine runT (v := ?_) (a' := ?_) rfl rfl (take_ofW HT_.out HW_.out (by kernel_rfl)) (fun _ _ _ h => h) (Or.inl ⟨by rfl, ?_⟩) hHeld ?_ ?_; rotate_left; (· rintro w' ⟨s0, s1, s2⟩; go_simp; with_reducible rfl); rotate_left; (· simp only [Act.put, List.setIfInBounds_toArray, List.set_cons_zero, List.set_cons_succ, i64_w, i32_w]; rfl)
 refine runE ?_
 refine join_ (σ := Value × Value × Value × Nat) 2 #[true, true, true, true, true, true, true, true, true, false, false] (fun s_ => [(38, .agg #[.int .i64 t184, .int .i64 t185]), (39, .agg #[.int .i64 t186, .int .i64 t187]), (41, .tuple #[.agg #[s_.1, s_.2.1, s_.2.2.1], .int .i64 t197]), (7, .pointer (some ⟨s_.2.2.2, 0, none⟩)), (40, .agg #[.int .i64 t186, .int .i64 t187, .int .i64 0, .int .i64 0]), (36, .tuple #[.agg #[s_.1, s_.2.1, s_.2.2.1], .int .i64 t197]), (42, .agg #[s_.1, s_.2.1, s_.2.2.1]), (43, .int .i64 t197)]) (fun s_ w' => (w'.cell? ⟨gb148, 0, none⟩ = some (.slice Ao40 t138.length co40) ∧ w'.cell? ⟨gb148, 1, none⟩ = some (.slice Ao42 t141.length co42) ∧ w'.cell? ⟨gb148, 2, none⟩ = some (.slice Ao43 t144.length co43)) ∧ (Kd.R k32 32 w' w.heap.size (fun k_ => some k_ ≠ (.slice Ao51 t153.length co51 : Value).ownBlock ∧ some k_ ≠ (.slice Ao65 t173.length co65 : Value).ownBlock ∧ some k_ ≠ (s_.1 : Value).ownBlock) (.slice Ao40 t138.length co40) t138) ∧ (Kd.R k34 34 w' w.heap.size (fun k_ => some k_ ≠ (.slice Ao53 t156.length co53 : Value).ownBlock ∧ some k_ ≠ (.slice Ao69 t176.length co69 : Value).ownBlock ∧ some k_ ≠ (s_.2.1 : Value).ownBlock) (.slice Ao42 t141.length co42) t141) ∧ (Kd.R k51 51 w' w.heap.size (fun k_ => some k_ ≠ (.slice Ao55 t159.length co55 : Value).ownBlock ∧ some k_ ≠ (.slice Ao60 y166.length co60 : Value).ownBlock ∧ some k_ ≠ (.slice Ao70 t179.length co70 : Value).ownBlock ∧ some k_ ≠ (s_.2.2.1 : Value).ownBlock) (.slice Ao43 t144.length co43) t144) ∧ (Kd.R k32 32 w' w.heap.size (fun k_ => some k_ ≠ (.slice Ao40 t138.length co40 : Value).ownBlock ∧ some k_ ≠ (.slice Ao65 t173.length co65 : Value).ownBlock ∧ some k_ ≠ (s_.1 : Value).ownBlock) (.slice Ao51 t153.length co51) t153) ∧ (Kd.R k34 34 w' w.heap.size (fun k_ => some k_ ≠ (.slice Ao42 t141.length co42 : Value).ownBlock ∧ some k_ ≠ (.slice Ao69 t176.length co69 : Value).ownBlock ∧ some k_ ≠ (s_.2.1 : Value).ownBlock) (.slice Ao53 t156.length co53) t156) ∧ (Kd.R k51 51 w' w.heap.size (fun k_ => some k_ ≠ (.slice Ao43 t144.length co43 : Value).ownBlock ∧ some k_ ≠ (.slice Ao60 y166.length co60 : Value).ownBlock ∧ some k_ ≠ (.slice Ao70 t179.length co70 : Value).ownBlock ∧ some k_ ≠ (s_.2.2.1 : Value).ownBlock) (.slice Ao55 t159.length co55) t159) ∧ (Kd.R k51 51 w' w.heap.size (fun k_ => some k_ ≠ (.slice Ao43 t144.length co43 : Value).ownBlock ∧ some k_ ≠ (.slice Ao55 t159.length co55 : Value).ownBlock ∧ some k_ ≠ (.slice Ao70 t179.length co70 : Value).ownBlock ∧ some k_ ≠ (s_.2.2.1 : Value).ownBlock) (.slice Ao60 y166.length co60) y166) ∧ (Kd.R k32 32 w' w.heap.size (fun k_ => some k_ ≠ (.slice Ao40 t138.length co40 : Value).ownBlock ∧ some k_ ≠ (.slice Ao51 t153.length co51 : Value).ownBlock ∧ some k_ ≠ (s_.1 : Value).ownBlock) (.slice Ao65 t173.length co65) t173) ∧ (Kd.R k34 34 w' w.heap.size (fun k_ => some k_ ≠ (.slice Ao42 t141.length co42 : Value).ownBlock ∧ some k_ ≠ (.slice Ao53 t156.length co53 : Value).ownBlock ∧ some k_ ≠ (s_.2.1 : Value).ownBlock) (.slice Ao69 t176.length co69) t176) ∧ (Kd.R k51 51 w' w.heap.size (fun k_ => some k_ ≠ (.slice Ao43 t144.length co43 : Value).ownBlock ∧ some k_ ≠ (.slice Ao55 t159.length co55 : Value).ownBlock ∧ some k_ ≠ (.slice Ao60 y166.length co60 : Value).ownBlock ∧ some k_ ≠ (s_.2.2.1 : Value).ownBlock) (.slice Ao70 t179.length co70) t179) ∧ (Kd.R k32 32 w' w.heap.size (fun k_ => some k_ ≠ (.slice Ao40 t138.length co40 : Value).ownBlock ∧ some k_ ≠ (.slice Ao51 t153.length co51 : Value).ownBlock ∧ some k_ ≠ (.slice Ao65 t173.length co65 : Value).ownBlock) s_.1 t188) ∧ (Kd.R k34 34 w' w.heap.size (fun k_ => some k_ ≠ (.slice Ao42 t141.length co42 : Value).ownBlock ∧ some k_ ≠ (.slice Ao53 t156.length co53 : Value).ownBlock ∧ some k_ ≠ (.slice Ao69 t176.length co69 : Value).ownBlock) s_.2.1 t191) ∧ (Kd.R k51 51 w' w.heap.size (fun k_ => some k_ ≠ (.slice Ao43 t144.length co43 : Value).ownBlock ∧ some k_ ≠ (.slice Ao55 t159.length co55 : Value).ownBlock ∧ some k_ ≠ (.slice Ao60 y166.length co60 : Value).ownBlock ∧ some k_ ≠ (.slice Ao70 t179.length co70 : Value).ownBlock) s_.2.2.1 t194) ∧ (w'.heap[gb148]? = some (.cells #[.slice Ao40 t138.length co40, .slice Ao42 t141.length co42, .slice Ao43 t144.length co43] 26 (0, 0))) ∧ (w'.heap[gb163]? = some (.cells #[.slice Ao51 t153.length co51, .slice Ao53 t156.length co53, .slice Ao55 t159.length co55] 26 (0, 0))) ∧ (w'.heap[gb183]? = some (.cells #[.slice Ao65 t173.length co65, .slice Ao69 t176.length co69, .slice Ao70 t179.length co70] 26 (0, 0))) ∧ (w'.heap[s_.2.2.2]? = some (.cells #[.slice none 0 0, .slice none 0 0, .slice none 0 0] 26 (0, 0))) ∧ (w.heap.size ≤ s_.2.2.2) ∧ (w.heap.size ≤ s_.2.2.2) ∧ (gb148 ≠ s_.2.2.2) ∧ (s_.2.2.2 ≠ gb148) ∧ (gb163 ≠ s_.2.2.2) ∧ (s_.2.2.2 ≠ gb163) ∧ (gb183 ≠ s_.2.2.2) ∧ (s_.2.2.2 ≠ gb183) ∧ (Below w.heap.size w w')) ?_ ?_
 rotate_left
 ·intro hCont
  refine two_ (i := 1) (j := 8) (Ni := some 38) (Nj := some 7) #[true, true, false, false, false, false, false, false, false, false, false] #[true, false, false, false, false, false, false, false, true, false, false] rfl rfl rfl rfl (two_of HT_.out (by kernel_rfl)) (by decide) (by decide) (fun K hK => ?_) (fun K hK => ?_)
  ·skip
   refine gO Try.func27 #[] ?_
   with_reducible refine (slotmeshlaw12_layout.calls  t184 t185 _ A11.out).mono ?_
   rintro e w73 ⟨rfl, hb⟩
   refine ⟨_, rfl, ?_⟩
   replace HO140 := tR HO140 hb
   replace HO143 := tR HO143 hb
   replace HO146 := tR HO146 hb
   replace HO155 := tR HO155 hb
   replace HO158 := tR HO158 hb
   replace HO161 := tR HO161 hb
   replace HO168 := tR HO168 hb
   replace HO175 := tR HO175 hb
   replace HO178 := tR HO178 hb
   replace HO181 := tR HO181 hb
   replace BK148 := tB BK148 hb
   replace BK163 := tB BK163 hb
   replace BK183 := tB BK183 hb
   replace HB := tW HB hb
   (try clear hb)
   (try clear hb2)
   (try clear hk)
   (try clear hi)
   refine hK.out _ _ ⟨bt BK148 0, bt BK148 1, bt BK148 2⟩ (fun hHeld => ?_)
   clear hK K
   refine norm_ (a' := ?_) ?_ ?_
   rotate_left
   ·show Act.put _ (some 38) _ = _
    simp only [Act.put, List.setIfInBounds_toArray, List.set_cons_zero, List.set_cons_succ, i64_w, i32_w]
    rfl
   refine two_ (i := 2) (j := 8) (Ni := some 39) (Nj := some 7) #[true, true, true, false, false, false, false, false, false, false, false] #[true, true, false, false, false, false, false, false, true, false, false] rfl rfl rfl rfl (two_of HT_.out (by kernel_rfl)) (by decide) (by decide) (fun K hK => ?_) (fun K hK => ?_)
   ·skip
    refine gO Try.func28 #[.int .i64 4, .int .i64 5] ?_
    with_reducible refine (slotmeshlaw12_cell.calls 4 5 t186 t187 _ A12.out).mono ?_
    rintro e w74 ⟨rfl, hb⟩
    refine ⟨_, rfl, ?_⟩
    replace HO140 := tR HO140 hb
    replace HO143 := tR HO143 hb
    replace HO146 := tR HO146 hb
    replace HO155 := tR HO155 hb
    replace HO158 := tR HO158 hb
    replace HO161 := tR HO161 hb
    replace HO168 := tR HO168 hb
    replace HO175 := tR HO175 hb
    replace HO178 := tR HO178 hb
    replace HO181 := tR HO181 hb
    replace BK148 := tB BK148 hb
    replace BK163 := tB BK163 hb
    replace BK183 := tB BK183 hb
    replace HB := tW HB hb
    (try clear hb)
    (try clear hb2)
    (try clear hk)
    (try clear hi)
    refine hK.out _ _ ⟨bt BK148 0, bt BK148 1, bt BK148 2⟩ (fun hHeld => ?_)
    clear hK K
    refine norm_ (a' := ?_) ?_ ?_
    rotate_left
    ·show Act.put _ (some 39) _ = _
     simp only [Act.put, List.setIfInBounds_toArray, List.set_cons_zero, List.set_cons_succ, i64_w, i32_w]
     rfl
    refine run_ [(3, some 40)] ?_
    refine runP (v := ?_) (a' := ?_) rfl rfl (any_of HT_.out (by kernel_rfl)) (fun _ _ _ h => h) (Or.inl ⟨by rfl, ?_⟩) ?_ ?_; rotate_left; (· intro w'; go_simp; with_reducible rfl); rotate_left; (· simp only [Act.put, List.setIfInBounds_toArray, List.set_cons_zero, List.set_cons_succ, i64_w, i32_w]; rfl)
    refine runE ?_
    refine two_ (i := 4) (j := 8) (Ni := some 41) (Nj := some 7) #[true, true, true, true, true, false, false, false, false, false, false] #[true, true, true, true, false, false, false, false, true, false, false] rfl rfl rfl rfl (two_of HT_.out (by kernel_rfl)) (by decide) (by decide) (fun K hK => ?_) (fun K hK => ?_)
    ·skip
     refine gO Try.func12 #[.agg #[.slice Ao40 t138.length co40, .slice Ao42 t141.length co42, .slice Ao43 t144.length co43], .agg #[.int .i64 t184, .int .i64 t185], .agg #[.int .i64 t186, .int .i64 t187, .int .i64 0, .int .i64 0]] ?_
     with_reducible refine (cells_AddUse.calls _ _ t138 _ _ t141 _ _ t144 t184 t185 t186 t187 0 0 t188 t191 t194 t197 _ ?side1 ?side2 ?side3 ?side4 ?side5 ?side6 A13.out).mono ?_
     (case side1 => exact sC (Kd.R_reads' HO140.out).2.2)
     (case side2 => exact (Kd.R_reads' HO140.out).2.1)
     (case side3 => exact sC (Kd.R_reads' HO143.out).2.2)
     (case side4 => exact (Kd.R_reads' HO143.out).2.1)
     (case side5 => exact sC (Kd.R_reads' HO146.out).2.2)
     (case side6 => exact (Kd.R_reads' HO146.out).2.1)
     rintro e w75 ⟨v189, v192, v195, rfl, ho0, ho1, ho2, hb⟩
     refine ⟨_, rfl, ?_⟩
     have HO190 := Aside0.mk (Kd.R_lower (Kd.R_new' (Kd.R_new' (Kd.R_new' ho0 (Kd.R_lt (sR HO140))) (Kd.R_lt (sR HO155))) (Kd.R_lt (sR HO175))) (below_size (sW HB)))
     replace HO140 := eR HO140 ho0 hb
     replace HO155 := eR HO155 ho0 hb
     replace HO175 := eR HO175 ho0 hb
     have HO193 := Aside0.mk (Kd.R_lower (Kd.R_new' (Kd.R_new' (Kd.R_new' ho1 (Kd.R_lt (sR HO143))) (Kd.R_lt (sR HO158))) (Kd.R_lt (sR HO178))) (below_size (sW HB)))
     replace HO143 := eR HO143 ho1 hb
     replace HO158 := eR HO158 ho1 hb
     replace HO178 := eR HO178 ho1 hb
     have HO196 := Aside0.mk (Kd.R_lower (Kd.R_new' (Kd.R_new' (Kd.R_new' (Kd.R_new' ho2 (Kd.R_lt (sR HO146))) (Kd.R_lt (sR HO161))) (Kd.R_lt (sR HO168))) (Kd.R_lt (sR HO181))) (below_size (sW HB)))
     replace HO146 := eR HO146 ho2 hb
     replace HO161 := eR HO161 ho2 hb
     replace HO168 := eR HO168 ho2 hb
     replace HO181 := eR HO181 ho2 hb
     replace BK148 := tB BK148 hb
     replace BK163 := tB BK163 hb
     replace BK183 := tB BK183 hb
     replace HB := tW HB hb
     (try clear hb)
     (try clear hb2)
     (try clear hk)
     (try clear hi)
     (try clear ho0)
     (try clear ho1)
     (try clear ho2)
     refine hK.out _ _ ⟨bt BK148 0, bt BK148 1, bt BK148 2⟩ (fun hHeld => ?_)
     clear hK K
     refine norm_ (a' := ?_) ?_ ?_
     rotate_left
     ·show Act.put _ (some 41) _ = _
      simp only [Act.put, List.setIfInBounds_toArray, List.set_cons_zero, List.set_cons_succ, i64_w, i32_w]
      rfl
     refine run_ [(5, some 36), (6, some 42), (7, some 43)] ?_
     iterate 3 (refine runP (v := ?_) (a' := ?_) rfl rfl (any_of HT_.out (by kernel_rfl)) (fun _ _ _ h => h) (Or.inl ⟨by rfl, ?_⟩) ?_ ?_; rotate_left; (· intro w'; go_simp; with_reducible rfl); rotate_left; (· simp only [Act.put, List.setIfInBounds_toArray, List.set_cons_zero, List.set_cons_succ, i64_w, i32_w]; rfl))
     refine runE ?_
     refine one_ (i := 8) (N := some 7) #[true, true, true, true, true, true, true, true, true, false, false] rfl rfl (one_of HT_.out (by kernel_rfl)) (by decide) (fun K hK => ?_)
     refine bS (N := 7) (cs := #[.slice none 0 0, .slice none 0 0, .slice none 0 0]) (t := 26) ?_
     intro gb198 hg w76 hbox hb
     replace HO140 := tR HO140 hb
     replace HO143 := tR HO143 hb
     replace HO146 := tR HO146 hb
     replace HO155 := tR HO155 hb
     replace HO158 := tR HO158 hb
     replace HO161 := tR HO161 hb
     replace HO168 := tR HO168 hb
     replace HO175 := tR HO175 hb
     replace HO178 := tR HO178 hb
     replace HO181 := tR HO181 hb
     replace HO190 := tR HO190 hb
     replace HO193 := tR HO193 hb
     replace HO196 := tR HO196 hb
     have BK198 := Aside0.mk (hbox)
     have GW198 := gW hg HB
     have GE198 := GW198
     replace HB := tW HB hb
     have NB148_198 := gL hg BK148
     have NB198_148 := gG hg BK148
     replace BK148 := tB BK148 hb
     have NB163_198 := gL hg BK163
     have NB198_163 := gG hg BK163
     replace BK163 := tB BK163 hb
     have NB183_198 := gL hg BK183
     have NB198_183 := gG hg BK183
     replace BK183 := tB BK183 hb
     clear hb hbox hg
     refine hK.out _ _ ⟨bt BK148 0, bt BK148 1, bt BK148 2⟩ (fun hHeld => ?_)
     clear hK K
     refine norm_ (a' := ?_) ?_ ?_
     rotate_left
     ·show Act.put _ (some 7) _ = _
      simp only [Act.put, List.setIfInBounds_toArray, List.set_cons_zero, List.set_cons_succ, i64_w, i32_w]
      rfl
     exact norm_ (by simp only [putAll, Act.put, List.setIfInBounds_toArray, List.set_cons_zero, List.set_cons_succ]) (hCont (v189, v192, v195, gb198) _ ⟨hHeld, (mR (by exact Kd.R_mono HO140.out (fun _ hk => ⟨hk.1.1, ⟨hk.1.2, hk.2⟩⟩))), (mR (by exact Kd.R_mono HO143.out (fun _ hk => ⟨hk.1.1, ⟨hk.1.2, hk.2⟩⟩))), (mR (by exact Kd.R_mono HO146.out (fun _ hk => ⟨hk.1.1, ⟨hk.1.2.1, ⟨hk.1.2.2, hk.2⟩⟩⟩))), (mR (by exact Kd.R_mono HO155.out (fun _ hk => ⟨hk.1.1, ⟨hk.1.2, hk.2⟩⟩))), (mR (by exact Kd.R_mono HO158.out (fun _ hk => ⟨hk.1.1, ⟨hk.1.2, hk.2⟩⟩))), (mR (by exact Kd.R_mono HO161.out (fun _ hk => ⟨hk.1.1, ⟨hk.1.2.1, ⟨hk.1.2.2, hk.2⟩⟩⟩))), (mR (by exact Kd.R_mono HO168.out (fun _ hk => ⟨hk.1.1, ⟨hk.1.2.1, ⟨hk.1.2.2, hk.2⟩⟩⟩))), (mR (by exact Kd.R_mono HO175.out (fun _ hk => ⟨hk.1.1, ⟨hk.1.2, hk.2⟩⟩))), (mR (by exact Kd.R_mono HO178.out (fun _ hk => ⟨hk.1.1, ⟨hk.1.2, hk.2⟩⟩))), (mR (by exact Kd.R_mono HO181.out (fun _ hk => ⟨hk.1.1, ⟨hk.1.2.1, ⟨hk.1.2.2, hk.2⟩⟩⟩))), (mR (by exact Kd.R_mono HO190.out (fun _ hk => ⟨hk.1.1.2, ⟨hk.1.2, hk.2⟩⟩))), (mR (by exact Kd.R_mono HO193.out (fun _ hk => ⟨hk.1.1.2, ⟨hk.1.2, hk.2⟩⟩))), (mR (by exact Kd.R_mono HO196.out (fun _ hk => ⟨hk.1.1.1.2, ⟨hk.1.1.2, ⟨hk.1.2, hk.2⟩⟩⟩))), (sB BK148), (sB BK163), (sB BK183), (sB BK198), GW198.out, GE198.out, NB148_198.out, NB198_148.out, NB163_198.out, NB198_163.out, NB183_198.out, NB198_183.out, (sW HB)⟩)
    skip
    refine bS (N := 7) (cs := #[.slice none 0 0, .slice none 0 0, .slice none 0 0]) (t := 26) ?_
    intro gb198 hg w75 hbox hb
    replace HO140 := tR HO140 hb
    replace HO143 := tR HO143 hb
    replace HO146 := tR HO146 hb
    replace HO155 := tR HO155 hb
    replace HO158 := tR HO158 hb
    replace HO161 := tR HO161 hb
    replace HO168 := tR HO168 hb
    replace HO175 := tR HO175 hb
    replace HO178 := tR HO178 hb
    replace HO181 := tR HO181 hb
    have BK198 := Aside0.mk (hbox)
    have GW198 := gW hg HB
    have GE198 := GW198
    replace HB := tW HB hb
    have NB148_198 := gL hg BK148
    have NB198_148 := gG hg BK148
    replace BK148 := tB BK148 hb
    have NB163_198 := gL hg BK163
    have NB198_163 := gG hg BK163
    replace BK163 := tB BK163 hb
    have NB183_198 := gL hg BK183
    have NB198_183 := gG hg BK183
    replace BK183 := tB BK183 hb
    clear hb hbox hg
    refine hK.out _ _ ⟨bt BK148 0, bt BK148 1, bt BK148 2⟩ (fun hHeld => ?_)
    clear hK K
    refine norm_ (a' := ?_) ?_ ?_
    rotate_left
    ·show Act.put _ (some 7) _ = _
     simp only [Act.put, List.setIfInBounds_toArray, List.set_cons_zero, List.set_cons_succ, i64_w, i32_w]
     rfl
    refine one_ (i := 4) (N := some 41) #[true, true, true, true, true, false, false, false, true, false, false] rfl rfl (one_of HT_.out (by kernel_rfl)) (by decide) (fun K hK => ?_)
    refine gO Try.func12 #[.agg #[.slice Ao40 t138.length co40, .slice Ao42 t141.length co42, .slice Ao43 t144.length co43], .agg #[.int .i64 t184, .int .i64 t185], .agg #[.int .i64 t186, .int .i64 t187, .int .i64 0, .int .i64 0]] ?_
    with_reducible refine (cells_AddUse.calls _ _ t138 _ _ t141 _ _ t144 t184 t185 t186 t187 0 0 t188 t191 t194 t197 _ ?side1 ?side2 ?side3 ?side4 ?side5 ?side6 A13.out).mono ?_
    (case side1 => exact sC (Kd.R_reads' HO140.out).2.2)
    (case side2 => exact (Kd.R_reads' HO140.out).2.1)
    (case side3 => exact sC (Kd.R_reads' HO143.out).2.2)
    (case side4 => exact (Kd.R_reads' HO143.out).2.1)
    (case side5 => exact sC (Kd.R_reads' HO146.out).2.2)
    (case side6 => exact (Kd.R_reads' HO146.out).2.1)
    rintro e w76 ⟨v189, v192, v195, rfl, ho0, ho1, ho2, hb⟩
    refine ⟨_, rfl, ?_⟩
    have HO190 := Aside0.mk (Kd.R_lower (Kd.R_new' (Kd.R_new' (Kd.R_new' ho0 (Kd.R_lt (sR HO140))) (Kd.R_lt (sR HO155))) (Kd.R_lt (sR HO175))) (below_size (sW HB)))
    replace HO140 := eR HO140 ho0 hb
    replace HO155 := eR HO155 ho0 hb
    replace HO175 := eR HO175 ho0 hb
    have HO193 := Aside0.mk (Kd.R_lower (Kd.R_new' (Kd.R_new' (Kd.R_new' ho1 (Kd.R_lt (sR HO143))) (Kd.R_lt (sR HO158))) (Kd.R_lt (sR HO178))) (below_size (sW HB)))
    replace HO143 := eR HO143 ho1 hb
    replace HO158 := eR HO158 ho1 hb
    replace HO178 := eR HO178 ho1 hb
    have HO196 := Aside0.mk (Kd.R_lower (Kd.R_new' (Kd.R_new' (Kd.R_new' (Kd.R_new' ho2 (Kd.R_lt (sR HO146))) (Kd.R_lt (sR HO161))) (Kd.R_lt (sR HO168))) (Kd.R_lt (sR HO181))) (below_size (sW HB)))
    replace HO146 := eR HO146 ho2 hb
    replace HO161 := eR HO161 ho2 hb
    replace HO168 := eR HO168 ho2 hb
    replace HO181 := eR HO181 ho2 hb
    replace BK148 := tB BK148 hb
    replace BK163 := tB BK163 hb
    replace BK183 := tB BK183 hb
    replace BK198 := tB BK198 hb
    replace HB := tW HB hb
    (try clear hb)
    (try clear hb2)
    (try clear hk)
    (try clear hi)
    (try clear ho0)
    (try clear ho1)
    (try clear ho2)
    refine hK.out _ _ ⟨bt BK148 0, bt BK148 1, bt BK148 2⟩ (fun hHeld => ?_)
    clear hK K
    refine norm_ (a' := ?_) ?_ ?_
    rotate_left
    ·show Act.put _ (some 41) _ = _
     simp only [Act.put, List.setIfInBounds_toArray, List.set_cons_zero, List.set_cons_succ, i64_w, i32_w]
     rfl
    refine run_ [(5, some 36), (6, some 42), (7, some 43)] ?_
    iterate 3 (refine runP (v := ?_) (a' := ?_) rfl rfl (any_of HT_.out (by kernel_rfl)) (fun _ _ _ h => h) (Or.inl ⟨by rfl, ?_⟩) ?_ ?_; rotate_left; (· intro w'; go_simp; with_reducible rfl); rotate_left; (· simp only [Act.put, List.setIfInBounds_toArray, List.set_cons_zero, List.set_cons_succ, i64_w, i32_w]; rfl))
    refine runE ?_
    exact norm_ (by simp only [putAll, Act.put, List.setIfInBounds_toArray, List.set_cons_zero, List.set_cons_succ]) (hCont (v189, v192, v195, gb198) _ ⟨hHeld, (mR (by exact Kd.R_mono HO140.out (fun _ hk => ⟨hk.1.1, ⟨hk.1.2, hk.2⟩⟩))), (mR (by exact Kd.R_mono HO143.out (fun _ hk => ⟨hk.1.1, ⟨hk.1.2, hk.2⟩⟩))), (mR (by exact Kd.R_mono HO146.out (fun _ hk => ⟨hk.1.1, ⟨hk.1.2.1, ⟨hk.1.2.2, hk.2⟩⟩⟩))), (mR (by exact Kd.R_mono HO155.out (fun _ hk => ⟨hk.1.1, ⟨hk.1.2, hk.2⟩⟩))), (mR (by exact Kd.R_mono HO158.out (fun _ hk => ⟨hk.1.1, ⟨hk.1.2, hk.2⟩⟩))), (mR (by exact Kd.R_mono HO161.out (fun _ hk => ⟨hk.1.1, ⟨hk.1.2.1, ⟨hk.1.2.2, hk.2⟩⟩⟩))), (mR (by exact Kd.R_mono HO168.out (fun _ hk => ⟨hk.1.1, ⟨hk.1.2.1, ⟨hk.1.2.2, hk.2⟩⟩⟩))), (mR (by exact Kd.R_mono HO175.out (fun _ hk => ⟨hk.1.1, ⟨hk.1.2, hk.2⟩⟩))), (mR (by exact Kd.R_mono HO178.out (fun _ hk => ⟨hk.1.1, ⟨hk.1.2, hk.2⟩⟩))), (mR (by exact Kd.R_mono HO181.out (fun _ hk => ⟨hk.1.1, ⟨hk.1.2.1, ⟨hk.1.2.2, hk.2⟩⟩⟩))), (mR (by exact Kd.R_mono HO190.out (fun _ hk => ⟨hk.1.1.2, ⟨hk.1.2, hk.2⟩⟩))), (mR (by exact Kd.R_mono HO193.out (fun _ hk => ⟨hk.1.1.2, ⟨hk.1.2, hk.2⟩⟩))), (mR (by exact Kd.R_mono HO196.out (fun _ hk => ⟨hk.1.1.1.2, ⟨hk.1.1.2, ⟨hk.1.2, hk.2⟩⟩⟩))), (sB BK148), (sB BK163), (sB BK183), (sB BK198), GW198.out, GE198.out, NB148_198.out, NB198_148.out, NB163_198.out, NB198_163.out, NB183_198.out, NB198_183.out, (sW HB)⟩)
   skip
   refine bS (N := 7) (cs := #[.slice none 0 0, .slice none 0 0, .slice none 0 0]) (t := 26) ?_
   intro gb198 hg w74 hbox hb
   replace HO140 := tR HO140 hb
   replace HO143 := tR HO143 hb
   replace HO146 := tR HO146 hb
   replace HO155 := tR HO155 hb
   replace HO158 := tR HO158 hb
   replace HO161 := tR HO161 hb
   replace HO168 := tR HO168 hb
   replace HO175 := tR HO175 hb
   replace HO178 := tR HO178 hb
   replace HO181 := tR HO181 hb
   have BK198 := Aside0.mk (hbox)
   have GW198 := gW hg HB
   have GE198 := GW198
   replace HB := tW HB hb
   have NB148_198 := gL hg BK148
   have NB198_148 := gG hg BK148
   replace BK148 := tB BK148 hb
   have NB163_198 := gL hg BK163
   have NB198_163 := gG hg BK163
   replace BK163 := tB BK163 hb
   have NB183_198 := gL hg BK183
   have NB198_183 := gG hg BK183
   replace BK183 := tB BK183 hb
   clear hb hbox hg
   refine hK.out _ _ ⟨bt BK148 0, bt BK148 1, bt BK148 2⟩ (fun hHeld => ?_)
   clear hK K
   refine norm_ (a' := ?_) ?_ ?_
   rotate_left
   ·show Act.put _ (some 7) _ = _
    simp only [Act.put, List.setIfInBounds_toArray, List.set_cons_zero, List.set_cons_succ, i64_w, i32_w]
    rfl
   refine one_ (i := 2) (N := some 39) #[true, true, true, false, false, false, false, false, true, false, false] rfl rfl (one_of HT_.out (by kernel_rfl)) (by decide) (fun K hK => ?_)
   refine gO Try.func28 #[.int .i64 4, .int .i64 5] ?_
   with_reducible refine (slotmeshlaw12_cell.calls 4 5 t186 t187 _ A12.out).mono ?_
   rintro e w75 ⟨rfl, hb⟩
   refine ⟨_, rfl, ?_⟩
   replace HO140 := tR HO140 hb
   replace HO143 := tR HO143 hb
   replace HO146 := tR HO146 hb
   replace HO155 := tR HO155 hb
   replace HO158 := tR HO158 hb
   replace HO161 := tR HO161 hb
   replace HO168 := tR HO168 hb
   replace HO175 := tR HO175 hb
   replace HO178 := tR HO178 hb
   replace HO181 := tR HO181 hb
   replace BK148 := tB BK148 hb
   replace BK163 := tB BK163 hb
   replace BK183 := tB BK183 hb
   replace BK198 := tB BK198 hb
   replace HB := tW HB hb
   (try clear hb)
   (try clear hb2)
   (try clear hk)
   (try clear hi)
   refine hK.out _ _ ⟨bt BK148 0, bt BK148 1, bt BK148 2⟩ (fun hHeld => ?_)
   clear hK K
   refine norm_ (a' := ?_) ?_ ?_
   rotate_left
   ·show Act.put _ (some 39) _ = _
    simp only [Act.put, List.setIfInBounds_toArray, List.set_cons_zero, List.set_cons_succ, i64_w, i32_w]
    rfl
   refine run_ [(3, some 40)] ?_
   refine runP (v := ?_) (a' := ?_) rfl rfl (any_of HT_.out (by kernel_rfl)) (fun _ _ _ h => h) (Or.inl ⟨by rfl, ?_⟩) ?_ ?_; rotate_left; (· intro w'; go_simp; with_reducible rfl); rotate_left; (· simp only [Act.put, List.setIfInBounds_toArray, List.set_cons_zero, List.set_cons_succ, i64_w, i32_w]; rfl)
   refine runE ?_
   refine one_ (i := 4) (N := some 41) #[true, true, true, true, true, false, false, false, true, false, false] rfl rfl (one_of HT_.out (by kernel_rfl)) (by decide) (fun K hK => ?_)
   refine gO Try.func12 #[.agg #[.slice Ao40 t138.length co40, .slice Ao42 t141.length co42, .slice Ao43 t144.length co43], .agg #[.int .i64 t184, .int .i64 t185], .agg #[.int .i64 t186, .int .i64 t187, .int .i64 0, .int .i64 0]] ?_
   with_reducible refine (cells_AddUse.calls _ _ t138 _ _ t141 _ _ t144 t184 t185 t186 t187 0 0 t188 t191 t194 t197 _ ?side1 ?side2 ?side3 ?side4 ?side5 ?side6 A13.out).mono ?_
   (case side1 => exact sC (Kd.R_reads' HO140.out).2.2)
   (case side2 => exact (Kd.R_reads' HO140.out).2.1)
   (case side3 => exact sC (Kd.R_reads' HO143.out).2.2)
   (case side4 => exact (Kd.R_reads' HO143.out).2.1)
   (case side5 => exact sC (Kd.R_reads' HO146.out).2.2)
   (case side6 => exact (Kd.R_reads' HO146.out).2.1)
   rintro e w76 ⟨v189, v192, v195, rfl, ho0, ho1, ho2, hb⟩
   refine ⟨_, rfl, ?_⟩
   have HO190 := Aside0.mk (Kd.R_lower (Kd.R_new' (Kd.R_new' (Kd.R_new' ho0 (Kd.R_lt (sR HO140))) (Kd.R_lt (sR HO155))) (Kd.R_lt (sR HO175))) (below_size (sW HB)))
   replace HO140 := eR HO140 ho0 hb
   replace HO155 := eR HO155 ho0 hb
   replace HO175 := eR HO175 ho0 hb
   have HO193 := Aside0.mk (Kd.R_lower (Kd.R_new' (Kd.R_new' (Kd.R_new' ho1 (Kd.R_lt (sR HO143))) (Kd.R_lt (sR HO158))) (Kd.R_lt (sR HO178))) (below_size (sW HB)))
   replace HO143 := eR HO143 ho1 hb
   replace HO158 := eR HO158 ho1 hb
   replace HO178 := eR HO178 ho1 hb
   have HO196 := Aside0.mk (Kd.R_lower (Kd.R_new' (Kd.R_new' (Kd.R_new' (Kd.R_new' ho2 (Kd.R_lt (sR HO146))) (Kd.R_lt (sR HO161))) (Kd.R_lt (sR HO168))) (Kd.R_lt (sR HO181))) (below_size (sW HB)))
   replace HO146 := eR HO146 ho2 hb
   replace HO161 := eR HO161 ho2 hb
   replace HO168 := eR HO168 ho2 hb
   replace HO181 := eR HO181 ho2 hb
   replace BK148 := tB BK148 hb
   replace BK163 := tB BK163 hb
   replace BK183 := tB BK183 hb
   replace BK198 := tB BK198 hb
   replace HB := tW HB hb
   (try clear hb)
   (try clear hb2)
   (try clear hk)
   (try clear hi)
   (try clear ho0)
   (try clear ho1)
   (try clear ho2)
   refine hK.out _ _ ⟨bt BK148 0, bt BK148 1, bt BK148 2⟩ (fun hHeld => ?_)
   clear hK K
   refine norm_ (a' := ?_) ?_ ?_
   rotate_left
   ·show Act.put _ (some 41) _ = _
    simp only [Act.put, List.setIfInBounds_toArray, List.set_cons_zero, List.set_cons_succ, i64_w, i32_w]
    rfl
   refine run_ [(5, some 36), (6, some 42), (7, some 43)] ?_
   iterate 3 (refine runP (v := ?_) (a' := ?_) rfl rfl (any_of HT_.out (by kernel_rfl)) (fun _ _ _ h => h) (Or.inl ⟨by rfl, ?_⟩) ?_ ?_; rotate_left; (· intro w'; go_simp; with_reducible rfl); rotate_left; (· simp only [Act.put, List.setIfInBounds_toArray, List.set_cons_zero, List.set_cons_succ, i64_w, i32_w]; rfl))
   refine runE ?_
   exact norm_ (by simp only [putAll, Act.put, List.setIfInBounds_toArray, List.set_cons_zero, List.set_cons_succ]) (hCont (v189, v192, v195, gb198) _ ⟨hHeld, (mR (by exact Kd.R_mono HO140.out (fun _ hk => ⟨hk.1.1, ⟨hk.1.2, hk.2⟩⟩))), (mR (by exact Kd.R_mono HO143.out (fun _ hk => ⟨hk.1.1, ⟨hk.1.2, hk.2⟩⟩))), (mR (by exact Kd.R_mono HO146.out (fun _ hk => ⟨hk.1.1, ⟨hk.1.2.1, ⟨hk.1.2.2, hk.2⟩⟩⟩))), (mR (by exact Kd.R_mono HO155.out (fun _ hk => ⟨hk.1.1, ⟨hk.1.2, hk.2⟩⟩))), (mR (by exact Kd.R_mono HO158.out (fun _ hk => ⟨hk.1.1, ⟨hk.1.2, hk.2⟩⟩))), (mR (by exact Kd.R_mono HO161.out (fun _ hk => ⟨hk.1.1, ⟨hk.1.2.1, ⟨hk.1.2.2, hk.2⟩⟩⟩))), (mR (by exact Kd.R_mono HO168.out (fun _ hk => ⟨hk.1.1, ⟨hk.1.2.1, ⟨hk.1.2.2, hk.2⟩⟩⟩))), (mR (by exact Kd.R_mono HO175.out (fun _ hk => ⟨hk.1.1, ⟨hk.1.2, hk.2⟩⟩))), (mR (by exact Kd.R_mono HO178.out (fun _ hk => ⟨hk.1.1, ⟨hk.1.2, hk.2⟩⟩))), (mR (by exact Kd.R_mono HO181.out (fun _ hk => ⟨hk.1.1, ⟨hk.1.2.1, ⟨hk.1.2.2, hk.2⟩⟩⟩))), (mR (by exact Kd.R_mono HO190.out (fun _ hk => ⟨hk.1.1.2, ⟨hk.1.2, hk.2⟩⟩))), (mR (by exact Kd.R_mono HO193.out (fun _ hk => ⟨hk.1.1.2, ⟨hk.1.2, hk.2⟩⟩))), (mR (by exact Kd.R_mono HO196.out (fun _ hk => ⟨hk.1.1.1.2, ⟨hk.1.1.2, ⟨hk.1.2, hk.2⟩⟩⟩))), (sB BK148), (sB BK163), (sB BK183), (sB BK198), GW198.out, GE198.out, NB148_198.out, NB198_148.out, NB163_198.out, NB198_163.out, NB183_198.out, NB198_183.out, (sW HB)⟩)
  skip
  refine bS (N := 7) (cs := #[.slice none 0 0, .slice none 0 0, .slice none 0 0]) (t := 26) ?_
  intro gb198 hg w73 hbox hb
  replace HO140 := tR HO140 hb
  replace HO143 := tR HO143 hb
  replace HO146 := tR HO146 hb
  replace HO155 := tR HO155 hb
  replace HO158 := tR HO158 hb
  replace HO161 := tR HO161 hb
  replace HO168 := tR HO168 hb
  replace HO175 := tR HO175 hb
  replace HO178 := tR HO178 hb
  replace HO181 := tR HO181 hb
  have BK198 := Aside0.mk (hbox)
  have GW198 := gW hg HB
  have GE198 := GW198
  replace HB := tW HB hb
  have NB148_198 := gL hg BK148
  have NB198_148 := gG hg BK148
  replace BK148 := tB BK148 hb
  have NB163_198 := gL hg BK163
  have NB198_163 := gG hg BK163
  replace BK163 := tB BK163 hb
  have NB183_198 := gL hg BK183
  have NB198_183 := gG hg BK183
  replace BK183 := tB BK183 hb
  clear hb hbox hg
  refine hK.out _ _ ⟨bt BK148 0, bt BK148 1, bt BK148 2⟩ (fun hHeld => ?_)
  clear hK K
  refine norm_ (a' := ?_) ?_ ?_
  rotate_left
  ·show Act.put _ (some 7) _ = _
   simp only [Act.put, List.setIfInBounds_toArray, List.set_cons_zero, List.set_cons_succ, i64_w, i32_w]
   rfl
  refine one_ (i := 1) (N := some 38) #[true, true, false, false, false, false, false, false, true, false, false] rfl rfl (one_of HT_.out (by kernel_rfl)) (by decide) (fun K hK => ?_)
  refine gO Try.func27 #[] ?_
  with_reducible refine (slotmeshlaw12_layout.calls  t184 t185 _ A11.out).mono ?_
  rintro e w74 ⟨rfl, hb⟩
  refine ⟨_, rfl, ?_⟩
  replace HO140 := tR HO140 hb
  replace HO143 := tR HO143 hb
  replace HO146 := tR HO146 hb
  replace HO155 := tR HO155 hb
  replace HO158 := tR HO158 hb
  replace HO161 := tR HO161 hb
  replace HO168 := tR HO168 hb
  replace HO175 := tR HO175 hb
  replace HO178 := tR HO178 hb
  replace HO181 := tR HO181 hb
  replace BK148 := tB BK148 hb
  replace BK163 := tB BK163 hb
  replace BK183 := tB BK183 hb
  replace BK198 := tB BK198 hb
  replace HB := tW HB hb
  (try clear hb)
  (try clear hb2)
  (try clear hk)
  (try clear hi)
  refine hK.out _ _ ⟨bt BK148 0, bt BK148 1, bt BK148 2⟩ (fun hHeld => ?_)
  clear hK K
  refine norm_ (a' := ?_) ?_ ?_
  rotate_left
  ·show Act.put _ (some 38) _ = _
   simp only [Act.put, List.setIfInBounds_toArray, List.set_cons_zero, List.set_cons_succ, i64_w, i32_w]
   rfl
  refine one_ (i := 2) (N := some 39) #[true, true, true, false, false, false, false, false, true, false, false] rfl rfl (one_of HT_.out (by kernel_rfl)) (by decide) (fun K hK => ?_)
  refine gO Try.func28 #[.int .i64 4, .int .i64 5] ?_
  with_reducible refine (slotmeshlaw12_cell.calls 4 5 t186 t187 _ A12.out).mono ?_
  rintro e w75 ⟨rfl, hb⟩
  refine ⟨_, rfl, ?_⟩
  replace HO140 := tR HO140 hb
  replace HO143 := tR HO143 hb
  replace HO146 := tR HO146 hb
  replace HO155 := tR HO155 hb
  replace HO158 := tR HO158 hb
  replace HO161 := tR HO161 hb
  replace HO168 := tR HO168 hb
  replace HO175 := tR HO175 hb
  replace HO178 := tR HO178 hb
  replace HO181 := tR HO181 hb
  replace BK148 := tB BK148 hb
  replace BK163 := tB BK163 hb
  replace BK183 := tB BK183 hb
  replace BK198 := tB BK198 hb
  replace HB := tW HB hb
  (try clear hb)
  (try clear hb2)
  (try clear hk)
  (try clear hi)
  refine hK.out _ _ ⟨bt BK148 0, bt BK148 1, bt BK148 2⟩ (fun hHeld => ?_)
  clear hK K
  refine norm_ (a' := ?_) ?_ ?_
  rotate_left
  ·show Act.put _ (some 39) _ = _
   simp only [Act.put, List.setIfInBounds_toArray, List.set_cons_zero, List.set_cons_succ, i64_w, i32_w]
   rfl
  refine run_ [(3, some 40)] ?_
  refine runP (v := ?_) (a' := ?_) rfl rfl (any_of HT_.out (by kernel_rfl)) (fun _ _ _ h => h) (Or.inl ⟨by rfl, ?_⟩) ?_ ?_; rotate_left; (· intro w'; go_simp; with_reducible rfl); rotate_left; (· simp only [Act.put, List.setIfInBounds_toArray, List.set_cons_zero, List.set_cons_succ, i64_w, i32_w]; rfl)
  refine runE ?_
  refine one_ (i := 4) (N := some 41) #[true, true, true, true, true, false, false, false, true, false, false] rfl rfl (one_of HT_.out (by kernel_rfl)) (by decide) (fun K hK => ?_)
  refine gO Try.func12 #[.agg #[.slice Ao40 t138.length co40, .slice Ao42 t141.length co42, .slice Ao43 t144.length co43], .agg #[.int .i64 t184, .int .i64 t185], .agg #[.int .i64 t186, .int .i64 t187, .int .i64 0, .int .i64 0]] ?_
  with_reducible refine (cells_AddUse.calls _ _ t138 _ _ t141 _ _ t144 t184 t185 t186 t187 0 0 t188 t191 t194 t197 _ ?side1 ?side2 ?side3 ?side4 ?side5 ?side6 A13.out).mono ?_
  (case side1 => exact sC (Kd.R_reads' HO140.out).2.2)
  (case side2 => exact (Kd.R_reads' HO140.out).2.1)
  (case side3 => exact sC (Kd.R_reads' HO143.out).2.2)
  (case side4 => exact (Kd.R_reads' HO143.out).2.1)
  (case side5 => exact sC (Kd.R_reads' HO146.out).2.2)
  (case side6 => exact (Kd.R_reads' HO146.out).2.1)
  rintro e w76 ⟨v189, v192, v195, rfl, ho0, ho1, ho2, hb⟩
  refine ⟨_, rfl, ?_⟩
  have HO190 := Aside0.mk (Kd.R_lower (Kd.R_new' (Kd.R_new' (Kd.R_new' ho0 (Kd.R_lt (sR HO140))) (Kd.R_lt (sR HO155))) (Kd.R_lt (sR HO175))) (below_size (sW HB)))
  replace HO140 := eR HO140 ho0 hb
  replace HO155 := eR HO155 ho0 hb
  replace HO175 := eR HO175 ho0 hb
  have HO193 := Aside0.mk (Kd.R_lower (Kd.R_new' (Kd.R_new' (Kd.R_new' ho1 (Kd.R_lt (sR HO143))) (Kd.R_lt (sR HO158))) (Kd.R_lt (sR HO178))) (below_size (sW HB)))
  replace HO143 := eR HO143 ho1 hb
  replace HO158 := eR HO158 ho1 hb
  replace HO178 := eR HO178 ho1 hb
  have HO196 := Aside0.mk (Kd.R_lower (Kd.R_new' (Kd.R_new' (Kd.R_new' (Kd.R_new' ho2 (Kd.R_lt (sR HO146))) (Kd.R_lt (sR HO161))) (Kd.R_lt (sR HO168))) (Kd.R_lt (sR HO181))) (below_size (sW HB)))
  replace HO146 := eR HO146 ho2 hb
  replace HO161 := eR HO161 ho2 hb
  replace HO168 := eR HO168 ho2 hb
  replace HO181 := eR HO181 ho2 hb
  replace BK148 := tB BK148 hb
  replace BK163 := tB BK163 hb
  replace BK183 := tB BK183 hb
  replace BK198 := tB BK198 hb
  replace HB := tW HB hb
  (try clear hb)
  (try clear hb2)
  (try clear hk)
  (try clear hi)
  (try clear ho0)
  (try clear ho1)
  (try clear ho2)
  refine hK.out _ _ ⟨bt BK148 0, bt BK148 1, bt BK148 2⟩ (fun hHeld => ?_)
  clear hK K
  refine norm_ (a' := ?_) ?_ ?_
  rotate_left
  ·show Act.put _ (some 41) _ = _
   simp only [Act.put, List.setIfInBounds_toArray, List.set_cons_zero, List.set_cons_succ, i64_w, i32_w]
   rfl
  refine run_ [(5, some 36), (6, some 42), (7, some 43)] ?_
  iterate 3 (refine runP (v := ?_) (a' := ?_) rfl rfl (any_of HT_.out (by kernel_rfl)) (fun _ _ _ h => h) (Or.inl ⟨by rfl, ?_⟩) ?_ ?_; rotate_left; (· intro w'; go_simp; with_reducible rfl); rotate_left; (· simp only [Act.put, List.setIfInBounds_toArray, List.set_cons_zero, List.set_cons_succ, i64_w, i32_w]; rfl))
  refine runE ?_
  exact norm_ (by simp only [putAll, Act.put, List.setIfInBounds_toArray, List.set_cons_zero, List.set_cons_succ]) (hCont (v189, v192, v195, gb198) _ ⟨hHeld, (mR (by exact Kd.R_mono HO140.out (fun _ hk => ⟨hk.1.1, ⟨hk.1.2, hk.2⟩⟩))), (mR (by exact Kd.R_mono HO143.out (fun _ hk => ⟨hk.1.1, ⟨hk.1.2, hk.2⟩⟩))), (mR (by exact Kd.R_mono HO146.out (fun _ hk => ⟨hk.1.1, ⟨hk.1.2.1, ⟨hk.1.2.2, hk.2⟩⟩⟩))), (mR (by exact Kd.R_mono HO155.out (fun _ hk => ⟨hk.1.1, ⟨hk.1.2, hk.2⟩⟩))), (mR (by exact Kd.R_mono HO158.out (fun _ hk => ⟨hk.1.1, ⟨hk.1.2, hk.2⟩⟩))), (mR (by exact Kd.R_mono HO161.out (fun _ hk => ⟨hk.1.1, ⟨hk.1.2.1, ⟨hk.1.2.2, hk.2⟩⟩⟩))), (mR (by exact Kd.R_mono HO168.out (fun _ hk => ⟨hk.1.1, ⟨hk.1.2.1, ⟨hk.1.2.2, hk.2⟩⟩⟩))), (mR (by exact Kd.R_mono HO175.out (fun _ hk => ⟨hk.1.1, ⟨hk.1.2, hk.2⟩⟩))), (mR (by exact Kd.R_mono HO178.out (fun _ hk => ⟨hk.1.1, ⟨hk.1.2, hk.2⟩⟩))), (mR (by exact Kd.R_mono HO181.out (fun _ hk => ⟨hk.1.1, ⟨hk.1.2.1, ⟨hk.1.2.2, hk.2⟩⟩⟩))), (mR (by exact Kd.R_mono HO190.out (fun _ hk => ⟨hk.1.1.2, ⟨hk.1.2, hk.2⟩⟩))), (mR (by exact Kd.R_mono HO193.out (fun _ hk => ⟨hk.1.1.2, ⟨hk.1.2, hk.2⟩⟩))), (mR (by exact Kd.R_mono HO196.out (fun _ hk => ⟨hk.1.1.1.2, ⟨hk.1.1.2, ⟨hk.1.2, hk.2⟩⟩⟩))), (sB BK148), (sB BK163), (sB BK183), (sB BK198), GW198.out, GE198.out, NB148_198.out, NB198_148.out, NB163_198.out, NB198_163.out, NB183_198.out, NB198_183.out, (sW HB)⟩)
 rintro ⟨v189, v192, v195, gb198⟩ w77 ⟨hS_, h0_, h1_, h2_, h3_, h4_, h5_, h6_, h7_, h8_, h9_, h10_, h11_, h12_, h13_, h14_, h15_, h16_, h17_, h18_, h19_, h20_, h21_, h22_, h23_, h24_, h25_⟩
 have n0_ : Aside0 (Kd.R k32 32 w77 w.heap.size (fun k_ => some k_ ≠ (.slice Ao51 t153.length co51 : Value).ownBlock ∧ some k_ ≠ (.slice Ao65 t173.length co65 : Value).ownBlock ∧ some k_ ≠ (v189 : Value).ownBlock) (.slice Ao40 t138.length co40) t138) := ⟨h0_⟩
 have n1_ : Aside0 (Kd.R k34 34 w77 w.heap.size (fun k_ => some k_ ≠ (.slice Ao53 t156.length co53 : Value).ownBlock ∧ some k_ ≠ (.slice Ao69 t176.length co69 : Value).ownBlock ∧ some k_ ≠ (v192 : Value).ownBlock) (.slice Ao42 t141.length co42) t141) := ⟨h1_⟩
 have n2_ : Aside0 (Kd.R k51 51 w77 w.heap.size (fun k_ => some k_ ≠ (.slice Ao55 t159.length co55 : Value).ownBlock ∧ some k_ ≠ (.slice Ao60 y166.length co60 : Value).ownBlock ∧ some k_ ≠ (.slice Ao70 t179.length co70 : Value).ownBlock ∧ some k_ ≠ (v195 : Value).ownBlock) (.slice Ao43 t144.length co43) t144) := ⟨h2_⟩
 have n3_ : Aside0 (Kd.R k32 32 w77 w.heap.size (fun k_ => some k_ ≠ (.slice Ao40 t138.length co40 : Value).ownBlock ∧ some k_ ≠ (.slice Ao65 t173.length co65 : Value).ownBlock ∧ some k_ ≠ (v189 : Value).ownBlock) (.slice Ao51 t153.length co51) t153) := ⟨h3_⟩
 have n4_ : Aside0 (Kd.R k34 34 w77 w.heap.size (fun k_ => some k_ ≠ (.slice Ao42 t141.length co42 : Value).ownBlock ∧ some k_ ≠ (.slice Ao69 t176.length co69 : Value).ownBlock ∧ some k_ ≠ (v192 : Value).ownBlock) (.slice Ao53 t156.length co53) t156) := ⟨h4_⟩
 have n5_ : Aside0 (Kd.R k51 51 w77 w.heap.size (fun k_ => some k_ ≠ (.slice Ao43 t144.length co43 : Value).ownBlock ∧ some k_ ≠ (.slice Ao60 y166.length co60 : Value).ownBlock ∧ some k_ ≠ (.slice Ao70 t179.length co70 : Value).ownBlock ∧ some k_ ≠ (v195 : Value).ownBlock) (.slice Ao55 t159.length co55) t159) := ⟨h5_⟩
 have n6_ : Aside0 (Kd.R k51 51 w77 w.heap.size (fun k_ => some k_ ≠ (.slice Ao43 t144.length co43 : Value).ownBlock ∧ some k_ ≠ (.slice Ao55 t159.length co55 : Value).ownBlock ∧ some k_ ≠ (.slice Ao70 t179.length co70 : Value).ownBlock ∧ some k_ ≠ (v195 : Value).ownBlock) (.slice Ao60 y166.length co60) y166) := ⟨h6_⟩
 have n7_ : Aside0 (Kd.R k32 32 w77 w.heap.size (fun k_ => some k_ ≠ (.slice Ao40 t138.length co40 : Value).ownBlock ∧ some k_ ≠ (.slice Ao51 t153.length co51 : Value).ownBlock ∧ some k_ ≠ (v189 : Value).ownBlock) (.slice Ao65 t173.length co65) t173) := ⟨h7_⟩
 have n8_ : Aside0 (Kd.R k34 34 w77 w.heap.size (fun k_ => some k_ ≠ (.slice Ao42 t141.length co42 : Value).ownBlock ∧ some k_ ≠ (.slice Ao53 t156.length co53 : Value).ownBlock ∧ some k_ ≠ (v192 : Value).ownBlock) (.slice Ao69 t176.length co69) t176) := ⟨h8_⟩
 have n9_ : Aside0 (Kd.R k51 51 w77 w.heap.size (fun k_ => some k_ ≠ (.slice Ao43 t144.length co43 : Value).ownBlock ∧ some k_ ≠ (.slice Ao55 t159.length co55 : Value).ownBlock ∧ some k_ ≠ (.slice Ao60 y166.length co60 : Value).ownBlock ∧ some k_ ≠ (v195 : Value).ownBlock) (.slice Ao70 t179.length co70) t179) := ⟨h9_⟩
 have n10_ : Aside0 (Kd.R k32 32 w77 w.heap.size (fun k_ => some k_ ≠ (.slice Ao40 t138.length co40 : Value).ownBlock ∧ some k_ ≠ (.slice Ao51 t153.length co51 : Value).ownBlock ∧ some k_ ≠ (.slice Ao65 t173.length co65 : Value).ownBlock) v189 t188) := ⟨h10_⟩
 have n11_ : Aside0 (Kd.R k34 34 w77 w.heap.size (fun k_ => some k_ ≠ (.slice Ao42 t141.length co42 : Value).ownBlock ∧ some k_ ≠ (.slice Ao53 t156.length co53 : Value).ownBlock ∧ some k_ ≠ (.slice Ao69 t176.length co69 : Value).ownBlock) v192 t191) := ⟨h11_⟩
 have n12_ : Aside0 (Kd.R k51 51 w77 w.heap.size (fun k_ => some k_ ≠ (.slice Ao43 t144.length co43 : Value).ownBlock ∧ some k_ ≠ (.slice Ao55 t159.length co55 : Value).ownBlock ∧ some k_ ≠ (.slice Ao60 y166.length co60 : Value).ownBlock ∧ some k_ ≠ (.slice Ao70 t179.length co70 : Value).ownBlock) v195 t194) := ⟨h12_⟩
 have n13_ : Aside0 (w77.heap[gb148]? = some (.cells #[.slice Ao40 t138.length co40, .slice Ao42 t141.length co42, .slice Ao43 t144.length co43] 26 (0, 0))) := ⟨h13_⟩
 have n14_ : Aside0 (w77.heap[gb163]? = some (.cells #[.slice Ao51 t153.length co51, .slice Ao53 t156.length co53, .slice Ao55 t159.length co55] 26 (0, 0))) := ⟨h14_⟩
 have n15_ : Aside0 (w77.heap[gb183]? = some (.cells #[.slice Ao65 t173.length co65, .slice Ao69 t176.length co69, .slice Ao70 t179.length co70] 26 (0, 0))) := ⟨h15_⟩
 have n16_ : Aside0 (w77.heap[gb198]? = some (.cells #[.slice none 0 0, .slice none 0 0, .slice none 0 0] 26 (0, 0))) := ⟨h16_⟩
 have n17_ : Aside0 (w.heap.size ≤ gb198) := ⟨h17_⟩
 have n18_ : Aside0 (w.heap.size ≤ gb198) := ⟨h18_⟩
 have n19_ : Aside0 (gb148 ≠ gb198) := ⟨h19_⟩
 have n20_ : Aside0 (gb198 ≠ gb148) := ⟨h20_⟩
 have n21_ : Aside0 (gb163 ≠ gb198) := ⟨h21_⟩
 have n22_ : Aside0 (gb198 ≠ gb163) := ⟨h22_⟩
 have n23_ : Aside0 (gb183 ≠ gb198) := ⟨h23_⟩
 have n24_ : Aside0 (gb198 ≠ gb183) := ⟨h24_⟩
 have n25_ : Aside0 (Below w.heap.size w w77) := ⟨h25_⟩
 clear HO140
 clear HO143
 clear HO146
 clear HO155
 clear HO158
 clear HO161
 clear HO168
 clear HO175
 clear HO178
 clear HO181
 clear BK148
 clear BK163
 clear BK183
 clear HB
 clear h0_ h1_ h2_ h3_ h4_ h5_ h6_ h7_ h8_ h9_ h10_ h11_ h12_ h13_ h14_ h15_ h16_ h17_ h18_ h19_ h20_ h21_ h22_ h23_ h24_ h25_
 have HO140 := n0_
 have HO143 := n1_
 have HO146 := n2_
 have HO155 := n3_
 have HO158 := n4_
 have HO161 := n5_
 have HO168 := n6_
 have HO175 := n7_
 have HO178 := n8_
 have HO181 := n9_
 have HO190 := n10_
 have HO193 := n11_
 have HO196 := n12_
 have BK148 := n13_
 have BK163 := n14_
 have BK183 := n15_
 have BK198 := n16_
 have GW198 := n17_
 have GE198 := n18_
 have NB148_198 := n19_
 have NB198_148 := n20_
 have NB163_198 := n21_
 have NB198_163 := n22_
 have NB183_198 := n23_
 have NB198_183 := n24_
 have HB := n25_
 clear n0_ n1_ n2_ n3_ n4_ n5_ n6_ n7_ n8_ n9_ n10_ n11_ n12_ n13_ n14_ n15_ n16_ n17_ n18_ n19_ n20_ n21_ n22_ n23_ n24_ n25_
 have hHeld : w77.cell? ⟨gb148, 0, none⟩ = some (.slice Ao40 t138.length co40) ∧ w77.cell? ⟨gb148, 1, none⟩ = some (.slice Ao42 t141.length co42) ∧ w77.cell? ⟨gb148, 2, none⟩ = some (.slice Ao43 t144.length co43) := hS_
 obtain ⟨Ao78, co78, eo78⟩ := Kd.R_slice HO190.out
 (first | subst eo78 | (injection eo78 with f1_ f2_ f3_; have f4_ := f1_.symm; have f5_ := f3_.symm; clear f1_ f2_ f3_; subst f4_; subst f5_))
 obtain ⟨Ao80, co80, eo80⟩ := Kd.R_slice HO193.out
 (first | subst eo80 | (injection eo80 with f1_ f2_ f3_; have f4_ := f1_.symm; have f5_ := f3_.symm; clear f1_ f2_ f3_; subst f4_; subst f5_))
 obtain ⟨Ao82, co82, eo82⟩ := Kd.R_slice HO196.out
 (first | subst eo82 | (injection eo82 with f1_ f2_ f3_; have f4_ := f1_.symm; have f5_ := f3_.symm; clear f1_ f2_ f3_; subst f4_; subst f5_))
 refine norm_ (a' := ?_) ?_ ?_
 rotate_left
 ·simp only [putAll, Act.put, List.setIfInBounds_toArray, List.set_cons_zero, List.set_cons_succ]
  rfl
 refine one_ (i := 9) (N := none) #[true, true, true, true, true, true, true, true, true, true, false] rfl rfl (one_of HT_.out (by kernel_rfl)) (by decide) (fun K hK => ?_)
 have hs79 : w77.cell? ⟨gb198, 0, none⟩ = some (.slice none 0 0) := bt BK198 0
 have hfs79 := blk_frozen BK198.out 0
 have hns79_0 := NB148_198.out
 have hns79_1 := NB163_198.out
 have hns79_2 := NB183_198.out
 have hms79_0 := NB198_148.out
 have hms79_1 := NB198_163.out
 have hms79_2 := NB198_183.out
 have hs81 : w77.cell? ⟨gb198, 1, none⟩ = some (.slice none 0 0) := bt BK198 1
 have hfs81 := blk_frozen BK198.out 1
 have hns81_0 := NB148_198.out
 have hns81_1 := NB163_198.out
 have hns81_2 := NB183_198.out
 have hms81_0 := NB198_148.out
 have hms81_1 := NB198_163.out
 have hms81_2 := NB198_183.out
 have hs83 : w77.cell? ⟨gb198, 2, none⟩ = some (.slice none 0 0) := bt BK198 2
 have hfs83 := blk_frozen BK198.out 2
 have hns83_0 := NB148_198.out
 have hns83_1 := NB163_198.out
 have hns83_2 := NB183_198.out
 have hms83_0 := NB198_148.out
 have hms83_1 := NB198_163.out
 have hms83_2 := NB198_183.out
 refine skip_ (w1 := ?_) (by rfl) rfl ?_ ?_
 rotate_left
 ·go_simp
  rfl
 refine hK.out _ _ ⟨((cell_far (p := ⟨gb198, _, none⟩) NB148_198.out _).trans (((cell_far (p := ⟨gb198, _, none⟩) NB148_198.out _).trans (((cell_far (p := ⟨gb198, _, none⟩) NB148_198.out _).trans (hHeld.1)))))), ((cell_far (p := ⟨gb198, _, none⟩) NB148_198.out _).trans (((cell_far (p := ⟨gb198, _, none⟩) NB148_198.out _).trans (((cell_far (p := ⟨gb198, _, none⟩) NB148_198.out _).trans (hHeld.2.1)))))), ((cell_far (p := ⟨gb198, _, none⟩) NB148_198.out _).trans (((cell_far (p := ⟨gb198, _, none⟩) NB148_198.out _).trans (((cell_far (p := ⟨gb198, _, none⟩) NB148_198.out _).trans (hHeld.2.2))))))⟩ (fun hHeld => ?_)
 clear hK K
 refine run_ [(10, some 8)] ?_
 refine runP (v := ?_) (a' := ?_) rfl rfl (any_of HT_.out (by kernel_rfl)) (fun _ _ _ h => h) (Or.inl ⟨by rfl, ?_⟩) ?_ ?_; rotate_left; (· intro w'; go_simp; with_reducible rfl); rotate_left; (· simp only [Act.put, List.setIfInBounds_toArray, List.set_cons_zero, List.set_cons_succ, i64_w, i32_w]; rfl)
 refine runE ?_
 refine done_ (done_of HT_.out (by kernel_rfl)) ?_
 try go_wp2
 have n0_ : Aside0 (Kd.R k32 32 (((w77.setCell ⟨gb198, 0, none⟩ (.slice Ao78 t188.length co78)).setCell ⟨gb198, 1, none⟩ (.slice Ao80 t191.length co80)).setCell ⟨gb198, 2, none⟩ (.slice Ao82 t194.length co82)) w.heap.size (fun k_ => some k_ ≠ (.slice Ao51 t153.length co51 : Value).ownBlock ∧ some k_ ≠ (.slice Ao65 t173.length co65 : Value).ownBlock ∧ some k_ ≠ (.slice Ao78 t188.length co78 : Value).ownBlock) (.slice Ao40 t138.length co40) t138) := ⟨mR (by exact Kd.R_mono (Kd.R_far (p := ⟨gb198, 2, none⟩) (Kd.R_far (p := ⟨gb198, 1, none⟩) (Kd.R_far (p := ⟨gb198, 0, none⟩) (Kd.R_types HO140.out BK198.out (by decide)) (fun _ hk => hk.2) (.slice Ao78 t188.length co78)) (fun _ hk => hk.2) (.slice Ao80 t191.length co80)) (fun _ hk => hk.2) (.slice Ao82 t194.length co82)) (fun _ hk => ⟨hk.1.1, ⟨hk.1.2.1, hk.1.2.2⟩⟩))⟩
 have n1_ : Aside0 (Kd.R k34 34 (((w77.setCell ⟨gb198, 0, none⟩ (.slice Ao78 t188.length co78)).setCell ⟨gb198, 1, none⟩ (.slice Ao80 t191.length co80)).setCell ⟨gb198, 2, none⟩ (.slice Ao82 t194.length co82)) w.heap.size (fun k_ => some k_ ≠ (.slice Ao53 t156.length co53 : Value).ownBlock ∧ some k_ ≠ (.slice Ao69 t176.length co69 : Value).ownBlock ∧ some k_ ≠ (.slice Ao80 t191.length co80 : Value).ownBlock) (.slice Ao42 t141.length co42) t141) := ⟨mR (by exact Kd.R_mono (Kd.R_far (p := ⟨gb198, 2, none⟩) (Kd.R_far (p := ⟨gb198, 1, none⟩) (Kd.R_far (p := ⟨gb198, 0, none⟩) (Kd.R_types HO143.out BK198.out (by decide)) (fun _ hk => hk.2) (.slice Ao78 t188.length co78)) (fun _ hk => hk.2) (.slice Ao80 t191.length co80)) (fun _ hk => hk.2) (.slice Ao82 t194.length co82)) (fun _ hk => ⟨hk.1.1, ⟨hk.1.2.1, hk.1.2.2⟩⟩))⟩
 have n2_ : Aside0 (Kd.R k51 51 (((w77.setCell ⟨gb198, 0, none⟩ (.slice Ao78 t188.length co78)).setCell ⟨gb198, 1, none⟩ (.slice Ao80 t191.length co80)).setCell ⟨gb198, 2, none⟩ (.slice Ao82 t194.length co82)) w.heap.size (fun k_ => some k_ ≠ (.slice Ao55 t159.length co55 : Value).ownBlock ∧ some k_ ≠ (.slice Ao60 y166.length co60 : Value).ownBlock ∧ some k_ ≠ (.slice Ao70 t179.length co70 : Value).ownBlock ∧ some k_ ≠ (.slice Ao82 t194.length co82 : Value).ownBlock) (.slice Ao43 t144.length co43) t144) := ⟨mR (by exact Kd.R_mono (Kd.R_far (p := ⟨gb198, 2, none⟩) (Kd.R_far (p := ⟨gb198, 1, none⟩) (Kd.R_far (p := ⟨gb198, 0, none⟩) (Kd.R_types HO146.out BK198.out (by decide)) (fun _ hk => hk.2) (.slice Ao78 t188.length co78)) (fun _ hk => hk.2) (.slice Ao80 t191.length co80)) (fun _ hk => hk.2) (.slice Ao82 t194.length co82)) (fun _ hk => ⟨hk.1.1, ⟨hk.1.2.1, ⟨hk.1.2.2.1, hk.1.2.2.2⟩⟩⟩))⟩
 have n3_ : Aside0 (Kd.R k32 32 (((w77.setCell ⟨gb198, 0, none⟩ (.slice Ao78 t188.length co78)).setCell ⟨gb198, 1, none⟩ (.slice Ao80 t191.length co80)).setCell ⟨gb198, 2, none⟩ (.slice Ao82 t194.length co82)) w.heap.size (fun k_ => some k_ ≠ (.slice Ao40 t138.length co40 : Value).ownBlock ∧ some k_ ≠ (.slice Ao65 t173.length co65 : Value).ownBlock ∧ some k_ ≠ (.slice Ao78 t188.length co78 : Value).ownBlock) (.slice Ao51 t153.length co51) t153) := ⟨mR (by exact Kd.R_mono (Kd.R_far (p := ⟨gb198, 2, none⟩) (Kd.R_far (p := ⟨gb198, 1, none⟩) (Kd.R_far (p := ⟨gb198, 0, none⟩) (Kd.R_types HO155.out BK198.out (by decide)) (fun _ hk => hk.2) (.slice Ao78 t188.length co78)) (fun _ hk => hk.2) (.slice Ao80 t191.length co80)) (fun _ hk => hk.2) (.slice Ao82 t194.length co82)) (fun _ hk => ⟨hk.1.1, ⟨hk.1.2.1, hk.1.2.2⟩⟩))⟩
 have n4_ : Aside0 (Kd.R k34 34 (((w77.setCell ⟨gb198, 0, none⟩ (.slice Ao78 t188.length co78)).setCell ⟨gb198, 1, none⟩ (.slice Ao80 t191.length co80)).setCell ⟨gb198, 2, none⟩ (.slice Ao82 t194.length co82)) w.heap.size (fun k_ => some k_ ≠ (.slice Ao42 t141.length co42 : Value).ownBlock ∧ some k_ ≠ (.slice Ao69 t176.length co69 : Value).ownBlock ∧ some k_ ≠ (.slice Ao80 t191.length co80 : Value).ownBlock) (.slice Ao53 t156.length co53) t156) := ⟨mR (by exact Kd.R_mono (Kd.R_far (p := ⟨gb198, 2, none⟩) (Kd.R_far (p := ⟨gb198, 1, none⟩) (Kd.R_far (p := ⟨gb198, 0, none⟩) (Kd.R_types HO158.out BK198.out (by decide)) (fun _ hk => hk.2) (.slice Ao78 t188.length co78)) (fun _ hk => hk.2) (.slice Ao80 t191.length co80)) (fun _ hk => hk.2) (.slice Ao82 t194.length co82)) (fun _ hk => ⟨hk.1.1, ⟨hk.1.2.1, hk.1.2.2⟩⟩))⟩
 have n5_ : Aside0 (Kd.R k51 51 (((w77.setCell ⟨gb198, 0, none⟩ (.slice Ao78 t188.length co78)).setCell ⟨gb198, 1, none⟩ (.slice Ao80 t191.length co80)).setCell ⟨gb198, 2, none⟩ (.slice Ao82 t194.length co82)) w.heap.size (fun k_ => some k_ ≠ (.slice Ao43 t144.length co43 : Value).ownBlock ∧ some k_ ≠ (.slice Ao60 y166.length co60 : Value).ownBlock ∧ some k_ ≠ (.slice Ao70 t179.length co70 : Value).ownBlock ∧ some k_ ≠ (.slice Ao82 t194.length co82 : Value).ownBlock) (.slice Ao55 t159.length co55) t159) := ⟨mR (by exact Kd.R_mono (Kd.R_far (p := ⟨gb198, 2, none⟩) (Kd.R_far (p := ⟨gb198, 1, none⟩) (Kd.R_far (p := ⟨gb198, 0, none⟩) (Kd.R_types HO161.out BK198.out (by decide)) (fun _ hk => hk.2) (.slice Ao78 t188.length co78)) (fun _ hk => hk.2) (.slice Ao80 t191.length co80)) (fun _ hk => hk.2) (.slice Ao82 t194.length co82)) (fun _ hk => ⟨hk.1.1, ⟨hk.1.2.1, ⟨hk.1.2.2.1, hk.1.2.2.2⟩⟩⟩))⟩
 have n6_ : Aside0 (Kd.R k51 51 (((w77.setCell ⟨gb198, 0, none⟩ (.slice Ao78 t188.length co78)).setCell ⟨gb198, 1, none⟩ (.slice Ao80 t191.length co80)).setCell ⟨gb198, 2, none⟩ (.slice Ao82 t194.length co82)) w.heap.size (fun k_ => some k_ ≠ (.slice Ao43 t144.length co43 : Value).ownBlock ∧ some k_ ≠ (.slice Ao55 t159.length co55 : Value).ownBlock ∧ some k_ ≠ (.slice Ao70 t179.length co70 : Value).ownBlock ∧ some k_ ≠ (.slice Ao82 t194.length co82 : Value).ownBlock) (.slice Ao60 y166.length co60) y166) := ⟨mR (by exact Kd.R_mono (Kd.R_far (p := ⟨gb198, 2, none⟩) (Kd.R_far (p := ⟨gb198, 1, none⟩) (Kd.R_far (p := ⟨gb198, 0, none⟩) (Kd.R_types HO168.out BK198.out (by decide)) (fun _ hk => hk.2) (.slice Ao78 t188.length co78)) (fun _ hk => hk.2) (.slice Ao80 t191.length co80)) (fun _ hk => hk.2) (.slice Ao82 t194.length co82)) (fun _ hk => ⟨hk.1.1, ⟨hk.1.2.1, ⟨hk.1.2.2.1, hk.1.2.2.2⟩⟩⟩))⟩
 have n7_ : Aside0 (Kd.R k32 32 (((w77.setCell ⟨gb198, 0, none⟩ (.slice Ao78 t188.length co78)).setCell ⟨gb198, 1, none⟩ (.slice Ao80 t191.length co80)).setCell ⟨gb198, 2, none⟩ (.slice Ao82 t194.length co82)) w.heap.size (fun k_ => some k_ ≠ (.slice Ao40 t138.length co40 : Value).ownBlock ∧ some k_ ≠ (.slice Ao51 t153.length co51 : Value).ownBlock ∧ some k_ ≠ (.slice Ao78 t188.length co78 : Value).ownBlock) (.slice Ao65 t173.length co65) t173) := ⟨mR (by exact Kd.R_mono (Kd.R_far (p := ⟨gb198, 2, none⟩) (Kd.R_far (p := ⟨gb198, 1, none⟩) (Kd.R_far (p := ⟨gb198, 0, none⟩) (Kd.R_types HO175.out BK198.out (by decide)) (fun _ hk => hk.2) (.slice Ao78 t188.length co78)) (fun _ hk => hk.2) (.slice Ao80 t191.length co80)) (fun _ hk => hk.2) (.slice Ao82 t194.length co82)) (fun _ hk => ⟨hk.1.1, ⟨hk.1.2.1, hk.1.2.2⟩⟩))⟩
 have n8_ : Aside0 (Kd.R k34 34 (((w77.setCell ⟨gb198, 0, none⟩ (.slice Ao78 t188.length co78)).setCell ⟨gb198, 1, none⟩ (.slice Ao80 t191.length co80)).setCell ⟨gb198, 2, none⟩ (.slice Ao82 t194.length co82)) w.heap.size (fun k_ => some k_ ≠ (.slice Ao42 t141.length co42 : Value).ownBlock ∧ some k_ ≠ (.slice Ao53 t156.length co53 : Value).ownBlock ∧ some k_ ≠ (.slice Ao80 t191.length co80 : Value).ownBlock) (.slice Ao69 t176.length co69) t176) := ⟨mR (by exact Kd.R_mono (Kd.R_far (p := ⟨gb198, 2, none⟩) (Kd.R_far (p := ⟨gb198, 1, none⟩) (Kd.R_far (p := ⟨gb198, 0, none⟩) (Kd.R_types HO178.out BK198.out (by decide)) (fun _ hk => hk.2) (.slice Ao78 t188.length co78)) (fun _ hk => hk.2) (.slice Ao80 t191.length co80)) (fun _ hk => hk.2) (.slice Ao82 t194.length co82)) (fun _ hk => ⟨hk.1.1, ⟨hk.1.2.1, hk.1.2.2⟩⟩))⟩
 have n9_ : Aside0 (Kd.R k51 51 (((w77.setCell ⟨gb198, 0, none⟩ (.slice Ao78 t188.length co78)).setCell ⟨gb198, 1, none⟩ (.slice Ao80 t191.length co80)).setCell ⟨gb198, 2, none⟩ (.slice Ao82 t194.length co82)) w.heap.size (fun k_ => some k_ ≠ (.slice Ao43 t144.length co43 : Value).ownBlock ∧ some k_ ≠ (.slice Ao55 t159.length co55 : Value).ownBlock ∧ some k_ ≠ (.slice Ao60 y166.length co60 : Value).ownBlock ∧ some k_ ≠ (.slice Ao82 t194.length co82 : Value).ownBlock) (.slice Ao70 t179.length co70) t179) := ⟨mR (by exact Kd.R_mono (Kd.R_far (p := ⟨gb198, 2, none⟩) (Kd.R_far (p := ⟨gb198, 1, none⟩) (Kd.R_far (p := ⟨gb198, 0, none⟩) (Kd.R_types HO181.out BK198.out (by decide)) (fun _ hk => hk.2) (.slice Ao78 t188.length co78)) (fun _ hk => hk.2) (.slice Ao80 t191.length co80)) (fun _ hk => hk.2) (.slice Ao82 t194.length co82)) (fun _ hk => ⟨hk.1.1, ⟨hk.1.2.1, ⟨hk.1.2.2.1, hk.1.2.2.2⟩⟩⟩))⟩
 have n10_ : Aside0 (Kd.R k32 32 (((w77.setCell ⟨gb198, 0, none⟩ (.slice Ao78 t188.length co78)).setCell ⟨gb198, 1, none⟩ (.slice Ao80 t191.length co80)).setCell ⟨gb198, 2, none⟩ (.slice Ao82 t194.length co82)) w.heap.size (fun k_ => some k_ ≠ (.slice Ao40 t138.length co40 : Value).ownBlock ∧ some k_ ≠ (.slice Ao51 t153.length co51 : Value).ownBlock ∧ some k_ ≠ (.slice Ao65 t173.length co65 : Value).ownBlock) (.slice Ao78 t188.length co78) t188) := ⟨mR (by exact Kd.R_mono (Kd.R_far (p := ⟨gb198, 2, none⟩) (Kd.R_far (p := ⟨gb198, 1, none⟩) (Kd.R_far (p := ⟨gb198, 0, none⟩) (Kd.R_types HO190.out BK198.out (by decide)) (fun _ hk => hk.2) (.slice Ao78 t188.length co78)) (fun _ hk => hk.2) (.slice Ao80 t191.length co80)) (fun _ hk => hk.2) (.slice Ao82 t194.length co82)) (fun _ hk => ⟨hk.1.1, ⟨hk.1.2.1, hk.1.2.2⟩⟩))⟩
 have n11_ : Aside0 (Kd.R k34 34 (((w77.setCell ⟨gb198, 0, none⟩ (.slice Ao78 t188.length co78)).setCell ⟨gb198, 1, none⟩ (.slice Ao80 t191.length co80)).setCell ⟨gb198, 2, none⟩ (.slice Ao82 t194.length co82)) w.heap.size (fun k_ => some k_ ≠ (.slice Ao42 t141.length co42 : Value).ownBlock ∧ some k_ ≠ (.slice Ao53 t156.length co53 : Value).ownBlock ∧ some k_ ≠ (.slice Ao69 t176.length co69 : Value).ownBlock) (.slice Ao80 t191.length co80) t191) := ⟨mR (by exact Kd.R_mono (Kd.R_far (p := ⟨gb198, 2, none⟩) (Kd.R_far (p := ⟨gb198, 1, none⟩) (Kd.R_far (p := ⟨gb198, 0, none⟩) (Kd.R_types HO193.out BK198.out (by decide)) (fun _ hk => hk.2) (.slice Ao78 t188.length co78)) (fun _ hk => hk.2) (.slice Ao80 t191.length co80)) (fun _ hk => hk.2) (.slice Ao82 t194.length co82)) (fun _ hk => ⟨hk.1.1, ⟨hk.1.2.1, hk.1.2.2⟩⟩))⟩
 have n12_ : Aside0 (Kd.R k51 51 (((w77.setCell ⟨gb198, 0, none⟩ (.slice Ao78 t188.length co78)).setCell ⟨gb198, 1, none⟩ (.slice Ao80 t191.length co80)).setCell ⟨gb198, 2, none⟩ (.slice Ao82 t194.length co82)) w.heap.size (fun k_ => some k_ ≠ (.slice Ao43 t144.length co43 : Value).ownBlock ∧ some k_ ≠ (.slice Ao55 t159.length co55 : Value).ownBlock ∧ some k_ ≠ (.slice Ao60 y166.length co60 : Value).ownBlock ∧ some k_ ≠ (.slice Ao70 t179.length co70 : Value).ownBlock) (.slice Ao82 t194.length co82) t194) := ⟨mR (by exact Kd.R_mono (Kd.R_far (p := ⟨gb198, 2, none⟩) (Kd.R_far (p := ⟨gb198, 1, none⟩) (Kd.R_far (p := ⟨gb198, 0, none⟩) (Kd.R_types HO196.out BK198.out (by decide)) (fun _ hk => hk.2) (.slice Ao78 t188.length co78)) (fun _ hk => hk.2) (.slice Ao80 t191.length co80)) (fun _ hk => hk.2) (.slice Ao82 t194.length co82)) (fun _ hk => ⟨hk.1.1, ⟨hk.1.2.1, ⟨hk.1.2.2.1, hk.1.2.2.2⟩⟩⟩))⟩
 have n13_ : Aside0 ((((w77.setCell ⟨gb198, 0, none⟩ (.slice Ao78 t188.length co78)).setCell ⟨gb198, 1, none⟩ (.slice Ao80 t191.length co80)).setCell ⟨gb198, 2, none⟩ (.slice Ao82 t194.length co82)).heap[gb148]? = some (.cells #[.slice Ao40 t138.length co40, .slice Ao42 t141.length co42, .slice Ao43 t144.length co43] 26 (0, 0))) := ⟨sB BK148⟩
 have n14_ : Aside0 ((((w77.setCell ⟨gb198, 0, none⟩ (.slice Ao78 t188.length co78)).setCell ⟨gb198, 1, none⟩ (.slice Ao80 t191.length co80)).setCell ⟨gb198, 2, none⟩ (.slice Ao82 t194.length co82)).heap[gb163]? = some (.cells #[.slice Ao51 t153.length co51, .slice Ao53 t156.length co53, .slice Ao55 t159.length co55] 26 (0, 0))) := ⟨sB BK163⟩
 have n15_ : Aside0 ((((w77.setCell ⟨gb198, 0, none⟩ (.slice Ao78 t188.length co78)).setCell ⟨gb198, 1, none⟩ (.slice Ao80 t191.length co80)).setCell ⟨gb198, 2, none⟩ (.slice Ao82 t194.length co82)).heap[gb183]? = some (.cells #[.slice Ao65 t173.length co65, .slice Ao69 t176.length co69, .slice Ao70 t179.length co70] 26 (0, 0))) := ⟨sB BK183⟩
 have n16_ : Aside0 ((((w77.setCell ⟨gb198, 0, none⟩ (.slice Ao78 t188.length co78)).setCell ⟨gb198, 1, none⟩ (.slice Ao80 t191.length co80)).setCell ⟨gb198, 2, none⟩ (.slice Ao82 t194.length co82)).heap[gb198]? = some (.cells #[.slice Ao78 t188.length co78, .slice Ao80 t191.length co80, .slice Ao82 t194.length co82] 26 (0, 0))) := ⟨by (with_reducible repeat (first | refine blk_drewN ?_ _ | refine blk_drew ?_ | refine blk_alloc ?_ _)); refine blk_put (cs := #[.slice Ao78 t188.length co78, .slice Ao80 t191.length co80, .slice none 0 0]) ?_ 2 _ rfl; (with_reducible repeat (first | refine blk_drewN ?_ _ | refine blk_drew ?_ | refine blk_alloc ?_ _)); refine blk_put (cs := #[.slice Ao78 t188.length co78, .slice none 0 0, .slice none 0 0]) ?_ 1 _ rfl; (with_reducible repeat (first | refine blk_drewN ?_ _ | refine blk_drew ?_ | refine blk_alloc ?_ _)); refine blk_put (cs := #[.slice none 0 0, .slice none 0 0, .slice none 0 0]) ?_ 0 _ rfl; (with_reducible repeat (first | refine blk_drewN ?_ _ | refine blk_drew ?_ | refine blk_alloc ?_ _)); exact BK198.out⟩
 have n17_ : Aside0 (Below w.heap.size w (((w77.setCell ⟨gb198, 0, none⟩ (.slice Ao78 t188.length co78)).setCell ⟨gb198, 1, none⟩ (.slice Ao80 t191.length co80)).setCell ⟨gb198, 2, none⟩ (.slice Ao82 t194.length co82))) := ⟨sW HB⟩
 (try clear HO140)
 (try clear HO143)
 (try clear HO146)
 (try clear HO155)
 (try clear HO158)
 (try clear HO161)
 (try clear HO168)
 (try clear HO175)
 (try clear HO178)
 (try clear HO181)
 (try clear HO190)
 (try clear HO193)
 (try clear HO196)
 (try clear BK148)
 (try clear BK163)
 (try clear BK183)
 (try clear BK198)
 (try clear HB)
 generalize (((w77.setCell ⟨gb198, 0, none⟩ (.slice Ao78 t188.length co78)).setCell ⟨gb198, 1, none⟩ (.slice Ao80 t191.length co80)).setCell ⟨gb198, 2, none⟩ (.slice Ao82 t194.length co82)) = w84 at n0_ n1_ n2_ n3_ n4_ n5_ n6_ n7_ n8_ n9_ n10_ n11_ n12_ n13_ n14_ n15_ n16_ n17_ ⊢
 have HO140 := n0_
 have HO143 := n1_
 have HO146 := n2_
 have HO155 := n3_
 have HO158 := n4_
 have HO161 := n5_
 have HO168 := n6_
 have HO175 := n7_
 have HO178 := n8_
 have HO181 := n9_
 have HO190 := n10_
 have HO193 := n11_
 have HO196 := n12_
 have BK148 := n13_
 have BK163 := n14_
 have BK183 := n15_
 have BK198 := n16_
 have HB := n17_
 clear n0_ n1_ n2_ n3_ n4_ n5_ n6_ n7_ n8_ n9_ n10_ n11_ n12_ n13_ n14_ n15_ n16_ n17_
 replace HO140 := Aside0.mk (Kd.R_drew HO140.out)
 replace HO143 := Aside0.mk (Kd.R_drew HO143.out)
 replace HO146 := Aside0.mk (Kd.R_drew HO146.out)
 replace HO155 := Aside0.mk (Kd.R_drew HO155.out)
 replace HO158 := Aside0.mk (Kd.R_drew HO158.out)
 replace HO161 := Aside0.mk (Kd.R_drew HO161.out)
 replace HO168 := Aside0.mk (Kd.R_drew HO168.out)
 replace HO175 := Aside0.mk (Kd.R_drew HO175.out)
 replace HO178 := Aside0.mk (Kd.R_drew HO178.out)
 replace HO181 := Aside0.mk (Kd.R_drew HO181.out)
 replace HO190 := Aside0.mk (Kd.R_drew HO190.out)
 replace HO193 := Aside0.mk (Kd.R_drew HO193.out)
 replace HO196 := Aside0.mk (Kd.R_drew HO196.out)
 replace BK148 := Aside0.mk (blk_drew BK148.out)
 replace BK163 := Aside0.mk (blk_drew BK163.out)
 replace BK183 := Aside0.mk (blk_drew BK183.out)
 replace BK198 := Aside0.mk (blk_drew BK198.out)
 replace HB := Aside0.mk (below_drew1 HB.out)
 refine start_ (n := 79) (S := fun w' => w'.cell? ⟨gb148, 0, none⟩ = some (.slice Ao40 t138.length co40) ∧ w'.cell? ⟨gb148, 1, none⟩ = some (.slice Ao42 t141.length co42) ∧ w'.cell? ⟨gb148, 2, none⟩ = some (.slice Ao43 t144.length co43) ∧ w'.cell? ⟨gb183, 0, none⟩ = some (.slice Ao65 t173.length co65) ∧ w'.cell? ⟨gb183, 1, none⟩ = some (.slice Ao69 t176.length co69) ∧ w'.cell? ⟨gb183, 2, none⟩ = some (.slice Ao70 t179.length co70)) (ds := []) #[false, false, false, false, false, false, false, false, false, false, false, false, false, false, false, false, false, false, false, false, false, false, false, false, false, false, false, false, false, false, false, false, false, false, false, false, false, false, false, false, false, false, false, false, false, false, false, false, false, false, false, false, false, false, false, false, false, false, false, false, false, false, false, false, false, false, false, false, false, false, false, false, false, false, false, false, false, false, false] (by kernel_rfl) rfl rfl ⟨bt BK148 0, bt BK148 1, bt BK148 2, bt BK183 0, bt BK183 1, bt BK183 2⟩ (fun hHeld => ?_); refine with_tabW slotmeshlaw12_head.tab5 slotmeshlaw12_head.bits5 (fun HT_ HW_ => ?_)
 generalize w84.drew = w85 at HO140 HO143 HO146 HO155 HO158 HO161 HO168 HO175 HO178 HO181 HO190 HO193 HO196 BK148 BK163 BK183 BK198 HB hHeld ⊢
 refine run_ [(0, some 44), (1, some 45), (2, some 46), (3, some 47), (4, some 48), (5, some 49), (6, some 50), (7, some 51), (8, some 52), (9, some 53), (10, some 54), (11, some 55), (12, some 56), (13, some 57), (14, some 58), (15, some 59), (16, some 60), (17, some 61), (18, some 62), (19, some 63), (20, some 64), (21, some 65), (22, some 66), (23, some 67), (24, some 68), (25, some 69), (26, some 70), (27, some 71), (28, some 72), (29, some 73), (30, some 74), (31, some 75), (32, some 76), (33, some 77)] ?_
 iterate 16 (refine runP (v := ?_) (a' := ?_) rfl rfl (any_of HT_.out (by kernel_rfl)) (fun _ _ _ h => h) (Or.inl ⟨by rfl, ?_⟩) ?_ ?_; rotate_left; (· intro w'; go_simp; with_reducible rfl); rotate_left; (· simp only [Act.put, List.setIfInBounds_toArray, List.set_cons_zero, List.set_cons_succ, i64_w, i32_w]; rfl))
 refine runT (v := ?_) (a' := ?_) rfl rfl (take_ofW HT_.out HW_.out (by kernel_rfl)) (fun _ _ _ h => h) (Or.inl ⟨by rfl, ?_⟩) hHeld ?_ ?_; rotate_left; (· rintro w' ⟨s0, s1, s2, s3, s4, s5⟩; go_simp; with_reducible rfl); rotate_left; (· simp only [Act.put, List.setIfInBounds_toArray, List.set_cons_zero, List.set_cons_succ, i64_w, i32_w]; rfl)
 iterate 5 (refine runP (v := ?_) (a' := ?_) rfl rfl (any_of HT_.out (by kernel_rfl)) (fun _ _ _ h => h) (Or.inl ⟨by rfl, ?_⟩) ?_ ?_; rotate_left; (· intro w'; go_simp; with_reducible rfl); rotate_left; (· simp only [Act.put, List.setIfInBounds_toArray, List.set_cons_zero, List.set_cons_succ, i64_w, i32_w]; rfl))
 refine runT (v := ?_) (a' := ?_) rfl rfl (take_ofW HT_.out HW_.out (by kernel_rfl)) (fun _ _ _ h => h) (Or.inl ⟨by rfl, ?_⟩) hHeld ?_ ?_; rotate_left; (· rintro w' ⟨s0, s1, s2, s3, s4, s5⟩; go_simp; with_reducible rfl); rotate_left; (· simp only [Act.put, List.setIfInBounds_toArray, List.set_cons_zero, List.set_cons_succ, i64_w, i32_w]; rfl)
 iterate 5 (refine runP (v := ?_) (a' := ?_) rfl rfl (any_of HT_.out (by kernel_rfl)) (fun _ _ _ h => h) (Or.inl ⟨by rfl, ?_⟩) ?_ ?_; rotate_left; (· intro w'; go_simp; with_reducible rfl); rotate_left; (· simp only [Act.put, List.setIfInBounds_toArray, List.set_cons_zero, List.set_cons_succ, i64_w, i32_w]; rfl))
 refine runT (v := ?_) (a' := ?_) rfl rfl (take_ofW HT_.out HW_.out (by kernel_rfl)) (fun _ _ _ h => h) (Or.inl ⟨by rfl, ?_⟩) hHeld ?_ ?_; rotate_left; (· rintro w' ⟨s0, s1, s2, s3, s4, s5⟩; go_simp; with_reducible rfl); rotate_left; (· simp only [Act.put, List.setIfInBounds_toArray, List.set_cons_zero, List.set_cons_succ, i64_w, i32_w]; rfl)
 iterate 4 (refine runP (v := ?_) (a' := ?_) rfl rfl (any_of HT_.out (by kernel_rfl)) (fun _ _ _ h => h) (Or.inl ⟨by rfl, ?_⟩) ?_ ?_; rotate_left; (· intro w'; go_simp; with_reducible rfl); rotate_left; (· simp only [Act.put, List.setIfInBounds_toArray, List.set_cons_zero, List.set_cons_succ, i64_w, i32_w]; rfl))
 refine runT (v := ?_) (a' := ?_) rfl rfl (take_ofW HT_.out HW_.out (by kernel_rfl)) (fun _ _ _ h => h) (Or.inl ⟨by rfl, ?_⟩) hHeld ?_ ?_; rotate_left; (· rintro w' ⟨s0, s1, s2, s3, s4, s5⟩; go_simp; with_reducible rfl); rotate_left; (· simp only [Act.put, List.setIfInBounds_toArray, List.set_cons_zero, List.set_cons_succ, i64_w, i32_w]; rfl)
 refine runE ?_
 refine one_ (i := 34) (N := some 78) #[true, true, true, true, true, true, true, true, true, true, true, true, true, true, true, true, true, true, true, true, true, true, true, true, true, true, true, true, true, true, true, true, true, true, true, false, false, false, false, false, false, false, false, false, false, false, false, false, false, false, false, false, false, false, false, false, false, false, false, false, false, false, false, false, false, false, false, false, false, false, false, false, false, false, false, false, false, false, false] rfl rfl (one_of HT_.out (by kernel_rfl)) (by decide) (fun K hK => ?_)
 refine gO Try.func19 #[.agg #[.slice Ao40 t138.length co40, .slice Ao42 t141.length co42, .slice Ao43 t144.length co43], .int .i64 2] ?_
 with_reducible refine (cells_Busy.calls _ _ t138 _ _ t141 _ _ t144 2 true _ ?side1 ?side2 ?side3 ?side4 ?side5 ?side6 A21.out).mono ?_
 (case side1 => exact sC (Kd.R_reads' HO140.out).2.2)
 (case side2 => exact (Kd.R_reads' HO140.out).2.1)
 (case side3 => exact sC (Kd.R_reads' HO143.out).2.2)
 (case side4 => exact (Kd.R_reads' HO143.out).2.1)
 (case side5 => exact sC (Kd.R_reads' HO146.out).2.2)
 (case side6 => exact (Kd.R_reads' HO146.out).2.1)
 rintro e w86 ⟨rfl, hb⟩
 refine ⟨_, rfl, ?_⟩
 replace HO140 := tR HO140 hb
 replace HO143 := tR HO143 hb
 replace HO146 := tR HO146 hb
 replace HO155 := tR HO155 hb
 replace HO158 := tR HO158 hb
 replace HO161 := tR HO161 hb
 replace HO168 := tR HO168 hb
 replace HO175 := tR HO175 hb
 replace HO178 := tR HO178 hb
 replace HO181 := tR HO181 hb
 replace HO190 := tR HO190 hb
 replace HO193 := tR HO193 hb
 replace HO196 := tR HO196 hb
 replace BK148 := tB BK148 hb
 replace BK163 := tB BK163 hb
 replace BK183 := tB BK183 hb
 replace BK198 := tB BK198 hb
 replace HB := tW HB hb
 (try clear hb)
 (try clear hb2)
 (try clear hk)
 (try clear hi)
 refine hK.out _ _ ⟨bt BK148 0, bt BK148 1, bt BK148 2, bt BK183 0, bt BK183 1, bt BK183 2⟩ (fun hHeld => ?_)
 clear hK K
 refine norm_ (a' := ?_) ?_ ?_
 rotate_left
 ·show Act.put _ (some 78) _ = _
  simp only [Act.put, List.setIfInBounds_toArray, List.set_cons_zero, List.set_cons_succ, i64_w, i32_w]
  rfl
 refine run_ [(35, some 79), (36, some 80), (37, some 81)] ?_
 iterate 2 (refine runP (v := ?_) (a' := ?_) rfl rfl (any_of HT_.out (by kernel_rfl)) (fun _ _ _ h => h) (Or.inl ⟨by rfl, ?_⟩) ?_ ?_; rotate_left; (· intro w'; go_simp; with_reducible rfl); rotate_left; (· simp only [Act.put, List.setIfInBounds_toArray, List.set_cons_zero, List.set_cons_succ, i64_w, i32_w]; rfl))
 refine runT (v := ?_) (a' := ?_) rfl rfl (take_ofW HT_.out HW_.out (by kernel_rfl)) (fun _ _ _ h => h) (Or.inl ⟨by rfl, ?_⟩) hHeld ?_ ?_; rotate_left; (· rintro w' ⟨s0, s1, s2, s3, s4, s5⟩; go_simp; with_reducible rfl); rotate_left; (· simp only [Act.put, List.setIfInBounds_toArray, List.set_cons_zero, List.set_cons_succ, i64_w, i32_w]; rfl)
 refine runE ?_
 refine one_ (i := 38) (N := some 82) #[true, true, true, true, true, true, true, true, true, true, true, true, true, true, true, true, true, true, true, true, true, true, true, true, true, true, true, true, true, true, true, true, true, true, true, true, true, true, true, false, false, false, false, false, false, false, false, false, false, false, false, false, false, false, false, false, false, false, false, false, false, false, false, false, false, false, false, false, false, false, false, false, false, false, false, false, false, false, false] rfl rfl (one_of HT_.out (by kernel_rfl)) (by decide) (fun K hK => ?_)
 refine gO Try.func19 #[.agg #[.slice Ao40 t138.length co40, .slice Ao42 t141.length co42, .slice Ao43 t144.length co43], .int .i64 3] ?_
 with_reducible refine (cells_Busy.calls _ _ t138 _ _ t141 _ _ t144 3 false _ ?side1 ?side2 ?side3 ?side4 ?side5 ?side6 A22.out).mono ?_
 (case side1 => exact sC (Kd.R_reads' HO140.out).2.2)
 (case side2 => exact (Kd.R_reads' HO140.out).2.1)
 (case side3 => exact sC (Kd.R_reads' HO143.out).2.2)
 (case side4 => exact (Kd.R_reads' HO143.out).2.1)
 (case side5 => exact sC (Kd.R_reads' HO146.out).2.2)
 (case side6 => exact (Kd.R_reads' HO146.out).2.1)
 rintro e w87 ⟨rfl, hb⟩
 refine ⟨_, rfl, ?_⟩
 replace HO140 := tR HO140 hb
 replace HO143 := tR HO143 hb
 replace HO146 := tR HO146 hb
 replace HO155 := tR HO155 hb
 replace HO158 := tR HO158 hb
 replace HO161 := tR HO161 hb
 replace HO168 := tR HO168 hb
 replace HO175 := tR HO175 hb
 replace HO178 := tR HO178 hb
 replace HO181 := tR HO181 hb
 replace HO190 := tR HO190 hb
 replace HO193 := tR HO193 hb
 replace HO196 := tR HO196 hb
 replace BK148 := tB BK148 hb
 replace BK163 := tB BK163 hb
 replace BK183 := tB BK183 hb
 replace BK198 := tB BK198 hb
 replace HB := tW HB hb
 (try clear hb)
 (try clear hb2)
 (try clear hk)
 (try clear hi)
 refine hK.out _ _ ⟨bt BK148 0, bt BK148 1, bt BK148 2, bt BK183 0, bt BK183 1, bt BK183 2⟩ (fun hHeld => ?_)
 clear hK K
 refine norm_ (a' := ?_) ?_ ?_
 rotate_left
 ·show Act.put _ (some 82) _ = _
  simp only [Act.put, List.setIfInBounds_toArray, List.set_cons_zero, List.set_cons_succ, i64_w, i32_w]
  rfl
 refine run_ [(39, some 83), (40, some 84), (41, some 85), (42, some 86), (44, some 88)] ?_
 iterate 3 (refine runP (v := ?_) (a' := ?_) rfl rfl (any_of HT_.out (by kernel_rfl)) (fun _ _ _ h => h) (Or.inl ⟨by rfl, ?_⟩) ?_ ?_; rotate_left; (· intro w'; go_simp; with_reducible rfl); rotate_left; (· simp only [Act.put, List.setIfInBounds_toArray, List.set_cons_zero, List.set_cons_succ, i64_w, i32_w]; rfl))
 iterate 2 (refine runT (v := ?_) (a' := ?_) rfl rfl (take_ofW HT_.out HW_.out (by kernel_rfl)) (fun _ _ _ h => h) (Or.inl ⟨by rfl, ?_⟩) hHeld ?_ ?_; rotate_left; (· rintro w' ⟨s0, s1, s2, s3, s4, s5⟩; go_simp; with_reducible rfl); rotate_left; (· simp only [Act.put, List.setIfInBounds_toArray, List.set_cons_zero, List.set_cons_succ, i64_w, i32_w]; rfl))
 refine runE ?_
 refine one_ (i := 43) (N := some 87) #[true, true, true, true, true, true, true, true, true, true, true, true, true, true, true, true, true, true, true, true, true, true, true, true, true, true, true, true, true, true, true, true, true, true, true, true, true, true, true, true, true, true, true, true, true, false, false, false, false, false, false, false, false, false, false, false, false, false, false, false, false, false, false, false, false, false, false, false, false, false, false, false, false, false, false, false, false, false, false] rfl rfl (one_of HT_.out (by kernel_rfl)) (by decide) (fun K hK => ?_)
 refine gO Try.func23 #[.agg #[.slice Ao65 t173.length co65, .slice Ao69 t176.length co69, .slice Ao70 t179.length co70], .int .i64 15] ?_
 with_reducible refine (cells_Expire.calls _ _ t173 _ _ t176 _ _ t179 15 t201 t204 t207 _ ?side1 ?side2 ?side3 ?side4 ?side5 ?side6 A23.out).mono ?_
 (case side1 => exact sC (Kd.R_reads' HO175.out).2.2)
 (case side2 => exact (Kd.R_reads' HO175.out).2.1)
 (case side3 => exact sC (Kd.R_reads' HO178.out).2.2)
 (case side4 => exact (Kd.R_reads' HO178.out).2.1)
 (case side5 => exact sC (Kd.R_reads' HO181.out).2.2)
 (case side6 => exact (Kd.R_reads' HO181.out).2.1)
 rintro e w88 ⟨v202, v205, v208, rfl, ho0, ho1, ho2, hb⟩
 refine ⟨_, rfl, ?_⟩
 have HO203 := Aside0.mk (Kd.R_lower (Kd.R_new' (Kd.R_new' (Kd.R_new' (Kd.R_new' ho0 (Kd.R_lt (sR HO140))) (Kd.R_lt (sR HO155))) (Kd.R_lt (sR HO175))) (Kd.R_lt (sR HO190))) (below_size (sW HB)))
 replace HO140 := eR HO140 ho0 hb
 replace HO155 := eR HO155 ho0 hb
 replace HO175 := eR HO175 ho0 hb
 replace HO190 := eR HO190 ho0 hb
 have HO206 := Aside0.mk (Kd.R_lower (Kd.R_new' (Kd.R_new' (Kd.R_new' (Kd.R_new' ho1 (Kd.R_lt (sR HO143))) (Kd.R_lt (sR HO158))) (Kd.R_lt (sR HO178))) (Kd.R_lt (sR HO193))) (below_size (sW HB)))
 replace HO143 := eR HO143 ho1 hb
 replace HO158 := eR HO158 ho1 hb
 replace HO178 := eR HO178 ho1 hb
 replace HO193 := eR HO193 ho1 hb
 have HO209 := Aside0.mk (Kd.R_lower (Kd.R_new' (Kd.R_new' (Kd.R_new' (Kd.R_new' (Kd.R_new' ho2 (Kd.R_lt (sR HO146))) (Kd.R_lt (sR HO161))) (Kd.R_lt (sR HO168))) (Kd.R_lt (sR HO181))) (Kd.R_lt (sR HO196))) (below_size (sW HB)))
 replace HO146 := eR HO146 ho2 hb
 replace HO161 := eR HO161 ho2 hb
 replace HO168 := eR HO168 ho2 hb
 replace HO181 := eR HO181 ho2 hb
 replace HO196 := eR HO196 ho2 hb
 replace BK148 := tB BK148 hb
 replace BK163 := tB BK163 hb
 replace BK183 := tB BK183 hb
 replace BK198 := tB BK198 hb
 replace HB := tW HB hb
 (try clear hb)
 (try clear hb2)
 (try clear hk)
 (try clear hi)
 (try clear ho0)
 (try clear ho1)
 (try clear ho2)
 obtain ⟨Ao89, co89, eo89⟩ := Kd.R_slice HO203.out
 (first | subst eo89 | (injection eo89 with f1_ f2_ f3_; have f4_ := f1_.symm; have f5_ := f3_.symm; clear f1_ f2_ f3_; subst f4_; subst f5_))
 obtain ⟨Ao90, co90, eo90⟩ := Kd.R_slice HO206.out
 (first | subst eo90 | (injection eo90 with f1_ f2_ f3_; have f4_ := f1_.symm; have f5_ := f3_.symm; clear f1_ f2_ f3_; subst f4_; subst f5_))
 obtain ⟨Ao91, co91, eo91⟩ := Kd.R_slice HO209.out
 (first | subst eo91 | (injection eo91 with f1_ f2_ f3_; have f4_ := f1_.symm; have f5_ := f3_.symm; clear f1_ f2_ f3_; subst f4_; subst f5_))
 refine hK.out _ _ ⟨bt BK148 0, bt BK148 1, bt BK148 2, bt BK183 0, bt BK183 1, bt BK183 2⟩ (fun hHeld => ?_)
 clear hK K
 refine norm_ (a' := ?_) ?_ ?_
 rotate_left
 ·show Act.put _ (some 87) _ = _
  simp only [Act.put, List.setIfInBounds_toArray, List.set_cons_zero, List.set_cons_succ, i64_w, i32_w]
  rfl
 refine one_ (i := 45) (N := some 89) #[true, true, true, true, true, true, true, true, true, true, true, true, true, true, true, true, true, true, true, true, true, true, true, true, true, true, true, true, true, true, true, true, true, true, true, true, true, true, true, true, true, true, true, true, true, true, false, false, false, false, false, false, false, false, false, false, false, false, false, false, false, false, false, false, false, false, false, false, false, false, false, false, false, false, false, false, false, false, false] rfl rfl (one_of HT_.out (by kernel_rfl)) (by decide) (fun K hK => ?_)
 refine gO Try.func16 #[.agg #[.slice Ao89 t201.length co89, .slice Ao90 t204.length co90, .slice Ao91 t207.length co91], .agg #[.slice Ao65 t173.length co65, .slice Ao69 t176.length co69, .slice Ao70 t179.length co70]] ?_
 with_reducible refine (slotmeshref12_Same.calls 64 _ _ t201 _ _ t204 _ _ t207 _ _ t173 _ _ t176 _ _ t179 true _ ?side1 ?side2 ?side3 ?side4 ?side5 ?side6 ?side7 ?side8 ?side9 ?side10 ?side11 ?side12 A24.out).mono ?_
 (case side1 => exact sC (Kd.R_reads' HO203.out).2.2)
 (case side2 => exact (Kd.R_reads' HO203.out).2.1)
 (case side3 => exact sC (Kd.R_reads' HO206.out).2.2)
 (case side4 => exact (Kd.R_reads' HO206.out).2.1)
 (case side5 => exact sC (Kd.R_reads' HO209.out).2.2)
 (case side6 => exact (Kd.R_reads' HO209.out).2.1)
 (case side7 => exact sC (Kd.R_reads' HO175.out).2.2)
 (case side8 => exact (Kd.R_reads' HO175.out).2.1)
 (case side9 => exact sC (Kd.R_reads' HO178.out).2.2)
 (case side10 => exact (Kd.R_reads' HO178.out).2.1)
 (case side11 => exact sC (Kd.R_reads' HO181.out).2.2)
 (case side12 => exact (Kd.R_reads' HO181.out).2.1)
 rintro e w92 ⟨rfl, hb⟩
 refine ⟨_, rfl, ?_⟩
 replace HO140 := tR HO140 hb
 replace HO143 := tR HO143 hb
 replace HO146 := tR HO146 hb
 replace HO155 := tR HO155 hb
 replace HO158 := tR HO158 hb
 replace HO161 := tR HO161 hb
 replace HO168 := tR HO168 hb
 replace HO175 := tR HO175 hb
 replace HO178 := tR HO178 hb
 replace HO181 := tR HO181 hb
 replace HO190 := tR HO190 hb
 replace HO193 := tR HO193 hb
 replace HO196 := tR HO196 hb
 replace HO203 := tR HO203 hb
 replace HO206 := tR HO206 hb
 replace HO209 := tR HO209 hb
 replace BK148 := tB BK148 hb
 replace BK163 := tB BK163 hb
 replace BK183 := tB BK183 hb
 replace BK198 := tB BK198 hb
 replace HB := tW HB hb
 (try clear hb)
 (try clear hb2)
 (try clear hk)
 (try clear hi)
 refine hK.out _ _ ⟨bt BK148 0, bt BK148 1, bt BK148 2, bt BK183 0, bt BK183 1, bt BK183 2⟩ (fun hHeld => ?_)
 clear hK K
 refine norm_ (a' := ?_) ?_ ?_
 rotate_left
 ·show Act.put _ (some 89) _ = _
  simp only [Act.put, List.setIfInBounds_toArray, List.set_cons_zero, List.set_cons_succ, i64_w, i32_w]
  rfl
 refine run_ [(46, some 90), (47, some 91), (50, some 94), (48, some 92)] ?_
 iterate 3 (refine runP (v := ?_) (a' := ?_) rfl rfl (any_of HT_.out (by kernel_rfl)) (fun _ _ _ h => h) (Or.inl ⟨by rfl, ?_⟩) ?_ ?_; rotate_left; (· intro w'; go_simp; with_reducible rfl); rotate_left; (· simp only [Act.put, List.setIfInBounds_toArray, List.set_cons_zero, List.set_cons_succ, i64_w, i32_w]; rfl))
 refine runT (v := ?_) (a' := ?_) rfl rfl (take_ofW HT_.out HW_.out (by kernel_rfl)) (fun _ _ _ h => h) (Or.inl ⟨by rfl, ?_⟩) hHeld ?_ ?_; rotate_left; (· rintro w' ⟨s0, s1, s2, s3, s4, s5⟩; go_simp; with_reducible rfl); rotate_left; (· simp only [Act.put, List.setIfInBounds_toArray, List.set_cons_zero, List.set_cons_succ, i64_w, i32_w]; rfl)
 refine runE ?_
 refine one_ (i := 49) (N := some 93) #[true, true, true, true, true, true, true, true, true, true, true, true, true, true, true, true, true, true, true, true, true, true, true, true, true, true, true, true, true, true, true, true, true, true, true, true, true, true, true, true, true, true, true, true, true, true, true, true, true, true, true, false, false, false, false, false, false, false, false, false, false, false, false, false, false, false, false, false, false, false, false, false, false, false, false, false, false, false, false] rfl rfl (one_of HT_.out (by kernel_rfl)) (by decide) (fun K hK => ?_)
 refine gO Try.func23 #[.agg #[.slice Ao65 t173.length co65, .slice Ao69 t176.length co69, .slice Ao70 t179.length co70], .int .i64 16] ?_
 with_reducible refine (cells_Expire.calls _ _ t173 _ _ t176 _ _ t179 16 t211 t214 t217 _ ?side1 ?side2 ?side3 ?side4 ?side5 ?side6 A25.out).mono ?_
 (case side1 => exact sC (Kd.R_reads' HO175.out).2.2)
 (case side2 => exact (Kd.R_reads' HO175.out).2.1)
 (case side3 => exact sC (Kd.R_reads' HO178.out).2.2)
 (case side4 => exact (Kd.R_reads' HO178.out).2.1)
 (case side5 => exact sC (Kd.R_reads' HO181.out).2.2)
 (case side6 => exact (Kd.R_reads' HO181.out).2.1)
 rintro e w93 ⟨v212, v215, v218, rfl, ho0, ho1, ho2, hb⟩
 refine ⟨_, rfl, ?_⟩
 have HO213 := Aside0.mk (Kd.R_lower (Kd.R_new' (Kd.R_new' (Kd.R_new' (Kd.R_new' (Kd.R_new' ho0 (Kd.R_lt (sR HO140))) (Kd.R_lt (sR HO155))) (Kd.R_lt (sR HO175))) (Kd.R_lt (sR HO190))) (Kd.R_lt (sR HO203))) (below_size (sW HB)))
 replace HO140 := eR HO140 ho0 hb
 replace HO155 := eR HO155 ho0 hb
 replace HO175 := eR HO175 ho0 hb
 replace HO190 := eR HO190 ho0 hb
 replace HO203 := eR HO203 ho0 hb
 have HO216 := Aside0.mk (Kd.R_lower (Kd.R_new' (Kd.R_new' (Kd.R_new' (Kd.R_new' (Kd.R_new' ho1 (Kd.R_lt (sR HO143))) (Kd.R_lt (sR HO158))) (Kd.R_lt (sR HO178))) (Kd.R_lt (sR HO193))) (Kd.R_lt (sR HO206))) (below_size (sW HB)))
 replace HO143 := eR HO143 ho1 hb
 replace HO158 := eR HO158 ho1 hb
 replace HO178 := eR HO178 ho1 hb
 replace HO193 := eR HO193 ho1 hb
 replace HO206 := eR HO206 ho1 hb
 have HO219 := Aside0.mk (Kd.R_lower (Kd.R_new' (Kd.R_new' (Kd.R_new' (Kd.R_new' (Kd.R_new' (Kd.R_new' ho2 (Kd.R_lt (sR HO146))) (Kd.R_lt (sR HO161))) (Kd.R_lt (sR HO168))) (Kd.R_lt (sR HO181))) (Kd.R_lt (sR HO196))) (Kd.R_lt (sR HO209))) (below_size (sW HB)))
 replace HO146 := eR HO146 ho2 hb
 replace HO161 := eR HO161 ho2 hb
 replace HO168 := eR HO168 ho2 hb
 replace HO181 := eR HO181 ho2 hb
 replace HO196 := eR HO196 ho2 hb
 replace HO209 := eR HO209 ho2 hb
 replace BK148 := tB BK148 hb
 replace BK163 := tB BK163 hb
 replace BK183 := tB BK183 hb
 replace BK198 := tB BK198 hb
 replace HB := tW HB hb
 (try clear hb)
 (try clear hb2)
 (try clear hk)
 (try clear hi)
 (try clear ho0)
 (try clear ho1)
 (try clear ho2)
 obtain ⟨Ao94, co94, eo94⟩ := Kd.R_slice HO213.out
 (first | subst eo94 | (injection eo94 with f1_ f2_ f3_; have f4_ := f1_.symm; have f5_ := f3_.symm; clear f1_ f2_ f3_; subst f4_; subst f5_))
 obtain ⟨Ao95, co95, eo95⟩ := Kd.R_slice HO216.out
 (first | subst eo95 | (injection eo95 with f1_ f2_ f3_; have f4_ := f1_.symm; have f5_ := f3_.symm; clear f1_ f2_ f3_; subst f4_; subst f5_))
 obtain ⟨Ao96, co96, eo96⟩ := Kd.R_slice HO219.out
 (first | subst eo96 | (injection eo96 with f1_ f2_ f3_; have f4_ := f1_.symm; have f5_ := f3_.symm; clear f1_ f2_ f3_; subst f4_; subst f5_))
 refine hK.out _ _ ⟨bt BK148 0, bt BK148 1, bt BK148 2, bt BK183 0, bt BK183 1, bt BK183 2⟩ (fun hHeld => ?_)
 clear hK K
 refine norm_ (a' := ?_) ?_ ?_
 rotate_left
 ·show Act.put _ (some 93) _ = _
  simp only [Act.put, List.setIfInBounds_toArray, List.set_cons_zero, List.set_cons_succ, i64_w, i32_w]
  rfl
 refine one_ (i := 51) (N := some 95) #[true, true, true, true, true, true, true, true, true, true, true, true, true, true, true, true, true, true, true, true, true, true, true, true, true, true, true, true, true, true, true, true, true, true, true, true, true, true, true, true, true, true, true, true, true, true, true, true, true, true, true, true, false, false, false, false, false, false, false, false, false, false, false, false, false, false, false, false, false, false, false, false, false, false, false, false, false, false, false] rfl rfl (one_of HT_.out (by kernel_rfl)) (by decide) (fun K hK => ?_)
 refine gO Try.func16 #[.agg #[.slice Ao94 t211.length co94, .slice Ao95 t214.length co95, .slice Ao96 t217.length co96], .agg #[.slice none 0 0, .slice none 0 0, .slice none 0 0]] ?_
 refine (slotmeshref12_Same.calls 64 _ _ t211 _ _ t214 _ _ t217 _ _ ([] : List (S32)) _ _ ([] : List (S34)) _ _ ([] : List (S51)) true _ ?side1 ?side2 ?side3 ?side4 ?side5 ?side6 ?side7 ?side8 ?side9 ?side10 ?side11 ?side12 A26.out).mono ?_
 (case side1 => exact sC (Kd.R_reads' HO213.out).2.2)
 (case side2 => exact (Kd.R_reads' HO213.out).2.1)
 (case side3 => exact sC (Kd.R_reads' HO216.out).2.2)
 (case side4 => exact (Kd.R_reads' HO216.out).2.1)
 (case side5 => exact sC (Kd.R_reads' HO219.out).2.2)
 (case side6 => exact (Kd.R_reads' HO219.out).2.1)
 (case side7 => exact Kd.C_nil _ _)
 (case side8 => exact Nat.le_refl _)
 (case side9 => exact Kd.C_nil _ _)
 (case side10 => exact Nat.le_refl _)
 (case side11 => exact Kd.C_nil _ _)
 (case side12 => exact Nat.le_refl _)
 rintro e w97 ⟨rfl, hb⟩
 refine ⟨_, rfl, ?_⟩
 replace HO140 := tR HO140 hb
 replace HO143 := tR HO143 hb
 replace HO146 := tR HO146 hb
 replace HO155 := tR HO155 hb
 replace HO158 := tR HO158 hb
 replace HO161 := tR HO161 hb
 replace HO168 := tR HO168 hb
 replace HO175 := tR HO175 hb
 replace HO178 := tR HO178 hb
 replace HO181 := tR HO181 hb
 replace HO190 := tR HO190 hb
 replace HO193 := tR HO193 hb
 replace HO196 := tR HO196 hb
 replace HO203 := tR HO203 hb
 replace HO206 := tR HO206 hb
 replace HO209 := tR HO209 hb
 replace HO213 := tR HO213 hb
 replace HO216 := tR HO216 hb
 replace HO219 := tR HO219 hb
 replace BK148 := tB BK148 hb
 replace BK163 := tB BK163 hb
 replace BK183 := tB BK183 hb
 replace BK198 := tB BK198 hb
 replace HB := tW HB hb
 (try clear hb)
 (try clear hb2)
 (try clear hk)
 (try clear hi)
 refine hK.out _ _ ⟨bt BK148 0, bt BK148 1, bt BK148 2, bt BK183 0, bt BK183 1, bt BK183 2⟩ (fun hHeld => ?_)
 clear hK K
 refine norm_ (a' := ?_) ?_ ?_
 rotate_left
 ·show Act.put _ (some 95) _ = _
  simp only [Act.put, List.setIfInBounds_toArray, List.set_cons_zero, List.set_cons_succ, i64_w, i32_w]
  rfl
 refine run_ [(52, some 96), (53, some 97), (57, some 101), (54, some 98)] ?_
 iterate 3 (refine runP (v := ?_) (a' := ?_) rfl rfl (any_of HT_.out (by kernel_rfl)) (fun _ _ _ h => h) (Or.inl ⟨by rfl, ?_⟩) ?_ ?_; rotate_left; (· intro w'; go_simp; with_reducible rfl); rotate_left; (· simp only [Act.put, List.setIfInBounds_toArray, List.set_cons_zero, List.set_cons_succ, i64_w, i32_w]; rfl))
 refine runT (v := ?_) (a' := ?_) rfl rfl (take_ofW HT_.out HW_.out (by kernel_rfl)) (fun _ _ _ h => h) (Or.inl ⟨by rfl, ?_⟩) hHeld ?_ ?_; rotate_left; (· rintro w' ⟨s0, s1, s2, s3, s4, s5⟩; go_simp; with_reducible rfl); rotate_left; (· simp only [Act.put, List.setIfInBounds_toArray, List.set_cons_zero, List.set_cons_succ, i64_w, i32_w]; rfl)
 refine runE ?_
 refine one_ (i := 55) (N := some 99) #[true, true, true, true, true, true, true, true, true, true, true, true, true, true, true, true, true, true, true, true, true, true, true, true, true, true, true, true, true, true, true, true, true, true, true, true, true, true, true, true, true, true, true, true, true, true, true, true, true, true, true, true, true, true, true, true, false, true, false, false, false, false, false, false, false, false, false, false, false, false, false, false, false, false, false, false, false, false, false] rfl rfl (one_of HT_.out (by kernel_rfl)) (by decide) (fun K hK => ?_)
 refine gO Try.func28 #[.int .i64 2, .int .i64 5] ?_
 with_reducible refine (slotmeshlaw12_cell.calls 2 5 t221 t222 _ A27.out).mono ?_
 rintro e w98 ⟨rfl, hb⟩
 refine ⟨_, rfl, ?_⟩
 replace HO140 := tR HO140 hb
 replace HO143 := tR HO143 hb
 replace HO146 := tR HO146 hb
 replace HO155 := tR HO155 hb
 replace HO158 := tR HO158 hb
 replace HO161 := tR HO161 hb
 replace HO168 := tR HO168 hb
 replace HO175 := tR HO175 hb
 replace HO178 := tR HO178 hb
 replace HO181 := tR HO181 hb
 replace HO190 := tR HO190 hb
 replace HO193 := tR HO193 hb
 replace HO196 := tR HO196 hb
 replace HO203 := tR HO203 hb
 replace HO206 := tR HO206 hb
 replace HO209 := tR HO209 hb
 replace HO213 := tR HO213 hb
 replace HO216 := tR HO216 hb
 replace HO219 := tR HO219 hb
 replace BK148 := tB BK148 hb
 replace BK163 := tB BK163 hb
 replace BK183 := tB BK183 hb
 replace BK198 := tB BK198 hb
 replace HB := tW HB hb
 (try clear hb)
 (try clear hb2)
 (try clear hk)
 (try clear hi)
 refine hK.out _ _ ⟨bt BK148 0, bt BK148 1, bt BK148 2, bt BK183 0, bt BK183 1, bt BK183 2⟩ (fun hHeld => ?_)
 clear hK K
 refine norm_ (a' := ?_) ?_ ?_
 rotate_left
 ·show Act.put _ (some 99) _ = _
  simp only [Act.put, List.setIfInBounds_toArray, List.set_cons_zero, List.set_cons_succ, i64_w, i32_w]
  rfl
 refine one_ (i := 56) (N := some 100) #[true, true, true, true, true, true, true, true, true, true, true, true, true, true, true, true, true, true, true, true, true, true, true, true, true, true, true, true, true, true, true, true, true, true, true, true, true, true, true, true, true, true, true, true, true, true, true, true, true, true, true, true, true, true, true, true, true, true, false, false, false, false, false, false, false, false, false, false, false, false, false, false, false, false, false, false, false, false, false] rfl rfl (one_of HT_.out (by kernel_rfl)) (by decide) (fun K hK => ?_)
 refine gO Try.func21 #[.agg #[.slice Ao40 t138.length co40, .slice Ao42 t141.length co42, .slice Ao43 t144.length co43], .agg #[.int .i64 t221, .int .i64 t222]] ?_
 with_reducible refine (cells_Drop.calls _ _ t138 _ _ t141 _ _ t144 t221 t222 t223 t226 t229 _ ?side1 ?side2 ?side3 ?side4 ?side5 ?side6 A28.out).mono ?_
 (case side1 => exact sC (Kd.R_reads' HO140.out).2.2)
 (case side2 => exact (Kd.R_reads' HO140.out).2.1)
 (case side3 => exact sC (Kd.R_reads' HO143.out).2.2)
 (case side4 => exact (Kd.R_reads' HO143.out).2.1)
 (case side5 => exact sC (Kd.R_reads' HO146.out).2.2)
 (case side6 => exact (Kd.R_reads' HO146.out).2.1)
 rintro e w99 ⟨v224, v227, v230, rfl, ho0, ho1, ho2, hb⟩
 refine ⟨_, rfl, ?_⟩
 have HO225 := Aside0.mk (Kd.R_lower (Kd.R_new' (Kd.R_new' (Kd.R_new' (Kd.R_new' (Kd.R_new' (Kd.R_new' ho0 (Kd.R_lt (sR HO140))) (Kd.R_lt (sR HO155))) (Kd.R_lt (sR HO175))) (Kd.R_lt (sR HO190))) (Kd.R_lt (sR HO203))) (Kd.R_lt (sR HO213))) (below_size (sW HB)))
 replace HO140 := eR HO140 ho0 hb
 replace HO155 := eR HO155 ho0 hb
 replace HO175 := eR HO175 ho0 hb
 replace HO190 := eR HO190 ho0 hb
 replace HO203 := eR HO203 ho0 hb
 replace HO213 := eR HO213 ho0 hb
 have HO228 := Aside0.mk (Kd.R_lower (Kd.R_new' (Kd.R_new' (Kd.R_new' (Kd.R_new' (Kd.R_new' (Kd.R_new' ho1 (Kd.R_lt (sR HO143))) (Kd.R_lt (sR HO158))) (Kd.R_lt (sR HO178))) (Kd.R_lt (sR HO193))) (Kd.R_lt (sR HO206))) (Kd.R_lt (sR HO216))) (below_size (sW HB)))
 replace HO143 := eR HO143 ho1 hb
 replace HO158 := eR HO158 ho1 hb
 replace HO178 := eR HO178 ho1 hb
 replace HO193 := eR HO193 ho1 hb
 replace HO206 := eR HO206 ho1 hb
 replace HO216 := eR HO216 ho1 hb
 have HO231 := Aside0.mk (Kd.R_lower (Kd.R_new' (Kd.R_new' (Kd.R_new' (Kd.R_new' (Kd.R_new' (Kd.R_new' (Kd.R_new' ho2 (Kd.R_lt (sR HO146))) (Kd.R_lt (sR HO161))) (Kd.R_lt (sR HO168))) (Kd.R_lt (sR HO181))) (Kd.R_lt (sR HO196))) (Kd.R_lt (sR HO209))) (Kd.R_lt (sR HO219))) (below_size (sW HB)))
 replace HO146 := eR HO146 ho2 hb
 replace HO161 := eR HO161 ho2 hb
 replace HO168 := eR HO168 ho2 hb
 replace HO181 := eR HO181 ho2 hb
 replace HO196 := eR HO196 ho2 hb
 replace HO209 := eR HO209 ho2 hb
 replace HO219 := eR HO219 ho2 hb
 replace BK148 := tB BK148 hb
 replace BK163 := tB BK163 hb
 replace BK183 := tB BK183 hb
 replace BK198 := tB BK198 hb
 replace HB := tW HB hb
 (try clear hb)
 (try clear hb2)
 (try clear hk)
 (try clear hi)
 (try clear ho0)
 (try clear ho1)
 (try clear ho2)
 obtain ⟨Ao100, co100, eo100⟩ := Kd.R_slice HO225.out
 (first | subst eo100 | (injection eo100 with f1_ f2_ f3_; have f4_ := f1_.symm; have f5_ := f3_.symm; clear f1_ f2_ f3_; subst f4_; subst f5_))
 obtain ⟨Ao101, co101, eo101⟩ := Kd.R_slice HO228.out
 (first | subst eo101 | (injection eo101 with f1_ f2_ f3_; have f4_ := f1_.symm; have f5_ := f3_.symm; clear f1_ f2_ f3_; subst f4_; subst f5_))
 obtain ⟨Ao102, co102, eo102⟩ := Kd.R_slice HO231.out
 (first | subst eo102 | (injection eo102 with f1_ f2_ f3_; have f4_ := f1_.symm; have f5_ := f3_.symm; clear f1_ f2_ f3_; subst f4_; subst f5_))
 refine hK.out _ _ ⟨bt BK148 0, bt BK148 1, bt BK148 2, bt BK183 0, bt BK183 1, bt BK183 2⟩ (fun hHeld => ?_)
 clear hK K
 refine norm_ (a' := ?_) ?_ ?_
 rotate_left
 ·show Act.put _ (some 100) _ = _
  simp only [Act.put, List.setIfInBounds_toArray, List.set_cons_zero, List.set_cons_succ, i64_w, i32_w]
  rfl
 refine one_ (i := 58) (N := some 102) #[true, true, true, true, true, true, true, true, true, true, true, true, true, true, true, true, true, true, true, true, true, true, true, true, true, true, true, true, true, true, true, true, true, true, true, true, true, true, true, true, true, true, true, true, true, true, true, true, true, true, true, true, true, true, true, true, true, true, true, false, false, false, false, false, false, false, false, false, false, false, false, false, false, false, false, false, false, false, false] rfl rfl (one_of HT_.out (by kernel_rfl)) (by decide) (fun K hK => ?_)
 refine gO Try.func16 #[.agg #[.slice Ao100 t223.length co100, .slice Ao101 t226.length co101, .slice Ao102 t229.length co102], .agg #[.slice none 0 0, .slice none 0 0, .slice none 0 0]] ?_
 refine (slotmeshref12_Same.calls 64 _ _ t223 _ _ t226 _ _ t229 _ _ ([] : List (S32)) _ _ ([] : List (S34)) _ _ ([] : List (S51)) true _ ?side1 ?side2 ?side3 ?side4 ?side5 ?side6 ?side7 ?side8 ?side9 ?side10 ?side11 ?side12 A29.out).mono ?_
 (case side1 => exact sC (Kd.R_reads' HO225.out).2.2)
 (case side2 => exact (Kd.R_reads' HO225.out).2.1)
 (case side3 => exact sC (Kd.R_reads' HO228.out).2.2)
 (case side4 => exact (Kd.R_reads' HO228.out).2.1)
 (case side5 => exact sC (Kd.R_reads' HO231.out).2.2)
 (case side6 => exact (Kd.R_reads' HO231.out).2.1)
 (case side7 => exact Kd.C_nil _ _)
 (case side8 => exact Nat.le_refl _)
 (case side9 => exact Kd.C_nil _ _)
 (case side10 => exact Nat.le_refl _)
 (case side11 => exact Kd.C_nil _ _)
 (case side12 => exact Nat.le_refl _)
 rintro e w103 ⟨rfl, hb⟩
 refine ⟨_, rfl, ?_⟩
 replace HO140 := tR HO140 hb
 replace HO143 := tR HO143 hb
 replace HO146 := tR HO146 hb
 replace HO155 := tR HO155 hb
 replace HO158 := tR HO158 hb
 replace HO161 := tR HO161 hb
 replace HO168 := tR HO168 hb
 replace HO175 := tR HO175 hb
 replace HO178 := tR HO178 hb
 replace HO181 := tR HO181 hb
 replace HO190 := tR HO190 hb
 replace HO193 := tR HO193 hb
 replace HO196 := tR HO196 hb
 replace HO203 := tR HO203 hb
 replace HO206 := tR HO206 hb
 replace HO209 := tR HO209 hb
 replace HO213 := tR HO213 hb
 replace HO216 := tR HO216 hb
 replace HO219 := tR HO219 hb
 replace HO225 := tR HO225 hb
 replace HO228 := tR HO228 hb
 replace HO231 := tR HO231 hb
 replace BK148 := tB BK148 hb
 replace BK163 := tB BK163 hb
 replace BK183 := tB BK183 hb
 replace BK198 := tB BK198 hb
 replace HB := tW HB hb
 (try clear hb)
 (try clear hb2)
 (try clear hk)
 (try clear hi)
 refine hK.out _ _ ⟨bt BK148 0, bt BK148 1, bt BK148 2, bt BK183 0, bt BK183 1, bt BK183 2⟩ (fun hHeld => ?_)
 clear hK K
 refine norm_ (a' := ?_) ?_ ?_
 rotate_left
 ·show Act.put _ (some 102) _ = _
  simp only [Act.put, List.setIfInBounds_toArray, List.set_cons_zero, List.set_cons_succ, i64_w, i32_w]
  rfl
 refine run_ [(59, some 103), (60, some 104), (61, some 105), (64, some 108)] ?_
 iterate 2 (refine runP (v := ?_) (a' := ?_) rfl rfl (any_of HT_.out (by kernel_rfl)) (fun _ _ _ h => h) (Or.inl ⟨by rfl, ?_⟩) ?_ ?_; rotate_left; (· intro w'; go_simp; with_reducible rfl); rotate_left; (· simp only [Act.put, List.setIfInBounds_toArray, List.set_cons_zero, List.set_cons_succ, i64_w, i32_w]; rfl))
 iterate 2 (refine runT (v := ?_) (a' := ?_) rfl rfl (take_ofW HT_.out HW_.out (by kernel_rfl)) (fun _ _ _ h => h) (Or.inl ⟨by rfl, ?_⟩) hHeld ?_ ?_; rotate_left; (· rintro w' ⟨s0, s1, s2, s3, s4, s5⟩; go_simp; with_reducible rfl); rotate_left; (· simp only [Act.put, List.setIfInBounds_toArray, List.set_cons_zero, List.set_cons_succ, i64_w, i32_w]; rfl))
 refine runE ?_
 refine one_ (i := 62) (N := some 106) #[true, true, true, true, true, true, true, true, true, true, true, true, true, true, true, true, true, true, true, true, true, true, true, true, true, true, true, true, true, true, true, true, true, true, true, true, true, true, true, true, true, true, true, true, true, true, true, true, true, true, true, true, true, true, true, true, true, true, true, true, true, true, true, false, true, false, false, false, false, false, false, false, false, false, false, false, false, false, false] rfl rfl (one_of HT_.out (by kernel_rfl)) (by decide) (fun K hK => ?_)
 refine gO Try.func28 #[.int .i64 2, .int .i64 6] ?_
 with_reducible refine (slotmeshlaw12_cell.calls 2 6 t233 t234 _ A30.out).mono ?_
 rintro e w104 ⟨rfl, hb⟩
 refine ⟨_, rfl, ?_⟩
 replace HO140 := tR HO140 hb
 replace HO143 := tR HO143 hb
 replace HO146 := tR HO146 hb
 replace HO155 := tR HO155 hb
 replace HO158 := tR HO158 hb
 replace HO161 := tR HO161 hb
 replace HO168 := tR HO168 hb
 replace HO175 := tR HO175 hb
 replace HO178 := tR HO178 hb
 replace HO181 := tR HO181 hb
 replace HO190 := tR HO190 hb
 replace HO193 := tR HO193 hb
 replace HO196 := tR HO196 hb
 replace HO203 := tR HO203 hb
 replace HO206 := tR HO206 hb
 replace HO209 := tR HO209 hb
 replace HO213 := tR HO213 hb
 replace HO216 := tR HO216 hb
 replace HO219 := tR HO219 hb
 replace HO225 := tR HO225 hb
 replace HO228 := tR HO228 hb
 replace HO231 := tR HO231 hb
 replace BK148 := tB BK148 hb
 replace BK163 := tB BK163 hb
 replace BK183 := tB BK183 hb
 replace BK198 := tB BK198 hb
 replace HB := tW HB hb
 (try clear hb)
 (try clear hb2)
 (try clear hk)
 (try clear hi)
 refine hK.out _ _ ⟨bt BK148 0, bt BK148 1, bt BK148 2, bt BK183 0, bt BK183 1, bt BK183 2⟩ (fun hHeld => ?_)
 clear hK K
 refine norm_ (a' := ?_) ?_ ?_
 rotate_left
 ·show Act.put _ (some 106) _ = _
  simp only [Act.put, List.setIfInBounds_toArray, List.set_cons_zero, List.set_cons_succ, i64_w, i32_w]
  rfl
 refine one_ (i := 63) (N := some 107) #[true, true, true, true, true, true, true, true, true, true, true, true, true, true, true, true, true, true, true, true, true, true, true, true, true, true, true, true, true, true, true, true, true, true, true, true, true, true, true, true, true, true, true, true, true, true, true, true, true, true, true, true, true, true, true, true, true, true, true, true, true, true, true, true, true, false, false, false, false, false, false, false, false, false, false, false, false, false, false] rfl rfl (one_of HT_.out (by kernel_rfl)) (by decide) (fun K hK => ?_)
 refine gO Try.func21 #[.agg #[.slice Ao40 t138.length co40, .slice Ao42 t141.length co42, .slice Ao43 t144.length co43], .agg #[.int .i64 t233, .int .i64 t234]] ?_
 with_reducible refine (cells_Drop.calls _ _ t138 _ _ t141 _ _ t144 t233 t234 t235 t238 t241 _ ?side1 ?side2 ?side3 ?side4 ?side5 ?side6 A31.out).mono ?_
 (case side1 => exact sC (Kd.R_reads' HO140.out).2.2)
 (case side2 => exact (Kd.R_reads' HO140.out).2.1)
 (case side3 => exact sC (Kd.R_reads' HO143.out).2.2)
 (case side4 => exact (Kd.R_reads' HO143.out).2.1)
 (case side5 => exact sC (Kd.R_reads' HO146.out).2.2)
 (case side6 => exact (Kd.R_reads' HO146.out).2.1)
 rintro e w105 ⟨v236, v239, v242, rfl, ho0, ho1, ho2, hb⟩
 refine ⟨_, rfl, ?_⟩
 have HO237 := Aside0.mk (Kd.R_lower (Kd.R_new' (Kd.R_new' (Kd.R_new' (Kd.R_new' (Kd.R_new' (Kd.R_new' (Kd.R_new' ho0 (Kd.R_lt (sR HO140))) (Kd.R_lt (sR HO155))) (Kd.R_lt (sR HO175))) (Kd.R_lt (sR HO190))) (Kd.R_lt (sR HO203))) (Kd.R_lt (sR HO213))) (Kd.R_lt (sR HO225))) (below_size (sW HB)))
 replace HO140 := eR HO140 ho0 hb
 replace HO155 := eR HO155 ho0 hb
 replace HO175 := eR HO175 ho0 hb
 replace HO190 := eR HO190 ho0 hb
 replace HO203 := eR HO203 ho0 hb
 replace HO213 := eR HO213 ho0 hb
 replace HO225 := eR HO225 ho0 hb
 have HO240 := Aside0.mk (Kd.R_lower (Kd.R_new' (Kd.R_new' (Kd.R_new' (Kd.R_new' (Kd.R_new' (Kd.R_new' (Kd.R_new' ho1 (Kd.R_lt (sR HO143))) (Kd.R_lt (sR HO158))) (Kd.R_lt (sR HO178))) (Kd.R_lt (sR HO193))) (Kd.R_lt (sR HO206))) (Kd.R_lt (sR HO216))) (Kd.R_lt (sR HO228))) (below_size (sW HB)))
 replace HO143 := eR HO143 ho1 hb
 replace HO158 := eR HO158 ho1 hb
 replace HO178 := eR HO178 ho1 hb
 replace HO193 := eR HO193 ho1 hb
 replace HO206 := eR HO206 ho1 hb
 replace HO216 := eR HO216 ho1 hb
 replace HO228 := eR HO228 ho1 hb
 have HO243 := Aside0.mk (Kd.R_lower (Kd.R_new' (Kd.R_new' (Kd.R_new' (Kd.R_new' (Kd.R_new' (Kd.R_new' (Kd.R_new' (Kd.R_new' ho2 (Kd.R_lt (sR HO146))) (Kd.R_lt (sR HO161))) (Kd.R_lt (sR HO168))) (Kd.R_lt (sR HO181))) (Kd.R_lt (sR HO196))) (Kd.R_lt (sR HO209))) (Kd.R_lt (sR HO219))) (Kd.R_lt (sR HO231))) (below_size (sW HB)))
 replace HO146 := eR HO146 ho2 hb
 replace HO161 := eR HO161 ho2 hb
 replace HO168 := eR HO168 ho2 hb
 replace HO181 := eR HO181 ho2 hb
 replace HO196 := eR HO196 ho2 hb
 replace HO209 := eR HO209 ho2 hb
 replace HO219 := eR HO219 ho2 hb
 replace HO231 := eR HO231 ho2 hb
 replace BK148 := tB BK148 hb
 replace BK163 := tB BK163 hb
 replace BK183 := tB BK183 hb
 replace BK198 := tB BK198 hb
 replace HB := tW HB hb
 (try clear hb)
 (try clear hb2)
 (try clear hk)
 (try clear hi)
 (try clear ho0)
 (try clear ho1)
 (try clear ho2)
 obtain ⟨Ao106, co106, eo106⟩ := Kd.R_slice HO237.out
 (first | subst eo106 | (injection eo106 with f1_ f2_ f3_; have f4_ := f1_.symm; have f5_ := f3_.symm; clear f1_ f2_ f3_; subst f4_; subst f5_))
 obtain ⟨Ao107, co107, eo107⟩ := Kd.R_slice HO240.out
 (first | subst eo107 | (injection eo107 with f1_ f2_ f3_; have f4_ := f1_.symm; have f5_ := f3_.symm; clear f1_ f2_ f3_; subst f4_; subst f5_))
 obtain ⟨Ao108, co108, eo108⟩ := Kd.R_slice HO243.out
 (first | subst eo108 | (injection eo108 with f1_ f2_ f3_; have f4_ := f1_.symm; have f5_ := f3_.symm; clear f1_ f2_ f3_; subst f4_; subst f5_))
 refine hK.out _ _ ⟨bt BK148 0, bt BK148 1, bt BK148 2, bt BK183 0, bt BK183 1, bt BK183 2⟩ (fun hHeld => ?_)
 clear hK K
 refine norm_ (a' := ?_) ?_ ?_
 rotate_left
 ·show Act.put _ (some 107) _ = _
  simp only [Act.put, List.setIfInBounds_toArray, List.set_cons_zero, List.set_cons_succ, i64_w, i32_w]
  rfl
 refine one_ (i := 65) (N := some 109) #[true, true, true, true, true, true, true, true, true, true, true, true, true, true, true, true, true, true, true, true, true, true, true, true, true, true, true, true, true, true, true, true, true, true, true, true, true, true, true, true, true, true, true, true, true, true, true, true, true, true, true, true, true, true, true, true, true, true, true, true, true, true, true, true, true, true, false, false, false, false, false, false, false, false, false, false, false, false, false] rfl rfl (one_of HT_.out (by kernel_rfl)) (by decide) (fun K hK => ?_)
 refine gO Try.func16 #[.agg #[.slice Ao106 t235.length co106, .slice Ao107 t238.length co107, .slice Ao108 t241.length co108], .agg #[.slice Ao40 t138.length co40, .slice Ao42 t141.length co42, .slice Ao43 t144.length co43]] ?_
 with_reducible refine (slotmeshref12_Same.calls 64 _ _ t235 _ _ t238 _ _ t241 _ _ t138 _ _ t141 _ _ t144 true _ ?side1 ?side2 ?side3 ?side4 ?side5 ?side6 ?side7 ?side8 ?side9 ?side10 ?side11 ?side12 A32.out).mono ?_
 (case side1 => exact sC (Kd.R_reads' HO237.out).2.2)
 (case side2 => exact (Kd.R_reads' HO237.out).2.1)
 (case side3 => exact sC (Kd.R_reads' HO240.out).2.2)
 (case side4 => exact (Kd.R_reads' HO240.out).2.1)
 (case side5 => exact sC (Kd.R_reads' HO243.out).2.2)
 (case side6 => exact (Kd.R_reads' HO243.out).2.1)
 (case side7 => exact sC (Kd.R_reads' HO140.out).2.2)
 (case side8 => exact (Kd.R_reads' HO140.out).2.1)
 (case side9 => exact sC (Kd.R_reads' HO143.out).2.2)
 (case side10 => exact (Kd.R_reads' HO143.out).2.1)
 (case side11 => exact sC (Kd.R_reads' HO146.out).2.2)
 (case side12 => exact (Kd.R_reads' HO146.out).2.1)
 rintro e w109 ⟨rfl, hb⟩
 refine ⟨_, rfl, ?_⟩
 replace HO140 := tR HO140 hb
 replace HO143 := tR HO143 hb
 replace HO146 := tR HO146 hb
 replace HO155 := tR HO155 hb
 replace HO158 := tR HO158 hb
 replace HO161 := tR HO161 hb
 replace HO168 := tR HO168 hb
 replace HO175 := tR HO175 hb
 replace HO178 := tR HO178 hb
 replace HO181 := tR HO181 hb
 replace HO190 := tR HO190 hb
 replace HO193 := tR HO193 hb
 replace HO196 := tR HO196 hb
 replace HO203 := tR HO203 hb
 replace HO206 := tR HO206 hb
 replace HO209 := tR HO209 hb
 replace HO213 := tR HO213 hb
 replace HO216 := tR HO216 hb
 replace HO219 := tR HO219 hb
 replace HO225 := tR HO225 hb
 replace HO228 := tR HO228 hb
 replace HO231 := tR HO231 hb
 replace HO237 := tR HO237 hb
 replace HO240 := tR HO240 hb
 replace HO243 := tR HO243 hb
 replace BK148 := tB BK148 hb
 replace BK163 := tB BK163 hb
 replace BK183 := tB BK183 hb
 replace BK198 := tB BK198 hb
 replace HB := tW HB hb
 (try clear hb)
 (try clear hb2)
 (try clear hk)
 (try clear hi)
 refine hK.out _ _ ⟨bt BK148 0, bt BK148 1, bt BK148 2, bt BK183 0, bt BK183 1, bt BK183 2⟩ (fun hHeld => ?_)
 clear hK K
 refine norm_ (a' := ?_) ?_ ?_
 rotate_left
 ·show Act.put _ (some 109) _ = _
  simp only [Act.put, List.setIfInBounds_toArray, List.set_cons_zero, List.set_cons_succ, i64_w, i32_w]
  rfl
 refine run_ [(66, some 110), (67, some 111), (68, some 112)] ?_
 iterate 2 (refine runP (v := ?_) (a' := ?_) rfl rfl (any_of HT_.out (by kernel_rfl)) (fun _ _ _ h => h) (Or.inl ⟨by rfl, ?_⟩) ?_ ?_; rotate_left; (· intro w'; go_simp; with_reducible rfl); rotate_left; (· simp only [Act.put, List.setIfInBounds_toArray, List.set_cons_zero, List.set_cons_succ, i64_w, i32_w]; rfl))
 refine runT (v := ?_) (a' := ?_) rfl rfl (take_ofW HT_.out HW_.out (by kernel_rfl)) (fun _ _ _ h => h) (Or.inl ⟨by rfl, ?_⟩) hHeld ?_ ?_; rotate_left; (· rintro w' ⟨s0, s1, s2, s3, s4, s5⟩; go_simp; with_reducible rfl); rotate_left; (· simp only [Act.put, List.setIfInBounds_toArray, List.set_cons_zero, List.set_cons_succ, i64_w, i32_w]; rfl)
 refine runE ?_
 refine one_ (i := 69) (N := some 113) #[true, true, true, true, true, true, true, true, true, true, true, true, true, true, true, true, true, true, true, true, true, true, true, true, true, true, true, true, true, true, true, true, true, true, true, true, true, true, true, true, true, true, true, true, true, true, true, true, true, true, true, true, true, true, true, true, true, true, true, true, true, true, true, true, true, true, true, true, true, true, false, false, false, false, false, false, false, false, false] rfl rfl (one_of HT_.out (by kernel_rfl)) (by decide) (fun K hK => ?_)
 refine gO Try.func27 #[] ?_
 with_reducible refine (slotmeshlaw12_layout.calls  t245 t246 _ A33.out).mono ?_
 rintro e w110 ⟨rfl, hb⟩
 refine ⟨_, rfl, ?_⟩
 replace HO140 := tR HO140 hb
 replace HO143 := tR HO143 hb
 replace HO146 := tR HO146 hb
 replace HO155 := tR HO155 hb
 replace HO158 := tR HO158 hb
 replace HO161 := tR HO161 hb
 replace HO168 := tR HO168 hb
 replace HO175 := tR HO175 hb
 replace HO178 := tR HO178 hb
 replace HO181 := tR HO181 hb
 replace HO190 := tR HO190 hb
 replace HO193 := tR HO193 hb
 replace HO196 := tR HO196 hb
 replace HO203 := tR HO203 hb
 replace HO206 := tR HO206 hb
 replace HO209 := tR HO209 hb
 replace HO213 := tR HO213 hb
 replace HO216 := tR HO216 hb
 replace HO219 := tR HO219 hb
 replace HO225 := tR HO225 hb
 replace HO228 := tR HO228 hb
 replace HO231 := tR HO231 hb
 replace HO237 := tR HO237 hb
 replace HO240 := tR HO240 hb
 replace HO243 := tR HO243 hb
 replace BK148 := tB BK148 hb
 replace BK163 := tB BK163 hb
 replace BK183 := tB BK183 hb
 replace BK198 := tB BK198 hb
 replace HB := tW HB hb
 (try clear hb)
 (try clear hb2)
 (try clear hk)
 (try clear hi)
 refine hK.out _ _ ⟨bt BK148 0, bt BK148 1, bt BK148 2, bt BK183 0, bt BK183 1, bt BK183 2⟩ (fun hHeld => ?_)
 clear hK K
 refine norm_ (a' := ?_) ?_ ?_
 rotate_left
 ·show Act.put _ (some 113) _ = _
  simp only [Act.put, List.setIfInBounds_toArray, List.set_cons_zero, List.set_cons_succ, i64_w, i32_w]
  rfl
 refine one_ (i := 70) (N := some 114) #[true, true, true, true, true, true, true, true, true, true, true, true, true, true, true, true, true, true, true, true, true, true, true, true, true, true, true, true, true, true, true, true, true, true, true, true, true, true, true, true, true, true, true, true, true, true, true, true, true, true, true, true, true, true, true, true, true, true, true, true, true, true, true, true, true, true, true, true, true, true, true, false, false, false, false, false, false, false, false] rfl rfl (one_of HT_.out (by kernel_rfl)) (by decide) (fun K hK => ?_)
 refine gO Try.func17 #[.agg #[.slice Ao65 t173.length co65, .slice Ao69 t176.length co69, .slice Ao70 t179.length co70], .agg #[.int .i64 t245, .int .i64 t246]] ?_
 with_reducible refine (cells_Valid.calls _ _ t173 _ _ t176 _ _ t179 t245 t246 true _ ?side1 ?side2 ?side3 ?side4 ?side5 ?side6 A34.out).mono ?_
 (case side1 => exact sC (Kd.R_reads' HO175.out).2.2)
 (case side2 => exact (Kd.R_reads' HO175.out).2.1)
 (case side3 => exact sC (Kd.R_reads' HO178.out).2.2)
 (case side4 => exact (Kd.R_reads' HO178.out).2.1)
 (case side5 => exact sC (Kd.R_reads' HO181.out).2.2)
 (case side6 => exact (Kd.R_reads' HO181.out).2.1)
 rintro e w111 ⟨rfl, hb⟩
 refine ⟨_, rfl, ?_⟩
 replace HO140 := tR HO140 hb
 replace HO143 := tR HO143 hb
 replace HO146 := tR HO146 hb
 replace HO155 := tR HO155 hb
 replace HO158 := tR HO158 hb
 replace HO161 := tR HO161 hb
 replace HO168 := tR HO168 hb
 replace HO175 := tR HO175 hb
 replace HO178 := tR HO178 hb
 replace HO181 := tR HO181 hb
 replace HO190 := tR HO190 hb
 replace HO193 := tR HO193 hb
 replace HO196 := tR HO196 hb
 replace HO203 := tR HO203 hb
 replace HO206 := tR HO206 hb
 replace HO209 := tR HO209 hb
 replace HO213 := tR HO213 hb
 replace HO216 := tR HO216 hb
 replace HO219 := tR HO219 hb
 replace HO225 := tR HO225 hb
 replace HO228 := tR HO228 hb
 replace HO231 := tR HO231 hb
 replace HO237 := tR HO237 hb
 replace HO240 := tR HO240 hb
 replace HO243 := tR HO243 hb
 replace BK148 := tB BK148 hb
 replace BK163 := tB BK163 hb
 replace BK183 := tB BK183 hb
 replace BK198 := tB BK198 hb
 replace HB := tW HB hb
 (try clear hb)
 (try clear hb2)
 (try clear hk)
 (try clear hi)
 refine hK.out _ _ ⟨bt BK148 0, bt BK148 1, bt BK148 2, bt BK183 0, bt BK183 1, bt BK183 2⟩ (fun hHeld => ?_)
 clear hK K
 refine norm_ (a' := ?_) ?_ ?_
 rotate_left
 ·show Act.put _ (some 114) _ = _
  simp only [Act.put, List.setIfInBounds_toArray, List.set_cons_zero, List.set_cons_succ, i64_w, i32_w]
  rfl
 refine run_ [(71, some 115), (72, some 116), (74, some 118), (73, some 117)] ?_
 iterate 3 (refine runP (v := ?_) (a' := ?_) rfl rfl (any_of HT_.out (by kernel_rfl)) (fun _ _ _ h => h) (Or.inl ⟨by rfl, ?_⟩) ?_ ?_; rotate_left; (· intro w'; go_simp; with_reducible rfl); rotate_left; (· simp only [Act.put, List.setIfInBounds_toArray, List.set_cons_zero, List.set_cons_succ, i64_w, i32_w]; rfl))
 refine runT (v := ?_) (a' := ?_) rfl rfl (take_ofW HT_.out HW_.out (by kernel_rfl)) (fun _ _ _ h => h) (Or.inl ⟨by rfl, ?_⟩) hHeld ?_ ?_; rotate_left; (· rintro w' ⟨s0, s1, s2, s3, s4, s5⟩; go_simp; with_reducible rfl); rotate_left; (· simp only [Act.put, List.setIfInBounds_toArray, List.set_cons_zero, List.set_cons_succ, i64_w, i32_w]; rfl)
 refine runE ?_
 refine one_ (i := 75) (N := some 119) #[true, true, true, true, true, true, true, true, true, true, true, true, true, true, true, true, true, true, true, true, true, true, true, true, true, true, true, true, true, true, true, true, true, true, true, true, true, true, true, true, true, true, true, true, true, true, true, true, true, true, true, true, true, true, true, true, true, true, true, true, true, true, true, true, true, true, true, true, true, true, true, true, true, true, true, true, false, false, false] rfl rfl (one_of HT_.out (by kernel_rfl)) (by decide) (fun K hK => ?_)
 refine gO Try.func17 #[.agg #[.slice Ao65 t173.length co65, .slice Ao69 t176.length co69, .slice Ao70 t179.length co70], .agg #[.int .i64 2, .int .i64 4]] ?_
 with_reducible refine (cells_Valid.calls _ _ t173 _ _ t176 _ _ t179 2 4 t248 _ ?side1 ?side2 ?side3 ?side4 ?side5 ?side6 A35.out).mono ?_
 (case side1 => exact sC (Kd.R_reads' HO175.out).2.2)
 (case side2 => exact (Kd.R_reads' HO175.out).2.1)
 (case side3 => exact sC (Kd.R_reads' HO178.out).2.2)
 (case side4 => exact (Kd.R_reads' HO178.out).2.1)
 (case side5 => exact sC (Kd.R_reads' HO181.out).2.2)
 (case side6 => exact (Kd.R_reads' HO181.out).2.1)
 rintro e w112 ⟨rfl, hb⟩
 refine ⟨_, rfl, ?_⟩
 replace HO140 := tR HO140 hb
 replace HO143 := tR HO143 hb
 replace HO146 := tR HO146 hb
 replace HO155 := tR HO155 hb
 replace HO158 := tR HO158 hb
 replace HO161 := tR HO161 hb
 replace HO168 := tR HO168 hb
 replace HO175 := tR HO175 hb
 replace HO178 := tR HO178 hb
 replace HO181 := tR HO181 hb
 replace HO190 := tR HO190 hb
 replace HO193 := tR HO193 hb
 replace HO196 := tR HO196 hb
 replace HO203 := tR HO203 hb
 replace HO206 := tR HO206 hb
 replace HO209 := tR HO209 hb
 replace HO213 := tR HO213 hb
 replace HO216 := tR HO216 hb
 replace HO219 := tR HO219 hb
 replace HO225 := tR HO225 hb
 replace HO228 := tR HO228 hb
 replace HO231 := tR HO231 hb
 replace HO237 := tR HO237 hb
 replace HO240 := tR HO240 hb
 replace HO243 := tR HO243 hb
 replace BK148 := tB BK148 hb
 replace BK163 := tB BK163 hb
 replace BK183 := tB BK183 hb
 replace BK198 := tB BK198 hb
 replace HB := tW HB hb
 (try clear hb)
 (try clear hb2)
 (try clear hk)
 (try clear hi)
 refine hK.out _ _ ⟨bt BK148 0, bt BK148 1, bt BK148 2, bt BK183 0, bt BK183 1, bt BK183 2⟩ (fun hHeld => ?_)
 clear hK K
 refine norm_ (a' := ?_) ?_ ?_
 rotate_left
 ·show Act.put _ (some 119) _ = _
  simp only [Act.put, List.setIfInBounds_toArray, List.set_cons_zero, List.set_cons_succ, i64_w, i32_w]
  rfl
 refine run_ [(76, some 120), (77, some 121), (78, some 0)] ?_
 iterate 3 (refine runP (v := ?_) (a' := ?_) rfl rfl (any_of HT_.out (by kernel_rfl)) (fun _ _ _ h => h) (Or.inl ⟨by rfl, ?_⟩) ?_ ?_; rotate_left; (· intro w'; go_simp; with_reducible rfl); rotate_left; (· simp only [Act.put, List.setIfInBounds_toArray, List.set_cons_zero, List.set_cons_succ, i64_w, i32_w]; rfl))
 refine runE ?_
 refine done_ (done_of HT_.out (by kernel_rfl)) ?_
 try go_wp2
 go_ret
 exact ⟨by first | rfl | (simp [errW_none, errW_some] <;> rfl) | (simp only [Nt134.out, Nt135.out, Nt136.out, Nt137.out, Nt138.out, Nt141.out, Nt144.out, Nt147.out, Nt149.out, Nt150.out, Nt151.out, Nt152.out, Nt153.out, Nt156.out, Nt159.out, Nt162.out, Nt164.out, Nt165.out, Ny166.out, Nt169.out, Nt170.out, Nt171.out, Nt172.out, Nt173.out, Nt176.out, Nt179.out, Nt182.out, Nt184.out, Nt185.out, Nt186.out, Nt187.out, Nt188.out, Nt191.out, Nt194.out, Nt197.out, Nt201.out, Nt204.out, Nt207.out, Nt211.out, Nt214.out, Nt217.out, Nt221.out, Nt222.out, Nt223.out, Nt226.out, Nt229.out, Nt233.out, Nt234.out, Nt235.out, Nt238.out, Nt241.out, Nt245.out, Nt246.out, Nt248.out] <;> rfl) | (simp [*, errW_none, errW_some] <;> rfl), sW HB⟩

end Go.Proofs.Ytbpfbdljcdcgnaa.Px
