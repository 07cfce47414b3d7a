/- Walks of functions of this seat, written by a program of this workplace out of the translation. -/
import Derived.Test.YtbpfbdljcdcgnaaPx0
import Derived.Test.YtbpfbdljcdcgnaaPx5
namespace Go.Proofs.Ytbpfbdljcdcgnaa.Px
open Go.RowKit Go.Proofs.YtbpfbdljcdcgnaaW.PrintWords Go.Proofs.YtbpfbdljcdcgnaaW.PrintLast Go.Proofs.YtbpfbdljcdcgnaaW.PrintMore
attribute [local go_sem] max2_int min2_int max_two min_two max_three min_three max_four min_four   -- for this text's walks alone
set_option linter.unusedVariables false
set_option linter.unusedSimpArgs false

-- NOT PRINTED: function 74 (api_Use_74)

/-! ### api_Use_63: function 63 -/
set_option maxHeartbeats 4000000 in
theorem growU (n : Int) (w : World) (h0 : 0 ≤ n) (hn : n < 4398046511104) :
  Calls Try.prog 74 #[.slice none 0 0, .int .i64 n] w fun e w' => ∃ v0_ : Value, e = .returned (v0_) ∧ Kd.R k32 32 w' w.heap.size (fun _ => True) v0_ ([] : List (S32)) ∧ Below w.heap.size w w' := by
 have HB := Aside0.mk (Below.refl w.heap.size w)
 by_cases hp : 0 < n
 ·have hcut0 := cut_to (P := Try.prog) 22 32 .i64 Try.underlying22 (info_parts info32).choose_spec.1 none 0 0 0 (by omega) (by omega) (by omega)
  go_enter Try.func74, Try.ntmps74
  go_wp2_with (first
   | ((with_reducible refine gate_builtin (b := .append) (xs := #[.tmp 20, .tmp 21]) rfl ?_); at_builtin; refine Kd.R_append_zeros k32 (w0 := w) w.heap.size rfl (.tmp 20) (.tmp 21) 22 3 32 (.agg #[(.int .i64 0), (.int .i64 0), (.int .i64 0), (.int .i64 0)]) 32 rfl Try.underlying22 Try.underlying3 info32 rfl (by decide) (by omega) (.slice none 0 0) [] z32 n (fun _ => True) rfl rfl (k32_mkM _ _ _ z32) (fun _ _ => trivial) ?aO h0 ?aB ?aS ?aL ?_; (case aO => exact Kd.R_nil _ _ _ _ _); (case aB => exact HB.out); (case aS => exact Nat.le_refl _); (case aL => simp; omega); intro v22 w22 ho hb hg hat; clear hg hat; have HO22 := Aside0.mk ho; have HB22 := Aside0.mk hb; clear ho hb; obtain ⟨A22, c22, e22⟩ := Kd.R_slice HO22.out; subst e22; have hcut1 := cut_to (P := Try.prog) 22 32 .i64 Try.underlying22 (info_parts info32).choose_spec.1 A22 _ c22 0 (by omega) (by omega) (Kd.R_reads' HO22.out).2.1))
  go_ret
  exact ⟨_, rfl, by have := Kd.R_take (m := 0) HO22.out (by omega); simpa using this, HB22.out⟩
 obtain rfl : n = 0 := by omega
 go_enter Try.func74, Try.ntmps74
 go_wp2
 go_ret
 exact ⟨_, rfl, Kd.R_nil _ _ _ _ _, HB.out⟩
theorem take_flat {α : Type} (l : List (List α)) (k : Nat) (h : k < l.length) : (l.take (k + 1)).flatten = (l.take k).flatten ++ l.getD k [] := by
 rw [List.take_succ_eq_append_getElem h, List.flatten_append]
 simp [List.getD_eq_getElem?_getD, h]
theorem take_flat_le {α : Type} (l : List (List α)) (k : Nat) : (l.take k).flatten.length ≤ l.flatten.length := by
 have : l.flatten = (l.take k).flatten ++ (l.drop k).flatten := by rw [← List.flatten_append, List.take_append_drop]
 rw [this, List.length_append]; omega
def api_Use_63.f (l0 : List (List (S32))) : Option (List (S32)) := if l0.flatten.length < 4398046511104 then some l0.flatten else none
set_option maxHeartbeats 4000000 in
theorem api_Use_63.calls (A0 : Option Addr) (c0 : Nat) (l0 : List (List (S32))) (r : List (S32)) (w : World) (hr0 : Kd.C (Kd.slice 32 k32) w A0 l0.length l0) (hc0 : l0.length ≤ c0) (h : api_Use_63.f l0 = some r) :
  Calls Try.prog 63 #[.slice A0 l0.length c0] w fun e w' => ∃ v0_ : Value, e = .returned (v0_) ∧ Kd.R k32 32 w' w.heap.size (fun _ => True) v0_ r ∧ Below w.heap.size w w' := by
 have HL : Aside0 (l0.flatten.length < 4398046511104 ∧ l0.flatten = r) := ⟨by
  unfold api_Use_63.f at h
  by_cases hl : l0.flatten.length < 4398046511104
  ·rw [if_pos hl] at h; exact ⟨hl, Option.some.inj h⟩
  rw [if_neg hl] at h; exact absurd h (by simp)⟩
 obtain rfl := HL.out.2
 clear h hc0
 have HR := Aside0.mk hr0
 clear hr0
 have HB := Aside0.mk (Below.refl w.heap.size w)
 have HN := Aside0.mk (show l0.length ≤ 9223372036854775807 by have := HR.out.2.1; omega)
 go_enter Try.func63, Try.ntmps63
 go_wp2
 go_loopg [3, 11] l0.length (fun gg s3 s11 wr => ∃ kk : Nat, s3 = .int .i64 ((l0.take kk).flatten.length : Nat) ∧ s11 = .int .i64 kk ∧ Aside0 (kk ≤ l0.length ∧ l0.length - kk ≤ gg) ∧ Aside0 (Drawn0 w wr))
 case atStart => exact ⟨0, by simp, rfl, ⟨Nat.zero_le _, by omega⟩, ⟨Drawn0.refl _⟩⟩
 case round =>
  obtain ⟨kk, rfl, rfl, HK, HD⟩ := hrel
  by_cases hlt : kk < l0.length
  ·obtain ⟨ad, c, eA, _, hK, hc⟩ := Kd.C_get (Kd.C_below HR.out HD.out.below) [] kk (by omega) (by omega)
   obtain ⟨A1, c1, rfl, hl1, hC1⟩ := hK
   subst eA
   have h0 := hc 0 _ rfl
   simp only [Int.toNat_natCast] at h0
   rw [show kk * (Kd.slice 32 k32).sz + 0 = kk from by show kk * 1 + 0 = kk; omega] at h0
   have hltb : decide ((kk : Int) < (l0.length : Int)) = true := decide_eq_true (by omega)
   have hltz : (kk : Int) < (l0.length : Int) := by omega
   have hk0 : 0 ≤ (kk : Int) := by omega
   have hN := HN.out
   have hsum := congrArg List.length (take_flat l0 kk hlt)
   rw [List.length_append] at hsum
   have hle := take_flat_le l0 (kk + 1)
   have hb1 := HL.out.1
   have hs0 : (0 : Int) ≤ ((l0.take kk).flatten.length : Nat) := by omega
   have hs1 : (((l0.take kk).flatten.length : Nat) : Int) ≤ 4398046511104 := by omega
   have hn0 : (0 : Int) ≤ ((l0.getD kk []).length : Nat) := by omega
   have hn1 : (((l0.getD kk []).length : Nat) : Int) ≤ 4398046511104 := by omega
   have HS := Aside0.mk hsum
   have HLE := Aside0.mk hle
   clear hsum hle hb1 hC1 hc hl1
   generalize (l0.getD kk []).length = n1 at h0 hn0 hn1 HS
   generalize hsz : (l0.take kk).flatten.length = sz at hs0 hs1 HS ⊢
   clear hsz
   have hneg : decide (((sz : Int) + (n1 : Int)) < 0) = false := decide_eq_false (by omega)
   have hneg2 : decide (((sz : Nat) + (n1 : Nat) : Int) < 0) = false := decide_eq_false (by omega)
   go_wp2
   go_roundg (l0.length - (kk + 1))
   case measure => have := HK.out; omega
   case rel => exact ⟨kk + 1, by rw [HS.out]; go_num, by go_num, ⟨by have := HK.out; omega, by omega⟩, ⟨HD.out⟩⟩
  have hkl : kk = l0.length := by have := HK.out; omega
  have hd : decide ((kk : Int) < (l0.length : Int)) = false := decide_eq_false (by omega)
  have hT : (l0.take kk).flatten.length = l0.flatten.length := by rw [hkl, List.take_length]
  rw [hT]
  have HKL := Aside0.mk hkl
  clear hkl hT
  have hb1 := HL.out.1
  generalize l0.flatten.length = nF at hb1 ⊢
  have HD1 := Aside0.mk (HD.out.below)
  go_wp2_with (first
   | (go_at_call 74; refine (growU _ _ (by omega) (by omega)).mono ?_; rintro e w6 ⟨v6, rfl, ho, hb⟩; have HO6 := Aside0.mk (Kd.R_lower ho HD1.out.size); have HB6 := Aside0.mk (below_step HD1.out hb); clear ho hb))
  go_loopg [6, 27] l0.length (fun gg s6 s27 wr => ∃ kk : Nat, s27 = .int .i64 kk ∧ Aside0 (kk ≤ l0.length ∧ l0.length - kk ≤ gg) ∧ Aside0 (Kd.R k32 32 wr w.heap.size (fun _ => True) s6 (l0.take kk).flatten) ∧ Aside0 (Below w.heap.size w wr))
  case atStart => exact ⟨0, rfl, ⟨Nat.zero_le _, by omega⟩, ⟨by simpa using HO6.out⟩, ⟨HB6.out⟩⟩
  case round =>
   obtain ⟨k2, rfl, HK2, HO, HB2⟩ := hrel
   by_cases hlt2 : k2 < l0.length
   ·obtain ⟨ad, c, eA, _, hK, hc⟩ := Kd.C_get (Kd.C_below HR.out HB2.out) [] k2 (by omega) (by omega)
    obtain ⟨A1, c1, rfl, hl1, hC1⟩ := hK
    have h0 := hc 0 _ rfl
    simp only [Int.toNat_natCast] at h0 hC1
    rw [show k2 * (Kd.slice 32 k32).sz + 0 = k2 from by show k2 * 1 + 0 = k2; omega] at h0
    have hltb : decide ((k2 : Int) < (l0.length : Int)) = true := decide_eq_true (by omega)
    have hltz : (k2 : Int) < (l0.length : Int) := by omega
    have hk0 : 0 ≤ (k2 : Int) := by omega
    have hN := HN.out
    have HTF := Aside0.mk (take_flat l0 k2 hlt2)
    have HLE := Aside0.mk (take_flat_le l0 (k2 + 1))
    have HC1 := Aside0.mk hC1
    have EA := Aside0.mk eA
    clear hC1 hc hl1
    generalize (l0.take k2).flatten = X6 at HO HTF
    generalize l0.getD k2 [] = Y6 at h0 HC1 HTF
    obtain ⟨A6, c6, e6⟩ := Kd.R_slice HO.out
    subst e6
    subst eA
    go_wp2_with (first
     | ((with_reducible refine gate_builtin (b := .append) (xs := #[.tmp 31, .tmp 32]) rfl ?_); at_builtin; refine Kd.R_append_rows k32 (w0 := w) w.heap.size rfl (.tmp 31) (.tmp 32) 22 32 (.agg #[(.int .i64 0), (.int .i64 0), (.int .i64 0), (.int .i64 0)]) 32 rfl Try.underlying22 info32 rfl (by decide) (by omega) (.slice A6 X6.length c6) X6 Y6 _ _ _ (fun _ => True) (fun _ => False) rfl rfl ?aO ?aR (fun _ _ h_ => flat32 _ _ _ _ _ h_) (fun _ h_ => h_.elim) (fun _ _ => trivial) ?aB ?aS ?aL ?_; (case aR => exact HC1.out); (case aO => exact HO.out); (case aB => exact HB2.out); (case aS => exact HB2.out.size); (case aL => have h1_ := HL.out.1; have h2_ := HLE.out; have h3_ := congrArg List.length HTF.out; rw [List.length_append] at h3_; omega); intro v7 w7 ho hb hg hat; clear hg hat; have HO7 := Aside0.mk ho; have HB7 := Aside0.mk hb; clear ho hb))
    go_roundg (l0.length - (k2 + 1))
    case measure => have := HK2.out; omega
    case rel => exact ⟨k2 + 1, by go_num, ⟨by have := HK2.out; omega, by omega⟩, ⟨by rw [HTF.out]; exact HO7.out⟩, ⟨HB7.out⟩⟩
   have hkl2 : k2 = l0.length := by have := HK2.out; omega
   have hd2 : decide ((k2 : Int) < (l0.length : Int)) = false := decide_eq_false (by omega)
   have HF := Aside0.mk (show (l0.take k2).flatten = l0.flatten by rw [hkl2, List.take_length])
   clear hkl2
   go_wp2
   go_ret
   exact ⟨_, rfl, by rw [← HF.out]; exact HO.out, HB2.out⟩

end Go.Proofs.Ytbpfbdljcdcgnaa.Px
