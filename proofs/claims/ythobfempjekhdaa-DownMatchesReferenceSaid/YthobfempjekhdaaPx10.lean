/- Walks of functions of this seat, written by a program of this workplace out of the translation. -/
import Derived.Test.YthobfempjekhdaaPx0
import Derived.Test.YthobfempjekhdaaPx3
import Derived.Test.YthobfempjekhdaaPx4
import Derived.Test.YthobfempjekhdaaPx5
import Derived.Test.YthobfempjekhdaaPx7
import Derived.Test.YthobfempjekhdaaPx8
import Derived.Test.YthobfempjekhdaaPx9
namespace Go.Proofs.Ythobfempjekhdaa.Px
open Go.RowKit Go.Proofs.YthobfempjekhdaaW.PrintWords Go.Proofs.YthobfempjekhdaaW.PrintLast Go.Proofs.YthobfempjekhdaaW.PrintMore
attribute [local go_sem] max2_int min2_int max_two min_two max_three min_three max_four min_four   -- for this text's walks alone
set_option linter.unusedVariables false
set_option linter.unusedSimpArgs false

/-! ### slotmeshlaw21_DownMatchesReference: function 3 -/
def slotmeshlaw21_DownMatchesReference.f (k : Nat) (l0 : List (S35)) (a1 : Int) (a2 : Int) (l3 : List (S35)) (a4 : Int) (a5 : Int) : Option (Bool) := (slotmeshlaw21_head.f).bind fun t252 => ((slotmeshlaw21_short.f l0 l3).bind fun t253 => (if t253 = true then ((down_Learn.f k l0 a1 a2 l3 a4).bind fun bt254 => ((slotmeshref21_Learn.f k l0 a1 a2 l3 a4).bind fun bt258 => ((down_Next.f k l0 a5).bind fun bt262 => ((slotmeshref21_Next.f k l0 a5).bind fun bt264 => (if t252 = true then ((slotmeshref21_Same.f k bt254.1 bt258.1).bind fun t266 => (if t266 = true then (if bt254.2 = bt258.2 then (if bt262.1 = bt264.1 then (if (bt262.2 == bt264.2) = true then ((down_Expire.f k l0 a4).bind fun t267 => ((slotmeshref21_Expire.f k l0 a4).bind fun t270 => ((slotmeshref21_Same.f k t267 t270).bind fun t273 => (if t273 = true then ((down_Tell.f k l0).bind fun t274 => ((slotmeshref21_Tell.f k l0).bind fun t277 => ((slotmeshref21_Same.f k t274 t277).bind fun t280 => (some t280)))) else (some false))))) else (some false)) else (some false)) else (some false)) else (some false))) else (some false)))))) else (some t252)))
theorem slotmeshlaw21_DownMatchesReference.mono : ∀ a0 a1 a2 a3 a4 a5 k, LeO (slotmeshlaw21_DownMatchesReference.f k a0 a1 a2 a3 a4 a5) (slotmeshlaw21_DownMatchesReference.f (k + 1) a0 a1 a2 a3 a4 a5) := by
  intro a0 a1 a2 a3 a4 a5 k
  unfold slotmeshlaw21_DownMatchesReference.f
  repeat' first
      | (with_reducible exact down_Expire.mono _ _ _)
      | (with_reducible exact down_Learn.mono _ _ _ _ _ _)
      | (with_reducible exact down_Next.mono _ _ _)
      | (with_reducible exact down_Tell.mono _ _)
      | (with_reducible exact slotmeshref21_Expire.mono _ _ _)
      | (with_reducible exact slotmeshref21_Learn.mono _ _ _ _ _ _)
      | (with_reducible exact slotmeshref21_Next.mono _ _ _)
      | (with_reducible exact slotmeshref21_Same.mono _ _ _)
      | (with_reducible exact slotmeshref21_Tell.mono _ _)
      | (with_reducible exact LeO.refl _)
      | (with_reducible exact LeO.none _)
      | (with_reducible refine LeO.ite ?_ ?_)
      | (with_reducible refine LeO.bind ?_ (fun _ => ?_))
      | exact down_Expire.mono _ _ _
      | exact down_Learn.mono _ _ _ _ _ _
      | exact down_Next.mono _ _ _
      | exact down_Tell.mono _ _
      | exact slotmeshref21_Expire.mono _ _ _
      | exact slotmeshref21_Learn.mono _ _ _ _ _ _
      | exact slotmeshref21_Next.mono _ _ _
      | exact slotmeshref21_Same.mono _ _ _
      | exact slotmeshref21_Tell.mono _ _
      | exact LeO.none _
      | refine LeO.ite ?_ ?_
      | refine LeO.bind ?_ (fun _ => ?_)
set_option maxHeartbeats 8000000 in
set_option maxRecDepth 100000 in
theorem slotmeshlaw21_DownMatchesReference.calls (k : Nat) (A0 : Option Addr) (c0 : Nat) (l0 : List (S35)) (a1 : Int) (a2 : Int) (A3 : Option Addr) (c3 : Nat) (l3 : List (S35)) (a4 : Int) (a5 : Int) (r : Bool) (w : World) (hrt : r = true) (hr0 : Kd.C k35 w A0 l0.length l0) (hc0 : l0.length ≤ c0) (hr3 : Kd.C k35 w A3 l3.length l3) (hc3 : l3.length ≤ c3) (h : slotmeshlaw21_DownMatchesReference.f k l0 a1 a2 l3 a4 a5 = some r) :
    Calls Try.prog 3 #[.slice A0 l0.length c0, .int .i64 a1, .int .i64 a2, .slice A3 l3.length c3, .int .i64 a4, .int .i64 a5] w fun e w' => e = .returned (.bool r) ∧ Below w.heap.size w w' := by
  have HR0 := Aside0.mk hr0
  have HC0 := Aside0.mk hc0
  clear hr0 hc0
  have HR3 := Aside0.mk hr3
  have HC3 := Aside0.mk hc3
  clear hr3 hc3
  have HB := Aside0.mk (Below.refl w.heap.size w)
  have HRT := Aside0.mk hrt
  clear hrt
  have H : ((slotmeshlaw21_head.f).bind fun t252 => ((slotmeshlaw21_short.f l0 l3).bind fun t253 => (if t253 = true then ((down_Learn.f k l0 a1 a2 l3 a4).bind fun bt254 => ((slotmeshref21_Learn.f k l0 a1 a2 l3 a4).bind fun bt258 => ((down_Next.f k l0 a5).bind fun bt262 => ((slotmeshref21_Next.f k l0 a5).bind fun bt264 => (if t252 = true then ((slotmeshref21_Same.f k bt254.1 bt258.1).bind fun t266 => (if t266 = true then (if bt254.2 = bt258.2 then (if bt262.1 = bt264.1 then (if (bt262.2 == bt264.2) = true then ((down_Expire.f k l0 a4).bind fun t267 => ((slotmeshref21_Expire.f k l0 a4).bind fun t270 => ((slotmeshref21_Same.f k t267 t270).bind fun t273 => (if t273 = true then ((down_Tell.f k l0).bind fun t274 => ((slotmeshref21_Tell.f k l0).bind fun t277 => ((slotmeshref21_Same.f k t274 t277).bind fun t280 => (some t280)))) else (some false))))) else (some false)) else (some false)) else (some false)) else (some false))) else (some false)))))) else (some t252)))) = some r := h
  clear h
  replace H := Option.bind_eq_some_iff.mp H
  obtain ⟨t252, A70, H⟩ := H
  replace H : ((slotmeshlaw21_short.f l0 l3).bind fun t253 => (if t253 = true then ((down_Learn.f k l0 a1 a2 l3 a4).bind fun bt254 => ((slotmeshref21_Learn.f k l0 a1 a2 l3 a4).bind fun bt258 => ((down_Next.f k l0 a5).bind fun bt262 => ((slotmeshref21_Next.f k l0 a5).bind fun bt264 => (if t252 = true then ((slotmeshref21_Same.f k bt254.1 bt258.1).bind fun t266 => (if t266 = true then (if bt254.2 = bt258.2 then (if bt262.1 = bt264.1 then (if (bt262.2 == bt264.2) = true then ((down_Expire.f k l0 a4).bind fun t267 => ((slotmeshref21_Expire.f k l0 a4).bind fun t270 => ((slotmeshref21_Same.f k t267 t270).bind fun t273 => (if t273 = true then ((down_Tell.f k l0).bind fun t274 => ((slotmeshref21_Tell.f k l0).bind fun t277 => ((slotmeshref21_Same.f k t274 t277).bind fun t280 => (some t280)))) else (some false))))) else (some false)) else (some false)) else (some false)) else (some false))) else (some false)))))) else (some t252))) = some r := H
  have A7 := Aside0.mk A70
  clear A70
  replace H := Option.bind_eq_some_iff.mp H
  obtain ⟨t253, A80, H⟩ := H
  replace H : (if t253 = true then ((down_Learn.f k l0 a1 a2 l3 a4).bind fun bt254 => ((slotmeshref21_Learn.f k l0 a1 a2 l3 a4).bind fun bt258 => ((down_Next.f k l0 a5).bind fun bt262 => ((slotmeshref21_Next.f k l0 a5).bind fun bt264 => (if t252 = true then ((slotmeshref21_Same.f k bt254.1 bt258.1).bind fun t266 => (if t266 = true then (if bt254.2 = bt258.2 then (if bt262.1 = bt264.1 then (if (bt262.2 == bt264.2) = true then ((down_Expire.f k l0 a4).bind fun t267 => ((slotmeshref21_Expire.f k l0 a4).bind fun t270 => ((slotmeshref21_Same.f k t267 t270).bind fun t273 => (if t273 = true then ((down_Tell.f k l0).bind fun t274 => ((slotmeshref21_Tell.f k l0).bind fun t277 => ((slotmeshref21_Same.f k t274 t277).bind fun t280 => (some t280)))) else (some false))))) else (some false)) else (some false)) else (some false)) else (some false))) else (some false)))))) else (some t252)) = some r := H
  have A8 := Aside0.mk A80
  clear A80
  by_cases c9 : t253 = true
  · subst c9
    have H1 : ((down_Learn.f k l0 a1 a2 l3 a4).bind fun bt254 => ((slotmeshref21_Learn.f k l0 a1 a2 l3 a4).bind fun bt258 => ((down_Next.f k l0 a5).bind fun bt262 => ((slotmeshref21_Next.f k l0 a5).bind fun bt264 => (if t252 = true then ((slotmeshref21_Same.f k bt254.1 bt258.1).bind fun t266 => (if t266 = true then (if bt254.2 = bt258.2 then (if bt262.1 = bt264.1 then (if (bt262.2 == bt264.2) = true then ((down_Expire.f k l0 a4).bind fun t267 => ((slotmeshref21_Expire.f k l0 a4).bind fun t270 => ((slotmeshref21_Same.f k t267 t270).bind fun t273 => (if t273 = true then ((down_Tell.f k l0).bind fun t274 => ((slotmeshref21_Tell.f k l0).bind fun t277 => ((slotmeshref21_Same.f k t274 t277).bind fun t280 => (some t280)))) else (some false))))) else (some false)) else (some false)) else (some false)) else (some false))) else (some false)))))) = some r := by rw [if_pos rfl] at H; exact H
    clear H
    have H := H1
    clear H1
    replace H := Option.bind_eq_some_iff.mp H
    obtain ⟨⟨t254, t255⟩, A100, H⟩ := H
    replace H : ((slotmeshref21_Learn.f k l0 a1 a2 l3 a4).bind fun bt258 => ((down_Next.f k l0 a5).bind fun bt262 => ((slotmeshref21_Next.f k l0 a5).bind fun bt264 => (if t252 = true then ((slotmeshref21_Same.f k t254 bt258.1).bind fun t266 => (if t266 = true then (if t255 = bt258.2 then (if bt262.1 = bt264.1 then (if (bt262.2 == bt264.2) = true then ((down_Expire.f k l0 a4).bind fun t267 => ((slotmeshref21_Expire.f k l0 a4).bind fun t270 => ((slotmeshref21_Same.f k t267 t270).bind fun t273 => (if t273 = true then ((down_Tell.f k l0).bind fun t274 => ((slotmeshref21_Tell.f k l0).bind fun t277 => ((slotmeshref21_Same.f k t274 t277).bind fun t280 => (some t280)))) else (some false))))) else (some false)) else (some false)) else (some false)) else (some false))) else (some false))))) = some r := H
    have A10 := Aside0.mk A100
    clear A100
    replace H := Option.bind_eq_some_iff.mp H
    obtain ⟨⟨t258, t259⟩, A110, H⟩ := H
    replace H : ((down_Next.f k l0 a5).bind fun bt262 => ((slotmeshref21_Next.f k l0 a5).bind fun bt264 => (if t252 = true then ((slotmeshref21_Same.f k t254 t258).bind fun t266 => (if t266 = true then (if t255 = t259 then (if bt262.1 = bt264.1 then (if (bt262.2 == bt264.2) = true then ((down_Expire.f k l0 a4).bind fun t267 => ((slotmeshref21_Expire.f k l0 a4).bind fun t270 => ((slotmeshref21_Same.f k t267 t270).bind fun t273 => (if t273 = true then ((down_Tell.f k l0).bind fun t274 => ((slotmeshref21_Tell.f k l0).bind fun t277 => ((slotmeshref21_Same.f k t274 t277).bind fun t280 => (some t280)))) else (some false))))) else (some false)) else (some false)) else (some false)) else (some false))) else (some false)))) = some r := H
    have A11 := Aside0.mk A110
    clear A110
    replace H := Option.bind_eq_some_iff.mp H
    obtain ⟨⟨t262, t263⟩, A120, H⟩ := H
    replace H : ((slotmeshref21_Next.f k l0 a5).bind fun bt264 => (if t252 = true then ((slotmeshref21_Same.f k t254 t258).bind fun t266 => (if t266 = true then (if t255 = t259 then (if t262 = bt264.1 then (if (t263 == bt264.2) = true then ((down_Expire.f k l0 a4).bind fun t267 => ((slotmeshref21_Expire.f k l0 a4).bind fun t270 => ((slotmeshref21_Same.f k t267 t270).bind fun t273 => (if t273 = true then ((down_Tell.f k l0).bind fun t274 => ((slotmeshref21_Tell.f k l0).bind fun t277 => ((slotmeshref21_Same.f k t274 t277).bind fun t280 => (some t280)))) else (some false))))) else (some false)) else (some false)) else (some false)) else (some false))) else (some false))) = some r := H
    have A12 := Aside0.mk A120
    clear A120
    replace H := Option.bind_eq_some_iff.mp H
    obtain ⟨⟨t264, t265⟩, A130, H⟩ := H
    replace H : (if t252 = true then ((slotmeshref21_Same.f k t254 t258).bind fun t266 => (if t266 = true then (if t255 = t259 then (if t262 = t264 then (if (t263 == t265) = true then ((down_Expire.f k l0 a4).bind fun t267 => ((slotmeshref21_Expire.f k l0 a4).bind fun t270 => ((slotmeshref21_Same.f k t267 t270).bind fun t273 => (if t273 = true then ((down_Tell.f k l0).bind fun t274 => ((slotmeshref21_Tell.f k l0).bind fun t277 => ((slotmeshref21_Same.f k t274 t277).bind fun t280 => (some t280)))) else (some false))))) else (some false)) else (some false)) else (some false)) else (some false))) else (some false)) = some r := H
    have A13 := Aside0.mk A130
    clear A130
    by_cases c14 : t252 = true
    · subst c14
      have H1 : ((slotmeshref21_Same.f k t254 t258).bind fun t266 => (if t266 = true then (if t255 = t259 then (if t262 = t264 then (if (t263 == t265) = true then ((down_Expire.f k l0 a4).bind fun t267 => ((slotmeshref21_Expire.f k l0 a4).bind fun t270 => ((slotmeshref21_Same.f k t267 t270).bind fun t273 => (if t273 = true then ((down_Tell.f k l0).bind fun t274 => ((slotmeshref21_Tell.f k l0).bind fun t277 => ((slotmeshref21_Same.f k t274 t277).bind fun t280 => (some t280)))) else (some false))))) else (some false)) else (some false)) else (some false)) else (some false))) = some r := by rw [if_pos rfl] at H; exact H
      clear H
      have H := H1
      clear H1
      replace H := Option.bind_eq_some_iff.mp H
      obtain ⟨t266, A150, H⟩ := H
      replace H : (if t266 = true then (if t255 = t259 then (if t262 = t264 then (if (t263 == t265) = true then ((down_Expire.f k l0 a4).bind fun t267 => ((slotmeshref21_Expire.f k l0 a4).bind fun t270 => ((slotmeshref21_Same.f k t267 t270).bind fun t273 => (if t273 = true then ((down_Tell.f k l0).bind fun t274 => ((slotmeshref21_Tell.f k l0).bind fun t277 => ((slotmeshref21_Same.f k t274 t277).bind fun t280 => (some t280)))) else (some false))))) else (some false)) else (some false)) else (some false)) else (some false)) = some r := H
      have A15 := Aside0.mk A150
      clear A150
      by_cases c16 : t266 = true
      · subst c16
        have H1 : (if t255 = t259 then (if t262 = t264 then (if (t263 == t265) = true then ((down_Expire.f k l0 a4).bind fun t267 => ((slotmeshref21_Expire.f k l0 a4).bind fun t270 => ((slotmeshref21_Same.f k t267 t270).bind fun t273 => (if t273 = true then ((down_Tell.f k l0).bind fun t274 => ((slotmeshref21_Tell.f k l0).bind fun t277 => ((slotmeshref21_Same.f k t274 t277).bind fun t280 => (some t280)))) else (some false))))) else (some false)) else (some false)) else (some false)) = some r := by rw [if_pos rfl] at H; exact H
        clear H
        have H := H1
        clear H1
        by_cases c17 : t255 = t259
        · rw [if_pos c17] at H
          have c17b0 : (t255 == t259) = true := beq_iff_eq.mpr c17
          have c17b1 : (t255 != t259) = false := bne_eq_false_iff_eq.mpr c17
          clear c17
          by_cases c18 : t262 = t264
          · rw [if_pos c18] at H
            have c18b0 : (t262 == t264) = true := beq_iff_eq.mpr c18
            have c18b1 : (t262 != t264) = false := bne_eq_false_iff_eq.mpr c18
            clear c18
            by_cases c19 : (t263 == t265) = true
            · rw [if_pos c19] at H
              have c19b0 : (t263 == t265) = true := c19
              (try (have c19b1 : decide (t263 = t265) = true := by simpa using c19))
              (try (have c19b2 : (t263 == t265) = true := by simpa using c19))
              clear c19
              replace H := Option.bind_eq_some_iff.mp H
              obtain ⟨t267, A200, H⟩ := H
              replace H : ((slotmeshref21_Expire.f k l0 a4).bind fun t270 => ((slotmeshref21_Same.f k t267 t270).bind fun t273 => (if t273 = true then ((down_Tell.f k l0).bind fun t274 => ((slotmeshref21_Tell.f k l0).bind fun t277 => ((slotmeshref21_Same.f k t274 t277).bind fun t280 => (some t280)))) else (some false)))) = some r := H
              have A20 := Aside0.mk A200
              clear A200
              replace H := Option.bind_eq_some_iff.mp H
              obtain ⟨t270, A210, H⟩ := H
              replace H : ((slotmeshref21_Same.f k t267 t270).bind fun t273 => (if t273 = true then ((down_Tell.f k l0).bind fun t274 => ((slotmeshref21_Tell.f k l0).bind fun t277 => ((slotmeshref21_Same.f k t274 t277).bind fun t280 => (some t280)))) else (some false))) = some r := H
              have A21 := Aside0.mk A210
              clear A210
              replace H := Option.bind_eq_some_iff.mp H
              obtain ⟨t273, A220, H⟩ := H
              replace H : (if t273 = true then ((down_Tell.f k l0).bind fun t274 => ((slotmeshref21_Tell.f k l0).bind fun t277 => ((slotmeshref21_Same.f k t274 t277).bind fun t280 => (some t280)))) else (some false)) = some r := H
              have A22 := Aside0.mk A220
              clear A220
              by_cases c23 : t273 = true
              · subst c23
                have H1 : ((down_Tell.f k l0).bind fun t274 => ((slotmeshref21_Tell.f k l0).bind fun t277 => ((slotmeshref21_Same.f k t274 t277).bind fun t280 => (some t280)))) = some r := by rw [if_pos rfl] at H; exact H
                clear H
                have H := H1
                clear H1
                replace H := Option.bind_eq_some_iff.mp H
                obtain ⟨t274, A240, H⟩ := H
                replace H : ((slotmeshref21_Tell.f k l0).bind fun t277 => ((slotmeshref21_Same.f k t274 t277).bind fun t280 => (some t280))) = some r := H
                have A24 := Aside0.mk A240
                clear A240
                replace H := Option.bind_eq_some_iff.mp H
                obtain ⟨t277, A250, H⟩ := H
                replace H : ((slotmeshref21_Same.f k t274 t277).bind fun t280 => (some t280)) = some r := H
                have A25 := Aside0.mk A250
                clear A250
                replace H := Option.bind_eq_some_iff.mp H
                obtain ⟨t280, A260, H⟩ := H
                replace H : (some t280) = some r := H
                have A26 := Aside0.mk A260
                clear A260
                obtain rfl := Option.some.inj H
                go_enter Try.func3, Try.ntmps3
                go_wp2_with (first | ((with_reducible refine gate_callee (f := 10) rfl ?_); refine goesL_ (some 22) rfl rfl Try.func10 (by kernel_rfl) rfl #[] rfl (by (try simp only [List.map_toArray, List.map_cons, List.map_nil]); first | done | rfl | (simp only [List.length_drop, List.length_take]; rfl)) ?_; (with_reducible refine (slotmeshlaw21_head.calls  true _ A7.out).mono ?_); rintro e w27 ⟨rfl, hb⟩; refine ⟨_, rfl, ?_⟩; have n0_ := Aside0.mk (below_step (by repeat (first | (with_reducible first | exact HB.out | apply below_alloc | apply pw_below_drewN | apply below_drew1) | exact HB.out)) hb); clear HB; have HB := n0_; clear n0_; (try clear hb); (try clear hb2); (try clear hk); (try clear hi)) | ((with_reducible refine gate_callee (f := 11) rfl ?_); refine goesL_ (some 25) rfl rfl Try.func11 (by kernel_rfl) rfl #[.slice A0 l0.length c0, .slice A3 l3.length c3] rfl (by (try simp only [List.map_toArray, List.map_cons, List.map_nil]); first | done | rfl | (simp only [List.length_drop, List.length_take]; rfl)) ?_; (with_reducible refine (slotmeshlaw21_short.calls _ _ l0 _ _ l3 true _ ?side1 ?side2 ?side3 ?side4 A8.out).mono ?_); (case side1 => repeat (first | exact (Kd.C_below HR0.out HB.out) | (with_reducible refine Kd.C_alloc ?_ _) | (with_reducible refine Kd.C_drewN ?_ _) | (with_reducible refine Kd.C_drew ?_))); (case side2 => exact HC0.out); (case side3 => repeat (first | exact (Kd.C_below HR3.out HB.out) | (with_reducible refine Kd.C_alloc ?_ _) | (with_reducible refine Kd.C_drewN ?_ _) | (with_reducible refine Kd.C_drew ?_))); (case side4 => exact HC3.out); rintro e w' ⟨rfl, ⟨nd, rfl⟩⟩; refine ⟨_, rfl, ?_⟩) | ((with_reducible refine gate_callee (f := 12) rfl ?_); refine goesL_ (some 34) rfl rfl Try.func12 (by kernel_rfl) rfl #[.slice A0 l0.length c0, .int .i64 a1, .int .i64 a2, .slice A3 l3.length c3, .int .i64 a4] rfl (by (try simp only [List.map_toArray, List.map_cons, List.map_nil]); first | done | rfl | (simp only [List.length_drop, List.length_take]; rfl)) ?_; (with_reducible refine (down_Learn.calls k _ _ l0 a1 a2 _ _ l3 a4 t254 t255 _ ?side1 ?side2 ?side3 ?side4 A10.out).mono ?_); (case side1 => repeat (first | exact (Kd.C_below HR0.out (by repeat (first | (with_reducible first | exact HB.out | apply below_alloc | apply pw_below_drewN | apply below_drew1) | exact HB.out))) | (with_reducible refine Kd.C_alloc ?_ _) | (with_reducible refine Kd.C_drewN ?_ _) | (with_reducible refine Kd.C_drew ?_))); (case side2 => exact HC0.out); (case side3 => repeat (first | exact (Kd.C_below HR3.out (by repeat (first | (with_reducible first | exact HB.out | apply below_alloc | apply pw_below_drewN | apply below_drew1) | exact HB.out))) | (with_reducible refine Kd.C_alloc ?_ _) | (with_reducible refine Kd.C_drewN ?_ _) | (with_reducible refine Kd.C_drew ?_))); (case side4 => exact HC3.out); rintro e w28 ⟨v256, rfl, ho0, hb⟩; refine ⟨_, rfl, ?_⟩; have n0_ := Aside0.mk (Kd.R_lower ho0 (below_size (by repeat (first | (with_reducible first | exact HB.out | apply below_alloc | apply pw_below_drewN | apply below_drew1) | exact HB.out)))); have n1_ := Aside0.mk (below_step (by repeat (first | (with_reducible first | exact HB.out | apply below_alloc | apply pw_below_drewN | apply below_drew1) | exact HB.out)) hb); clear HB; have HO257 := n0_; have HB := n1_; clear n0_ n1_; (try clear hb); (try clear hb2); (try clear hk); (try clear hi); (try clear ho0)) | ((with_reducible refine gate_callee (f := 13) rfl ?_); refine goesL_ (some 43) rfl rfl Try.func13 (by kernel_rfl) rfl #[.slice A0 l0.length c0, .int .i64 a1, .int .i64 a2, .slice A3 l3.length c3, .int .i64 a4] rfl (by (try simp only [List.map_toArray, List.map_cons, List.map_nil]); first | done | rfl | (simp only [List.length_drop, List.length_take]; rfl)) ?_; (with_reducible refine (slotmeshref21_Learn.calls k _ _ l0 a1 a2 _ _ l3 a4 t258 t259 _ ?side1 ?side2 ?side3 ?side4 A11.out).mono ?_); (case side1 => repeat (first | exact (Kd.C_below HR0.out HB.out) | (with_reducible refine Kd.C_alloc ?_ _) | (with_reducible refine Kd.C_drewN ?_ _) | (with_reducible refine Kd.C_drew ?_))); (case side2 => exact HC0.out); (case side3 => repeat (first | exact (Kd.C_below HR3.out HB.out) | (with_reducible refine Kd.C_alloc ?_ _) | (with_reducible refine Kd.C_drewN ?_ _) | (with_reducible refine Kd.C_drew ?_))); (case side4 => exact HC3.out); rintro e w29 ⟨v260, rfl, ho0, hb⟩; refine ⟨_, rfl, ?_⟩; have n0_ := Aside0.mk (Kd.R_elder' (by (with_reducible repeat (first | apply Kd.R_alloc | apply Kd.R_drewN | apply Kd.R_drew)); exact HO257.out) (Kd.R_base ho0) hb); have n1_ := Aside0.mk (Kd.R_lower (Kd.R_new' ho0 (Kd.R_lt (by (with_reducible repeat (first | apply Kd.R_alloc | apply Kd.R_drewN | apply Kd.R_drew)); exact HO257.out))) (below_size (by repeat (first | (with_reducible first | exact HB.out | apply below_alloc | apply pw_below_drewN | apply below_drew1) | exact HB.out)))); have n2_ := Aside0.mk (below_step (by repeat (first | (with_reducible first | exact HB.out | apply below_alloc | apply pw_below_drewN | apply below_drew1) | exact HB.out)) hb); clear HO257; clear HB; have HO257 := n0_; have HO261 := n1_; have HB := n2_; clear n0_ n1_ n2_; (try clear hb); (try clear hb2); (try clear hk); (try clear hi); (try clear ho0)) | ((with_reducible refine gate_callee (f := 14) rfl ?_); refine goesL_ (some 49) rfl rfl Try.func14 (by kernel_rfl) rfl #[.slice A0 l0.length c0, .int .i64 a5] rfl (by (try simp only [List.map_toArray, List.map_cons, List.map_nil]); first | done | rfl | (simp only [List.length_drop, List.length_take]; rfl)) ?_; (with_reducible refine (down_Next.calls k _ _ l0 a5 t262 t263 _ ?side1 ?side2 A12.out).mono ?_); (case side1 => repeat (first | exact (Kd.C_below HR0.out HB.out) | (with_reducible refine Kd.C_alloc ?_ _) | (with_reducible refine Kd.C_drewN ?_ _) | (with_reducible refine Kd.C_drew ?_))); (case side2 => exact HC0.out); rintro e w30 ⟨rfl, hb⟩; refine ⟨_, rfl, ?_⟩; have n0_ := Aside0.mk (Kd.R_below (by (with_reducible repeat (first | apply Kd.R_alloc | apply Kd.R_drewN | apply Kd.R_drew)); exact HO257.out) hb); have n1_ := Aside0.mk (Kd.R_below (by (with_reducible repeat (first | apply Kd.R_alloc | apply Kd.R_drewN | apply Kd.R_drew)); exact HO261.out) hb); have n2_ := Aside0.mk (below_step (by repeat (first | (with_reducible first | exact HB.out | apply below_alloc | apply pw_below_drewN | apply below_drew1) | exact HB.out)) hb); clear HO257; clear HO261; clear HB; have HO257 := n0_; have HO261 := n1_; have HB := n2_; clear n0_ n1_ n2_; (try clear hb); (try clear hb2); (try clear hk); (try clear hi)) | ((with_reducible refine gate_callee (f := 15) rfl ?_); refine goesL_ (some 55) rfl rfl Try.func15 (by kernel_rfl) rfl #[.slice A0 l0.length c0, .int .i64 a5] rfl (by (try simp only [List.map_toArray, List.map_cons, List.map_nil]); first | done | rfl | (simp only [List.length_drop, List.length_take]; rfl)) ?_; (with_reducible refine (slotmeshref21_Next.calls k _ _ l0 a5 t264 t265 _ ?side1 ?side2 A13.out).mono ?_); (case side1 => repeat (first | exact (Kd.C_below HR0.out HB.out) | (with_reducible refine Kd.C_alloc ?_ _) | (with_reducible refine Kd.C_drewN ?_ _) | (with_reducible refine Kd.C_drew ?_))); (case side2 => exact HC0.out); rintro e w31 ⟨rfl, hb⟩; refine ⟨_, rfl, ?_⟩; have n0_ := Aside0.mk (Kd.R_below (by (with_reducible repeat (first | apply Kd.R_alloc | apply Kd.R_drewN | apply Kd.R_drew)); exact HO257.out) hb); have n1_ := Aside0.mk (Kd.R_below (by (with_reducible repeat (first | apply Kd.R_alloc | apply Kd.R_drewN | apply Kd.R_drew)); exact HO261.out) hb); have n2_ := Aside0.mk (below_step (by repeat (first | (with_reducible first | exact HB.out | apply below_alloc | apply pw_below_drewN | apply below_drew1) | exact HB.out)) hb); clear HO257; clear HO261; clear HB; have HO257 := n0_; have HO261 := n1_; have HB := n2_; clear n0_ n1_ n2_; (try clear hb); (try clear hb2); (try clear hk); (try clear hi); obtain ⟨Ao32, co32, eo32⟩ := Kd.R_slice HO257.out; subst eo32; obtain ⟨Ao33, co33, eo33⟩ := Kd.R_slice HO261.out; subst eo33) | (go_at_call 16; (with_reducible refine (slotmeshref21_Same.calls k _ _ t254 _ _ t258 true _ ?side1 ?side2 ?side3 ?side4 A15.out).mono ?_); (case side1 => repeat (first | exact (Kd.R_reads' HO257.out).2.2 | (with_reducible refine Kd.C_alloc ?_ _) | (with_reducible refine Kd.C_drewN ?_ _) | (with_reducible refine Kd.C_drew ?_))); (case side2 => exact (Kd.R_reads' HO257.out).2.1); (case side3 => repeat (first | exact (Kd.R_reads' HO261.out).2.2 | (with_reducible refine Kd.C_alloc ?_ _) | (with_reducible refine Kd.C_drewN ?_ _) | (with_reducible refine Kd.C_drew ?_))); (case side4 => exact (Kd.R_reads' HO261.out).2.1); rintro e w' ⟨rfl, ⟨nd, rfl⟩⟩) | (go_at_call 17; (with_reducible refine (down_Expire.calls k _ _ l0 a4 t267 _ ?side1 ?side2 A20.out).mono ?_); (case side1 => repeat (first | exact (Kd.C_below HR0.out (by repeat (first | (with_reducible first | exact HB.out | apply below_alloc | apply pw_below_drewN | apply below_drew1) | exact HB.out))) | (with_reducible refine Kd.C_alloc ?_ _) | (with_reducible refine Kd.C_drewN ?_ _) | (with_reducible refine Kd.C_drew ?_))); (case side2 => exact HC0.out); rintro e w34 ⟨v268, rfl, ho0, hb⟩; have n0_ := Aside0.mk (Kd.R_elder' (by (with_reducible repeat (first | apply Kd.R_alloc | apply Kd.R_drewN | apply Kd.R_drew)); exact HO257.out) (Kd.R_base ho0) hb); have n1_ := Aside0.mk (Kd.R_elder' (by (with_reducible repeat (first | apply Kd.R_alloc | apply Kd.R_drewN | apply Kd.R_drew)); exact HO261.out) (Kd.R_base ho0) hb); have n2_ := Aside0.mk (Kd.R_lower (Kd.R_new' (Kd.R_new' ho0 (Kd.R_lt (by (with_reducible repeat (first | apply Kd.R_alloc | apply Kd.R_drewN | apply Kd.R_drew)); exact HO257.out))) (Kd.R_lt (by (with_reducible repeat (first | apply Kd.R_alloc | apply Kd.R_drewN | apply Kd.R_drew)); exact HO261.out))) (below_size (by repeat (first | (with_reducible first | exact HB.out | apply below_alloc | apply pw_below_drewN | apply below_drew1) | exact HB.out)))); have n3_ := Aside0.mk (below_step (by repeat (first | (with_reducible first | exact HB.out | apply below_alloc | apply pw_below_drewN | apply below_drew1) | exact HB.out)) hb); clear HO257; clear HO261; clear HB; have HO257 := n0_; have HO261 := n1_; have HO269 := n2_; have HB := n3_; clear n0_ n1_ n2_ n3_; (try clear hb); (try clear hb2); (try clear hk); (try clear hi); (try clear ho0)) | (go_at_call 18; (with_reducible refine (slotmeshref21_Expire.calls k _ _ l0 a4 t270 _ ?side1 ?side2 A21.out).mono ?_); (case side1 => repeat (first | exact (Kd.C_below HR0.out HB.out) | (with_reducible refine Kd.C_alloc ?_ _) | (with_reducible refine Kd.C_drewN ?_ _) | (with_reducible refine Kd.C_drew ?_))); (case side2 => exact HC0.out); rintro e w35 ⟨v271, rfl, ho0, hb⟩; have n0_ := Aside0.mk (Kd.R_elder' (by (with_reducible repeat (first | apply Kd.R_alloc | apply Kd.R_drewN | apply Kd.R_drew)); exact HO257.out) (Kd.R_base ho0) hb); have n1_ := Aside0.mk (Kd.R_elder' (by (with_reducible repeat (first | apply Kd.R_alloc | apply Kd.R_drewN | apply Kd.R_drew)); exact HO261.out) (Kd.R_base ho0) hb); have n2_ := Aside0.mk (Kd.R_elder' (by (with_reducible repeat (first | apply Kd.R_alloc | apply Kd.R_drewN | apply Kd.R_drew)); exact HO269.out) (Kd.R_base ho0) hb); have n3_ := Aside0.mk (Kd.R_lower (Kd.R_new' (Kd.R_new' (Kd.R_new' ho0 (Kd.R_lt (by (with_reducible repeat (first | apply Kd.R_alloc | apply Kd.R_drewN | apply Kd.R_drew)); exact HO257.out))) (Kd.R_lt (by (with_reducible repeat (first | apply Kd.R_alloc | apply Kd.R_drewN | apply Kd.R_drew)); exact HO261.out))) (Kd.R_lt (by (with_reducible repeat (first | apply Kd.R_alloc | apply Kd.R_drewN | apply Kd.R_drew)); exact HO269.out))) (below_size (by repeat (first | (with_reducible first | exact HB.out | apply below_alloc | apply pw_below_drewN | apply below_drew1) | exact HB.out)))); have n4_ := Aside0.mk (below_step (by repeat (first | (with_reducible first | exact HB.out | apply below_alloc | apply pw_below_drewN | apply below_drew1) | exact HB.out)) hb); clear HO257; clear HO261; clear HO269; clear HB; have HO257 := n0_; have HO261 := n1_; have HO269 := n2_; have HO272 := n3_; have HB := n4_; clear n0_ n1_ n2_ n3_ n4_; (try clear hb); (try clear hb2); (try clear hk); (try clear hi); (try clear ho0); obtain ⟨Ao36, co36, eo36⟩ := Kd.R_slice HO269.out; subst eo36; obtain ⟨Ao37, co37, eo37⟩ := Kd.R_slice HO272.out; subst eo37) | (go_at_call 16; (with_reducible refine (slotmeshref21_Same.calls k _ _ t267 _ _ t270 true _ ?side1 ?side2 ?side3 ?side4 A22.out).mono ?_); (case side1 => repeat (first | exact (Kd.R_reads' HO269.out).2.2 | (with_reducible refine Kd.C_alloc ?_ _) | (with_reducible refine Kd.C_drewN ?_ _) | (with_reducible refine Kd.C_drew ?_))); (case side2 => exact (Kd.R_reads' HO269.out).2.1); (case side3 => repeat (first | exact (Kd.R_reads' HO272.out).2.2 | (with_reducible refine Kd.C_alloc ?_ _) | (with_reducible refine Kd.C_drewN ?_ _) | (with_reducible refine Kd.C_drew ?_))); (case side4 => exact (Kd.R_reads' HO272.out).2.1); rintro e w' ⟨rfl, ⟨nd, rfl⟩⟩) | (go_at_call 19; (with_reducible refine (down_Tell.calls k _ _ l0 t274 _ ?side1 ?side2 A24.out).mono ?_); (case side1 => repeat (first | exact (Kd.C_below HR0.out (by repeat (first | (with_reducible first | exact HB.out | apply below_alloc | apply pw_below_drewN | apply below_drew1) | exact HB.out))) | (with_reducible refine Kd.C_alloc ?_ _) | (with_reducible refine Kd.C_drewN ?_ _) | (with_reducible refine Kd.C_drew ?_))); (case side2 => exact HC0.out); rintro e w38 ⟨v275, rfl, ho0, hb⟩; have n0_ := Aside0.mk (Kd.R_elder' (by (with_reducible repeat (first | apply Kd.R_alloc | apply Kd.R_drewN | apply Kd.R_drew)); exact HO257.out) (Kd.R_base ho0) hb); have n1_ := Aside0.mk (Kd.R_elder' (by (with_reducible repeat (first | apply Kd.R_alloc | apply Kd.R_drewN | apply Kd.R_drew)); exact HO261.out) (Kd.R_base ho0) hb); have n2_ := Aside0.mk (Kd.R_elder' (by (with_reducible repeat (first | apply Kd.R_alloc | apply Kd.R_drewN | apply Kd.R_drew)); exact HO269.out) (Kd.R_base ho0) hb); have n3_ := Aside0.mk (Kd.R_elder' (by (with_reducible repeat (first | apply Kd.R_alloc | apply Kd.R_drewN | apply Kd.R_drew)); exact HO272.out) (Kd.R_base ho0) hb); have n4_ := Aside0.mk (Kd.R_lower (Kd.R_new' (Kd.R_new' (Kd.R_new' (Kd.R_new' ho0 (Kd.R_lt (by (with_reducible repeat (first | apply Kd.R_alloc | apply Kd.R_drewN | apply Kd.R_drew)); exact HO257.out))) (Kd.R_lt (by (with_reducible repeat (first | apply Kd.R_alloc | apply Kd.R_drewN | apply Kd.R_drew)); exact HO261.out))) (Kd.R_lt (by (with_reducible repeat (first | apply Kd.R_alloc | apply Kd.R_drewN | apply Kd.R_drew)); exact HO269.out))) (Kd.R_lt (by (with_reducible repeat (first | apply Kd.R_alloc | apply Kd.R_drewN | apply Kd.R_drew)); exact HO272.out))) (below_size (by repeat (first | (with_reducible first | exact HB.out | apply below_alloc | apply pw_below_drewN | apply below_drew1) | exact HB.out)))); have n5_ := Aside0.mk (below_step (by repeat (first | (with_reducible first | exact HB.out | apply below_alloc | apply pw_below_drewN | apply below_drew1) | exact HB.out)) hb); clear HO257; clear HO261; clear HO269; clear HO272; clear HB; have HO257 := n0_; have HO261 := n1_; have HO269 := n2_; have HO272 := n3_; have HO276 := n4_; have HB := n5_; clear n0_ n1_ n2_ n3_ n4_ n5_; (try clear hb); (try clear hb2); (try clear hk); (try clear hi); (try clear ho0)) | (go_at_call 20; (with_reducible refine (slotmeshref21_Tell.calls k _ _ l0 t277 _ ?side1 ?side2 A25.out).mono ?_); (case side1 => repeat (first | exact (Kd.C_below HR0.out HB.out) | (with_reducible refine Kd.C_alloc ?_ _) | (with_reducible refine Kd.C_drewN ?_ _) | (with_reducible refine Kd.C_drew ?_))); (case side2 => exact HC0.out); rintro e w39 ⟨v278, rfl, ho0, hb⟩; have n0_ := Aside0.mk (Kd.R_elder' (by (with_reducible repeat (first | apply Kd.R_alloc | apply Kd.R_drewN | apply Kd.R_drew)); exact HO257.out) (Kd.R_base ho0) hb); have n1_ := Aside0.mk (Kd.R_elder' (by (with_reducible repeat (first | apply Kd.R_alloc | apply Kd.R_drewN | apply Kd.R_drew)); exact HO261.out) (Kd.R_base ho0) hb); have n2_ := Aside0.mk (Kd.R_elder' (by (with_reducible repeat (first | apply Kd.R_alloc | apply Kd.R_drewN | apply Kd.R_drew)); exact HO269.out) (Kd.R_base ho0) hb); have n3_ := Aside0.mk (Kd.R_elder' (by (with_reducible repeat (first | apply Kd.R_alloc | apply Kd.R_drewN | apply Kd.R_drew)); exact HO272.out) (Kd.R_base ho0) hb); have n4_ := Aside0.mk (Kd.R_elder' (by (with_reducible repeat (first | apply Kd.R_alloc | apply Kd.R_drewN | apply Kd.R_drew)); exact HO276.out) (Kd.R_base ho0) hb); have n5_ := Aside0.mk (Kd.R_lower (Kd.R_new' (Kd.R_new' (Kd.R_new' (Kd.R_new' (Kd.R_new' ho0 (Kd.R_lt (by (with_reducible repeat (first | apply Kd.R_alloc | apply Kd.R_drewN | apply Kd.R_drew)); exact HO257.out))) (Kd.R_lt (by (with_reducible repeat (first | apply Kd.R_alloc | apply Kd.R_drewN | apply Kd.R_drew)); exact HO261.out))) (Kd.R_lt (by (with_reducible repeat (first | apply Kd.R_alloc | apply Kd.R_drewN | apply Kd.R_drew)); exact HO269.out))) (Kd.R_lt (by (with_reducible repeat (first | apply Kd.R_alloc | apply Kd.R_drewN | apply Kd.R_drew)); exact HO272.out))) (Kd.R_lt (by (with_reducible repeat (first | apply Kd.R_alloc | apply Kd.R_drewN | apply Kd.R_drew)); exact HO276.out))) (below_size (by repeat (first | (with_reducible first | exact HB.out | apply below_alloc | apply pw_below_drewN | apply below_drew1) | exact HB.out)))); have n6_ := Aside0.mk (below_step (by repeat (first | (with_reducible first | exact HB.out | apply below_alloc | apply pw_below_drewN | apply below_drew1) | exact HB.out)) hb); clear HO257; clear HO261; clear HO269; clear HO272; clear HO276; clear HB; have HO257 := n0_; have HO261 := n1_; have HO269 := n2_; have HO272 := n3_; have HO276 := n4_; have HO279 := n5_; have HB := n6_; clear n0_ n1_ n2_ n3_ n4_ n5_ n6_; (try clear hb); (try clear hb2); (try clear hk); (try clear hi); (try clear ho0); obtain ⟨Ao40, co40, eo40⟩ := Kd.R_slice HO276.out; subst eo40; obtain ⟨Ao41, co41, eo41⟩ := Kd.R_slice HO279.out; subst eo41) | (go_at_call 16; (with_reducible refine (slotmeshref21_Same.calls k _ _ t274 _ _ t277 t280 _ ?side1 ?side2 ?side3 ?side4 A26.out).mono ?_); (case side1 => repeat (first | exact (Kd.R_reads' HO276.out).2.2 | (with_reducible refine Kd.C_alloc ?_ _) | (with_reducible refine Kd.C_drewN ?_ _) | (with_reducible refine Kd.C_drew ?_))); (case side2 => exact (Kd.R_reads' HO276.out).2.1); (case side3 => repeat (first | exact (Kd.R_reads' HO279.out).2.2 | (with_reducible refine Kd.C_alloc ?_ _) | (with_reducible refine Kd.C_drewN ?_ _) | (with_reducible refine Kd.C_drew ?_))); (case side4 => exact (Kd.R_reads' HO279.out).2.1); rintro e w' ⟨rfl, ⟨nd, rfl⟩⟩))
                go_ret
                exact ⟨by first | rfl | (simp [errW_none, errW_some] <;> rfl) | (simp [*, errW_none, errW_some] <;> rfl), by repeat (first | (with_reducible first | exact HB.out | apply below_alloc | apply pw_below_drewN | apply below_drew1) | exact HB.out)⟩
              · replace c23 := Bool.eq_false_iff.mpr c23
                subst c23
                have H1 : (some false) = some r := by rw [if_neg (show ¬ (false = true) by decide)] at H; exact H
                clear H
                have H := H1
                clear H1
                exact absurd (Option.some.inj H) (by rw [HRT.out]; decide)
            · rw [if_neg c19] at H
              have c19b0 : (t263 == t265) = false := by simpa using c19
              (try (have c19b1 : decide (t263 = t265) = false := by simpa using c19))
              (try (have c19b2 : (t263 == t265) = false := by simpa using c19))
              (try (have c19b3 : ¬ (t263 = t265) := by simpa using c19))
              clear c19
              exact absurd (Option.some.inj H) (by rw [HRT.out]; decide)
          · rw [if_neg c18] at H
            have c18b0 : (t262 == t264) = false := beq_eq_false_iff_ne.mpr c18
            have c18b1 : (t262 != t264) = true := bne_iff_ne.mpr c18
            exact absurd (Option.some.inj H) (by rw [HRT.out]; decide)
        · rw [if_neg c17] at H
          have c17b0 : (t255 == t259) = false := beq_eq_false_iff_ne.mpr c17
          have c17b1 : (t255 != t259) = true := bne_iff_ne.mpr c17
          exact absurd (Option.some.inj H) (by rw [HRT.out]; decide)
      · replace c16 := Bool.eq_false_iff.mpr c16
        subst c16
        have H1 : (some false) = some r := by rw [if_neg (show ¬ (false = true) by decide)] at H; exact H
        clear H
        have H := H1
        clear H1
        exact absurd (Option.some.inj H) (by rw [HRT.out]; decide)
    · replace c14 := Bool.eq_false_iff.mpr c14
      subst c14
      have H1 : (some false) = some r := by rw [if_neg (show ¬ (false = true) by decide)] at H; exact H
      clear H
      have H := H1
      clear H1
      exact absurd (Option.some.inj H) (by rw [HRT.out]; decide)
  · replace c9 := Bool.eq_false_iff.mpr c9
    subst c9
    have H1 : (some t252) = some r := by rw [if_neg (show ¬ (false = true) by decide)] at H; exact H
    clear H
    have H := H1
    clear H1
    obtain rfl := Option.some.inj H
    go_enter Try.func3, Try.ntmps3
    go_wp2_with (first | ((with_reducible refine gate_callee (f := 10) rfl ?_); refine goesL_ (some 22) rfl rfl Try.func10 (by kernel_rfl) rfl #[] rfl (by (try simp only [List.map_toArray, List.map_cons, List.map_nil]); first | done | rfl | (simp only [List.length_drop, List.length_take]; rfl)) ?_; (with_reducible refine (slotmeshlaw21_head.calls  t252 _ A7.out).mono ?_); rintro e w42 ⟨rfl, hb⟩; refine ⟨_, rfl, ?_⟩; have n0_ := Aside0.mk (below_step (by repeat (first | (with_reducible first | exact HB.out | apply below_alloc | apply pw_below_drewN | apply below_drew1) | exact HB.out)) hb); clear HB; have HB := n0_; clear n0_; (try clear hb); (try clear hb2); (try clear hk); (try clear hi)) | ((with_reducible refine gate_callee (f := 11) rfl ?_); refine goesL_ (some 25) rfl rfl Try.func11 (by kernel_rfl) rfl #[.slice A0 l0.length c0, .slice A3 l3.length c3] rfl (by (try simp only [List.map_toArray, List.map_cons, List.map_nil]); first | done | rfl | (simp only [List.length_drop, List.length_take]; rfl)) ?_; (with_reducible refine (slotmeshlaw21_short.calls _ _ l0 _ _ l3 false _ ?side1 ?side2 ?side3 ?side4 A8.out).mono ?_); (case side1 => repeat (first | exact (Kd.C_below HR0.out HB.out) | (with_reducible refine Kd.C_alloc ?_ _) | (with_reducible refine Kd.C_drewN ?_ _) | (with_reducible refine Kd.C_drew ?_))); (case side2 => exact HC0.out); (case side3 => repeat (first | exact (Kd.C_below HR3.out HB.out) | (with_reducible refine Kd.C_alloc ?_ _) | (with_reducible refine Kd.C_drewN ?_ _) | (with_reducible refine Kd.C_drew ?_))); (case side4 => exact HC3.out); rintro e w' ⟨rfl, ⟨nd, rfl⟩⟩; refine ⟨_, rfl, ?_⟩))
    go_ret
    exact ⟨by first | rfl | (simp [errW_none, errW_some] <;> rfl) | (simp [*, errW_none, errW_some] <;> rfl), by repeat (first | (with_reducible first | exact HB.out | apply below_alloc | apply pw_below_drewN | apply below_drew1) | exact HB.out)⟩

end Go.Proofs.Ythobfempjekhdaa.Px
