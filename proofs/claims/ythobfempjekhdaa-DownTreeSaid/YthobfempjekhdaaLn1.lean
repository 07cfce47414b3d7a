/- down.Learn, walked: what it computes is the merge of the routes with what the child has told. -/
import Derived.Test.YthobfempjekhdaaLn0
namespace Go.Proofs.Ythobfempjekhdaa.Px
open Go.RowKit Go.Proofs.YthobfempjekhdaaW.PrintWords Go.Proofs.YthobfempjekhdaaW.PrintLast Go.Proofs.YthobfempjekhdaaW.PrintMore
attribute [local go_sem] max2_int min2_int max_two min_two max_three min_three max_four min_four
attribute [local go_sem] Oper.semAt_some
set_option linter.unusedVariables false
set_option linter.unusedSimpArgs false
/-! The law of a range over a function (Derived/RangeFuncNested.lean: wpIn_rangeFunc_ownH) turned: what a round keeps is told from the yield's world on, so that the body may write the loop variable's own box. -/
theorem range_round {F : Fence} {n : Nat} {P : Program} {α : Type} {g : Operand} {ps : Array Tmp} {assign body : Code} {Q : Exit → Act → World → Prop} {a : Act} {w : World}
  (hro : F.round = none) (h1 : 1 ≤ n) {gf : Nat} {lb : Array Value} (hg : a.eval g = .func (.func gf) #[] lb) (hFg : F.fn gf) (eg : ∀ args w, (callFunc gf args).run P w = .ok (.enter gf args) w)
  {encs : α → Array Value} {Kp : World → World → Prop} {S Sp : List α → Prop} {N : Nat} {w0 : World} (hseq : SeqStopsK F (n - 1) P gf lb encs Kp S Sp N w0)
  (hKt : ∀ {A B C : World}, Kp A B → Kp B C → Kp A C) (hKb : ∀ (W : World) (l : Nat) (o o' : Obj), w.heap.size ≤ l → W.heap[l]? = some o → o.isCells = false → o.isWalk = false → Kp W (W.putObj l o')) (hb0 : Below w0.heap.size w0 w) (hps : ∀ x, (encs x).size = ps.size)
  (I : List α → World → Prop) (Ix : Code → List α → World → Prop) (hI : OwnFrom w.heap.size I) (hIx : ∀ c, OwnFrom w.heap.size (Ix c)) (h0 : I [] w) (Ax : World → α → Act → World → Prop) (hAx : ∀ V x a', OwnFrom w.heap.size (fun (_ : Unit) W => Ax V x a' W))
  (hassign : ∀ (l : Nat) (pre : List α) (x : α) (W : World) (K : Act → World → Prop), I pre W → (∀ a' W', KeepsFrom w.heap.size W W' → I pre W' → Ax W x a' W' → K a' W') →
   assign.wpIn (F.inRound l) (n - 1 - 1) P (Exit.then K (fun _ _ _ => False)) { tmps := (ps.zip (encs x)).foldl (fun t (p, v) => t.setIfInBounds p v) a.tmps, defers := [] } W)
  (hbody : ∀ (l : Nat) (pre : List α) (x : α) (a' : Act) (V W : World), w.heap.size ≤ l → (∃ r, W.heap[l]? = some (.loop r)) → I pre W → Ax V x a' W → pre.length < N → body.wpIn (F.inRound l) (n - 1 - 1) P (ownPostG w.heap.size (fun _ W' => Kp V W') I Ix (pre ++ [x]) W) a' W)
  (hdone : ∀ (D : Nat) (xs : List α) (W : World), w.heap.size ≤ D → S xs → I xs W → W.heap[D]? = some (.deferred (some [])) → Q .normal { a with defers := { target := .collected D, args := #[] } :: a.defers } W)
  (hstop : ∀ (D : Nat) (c : Code) (pre : List α) (W : World), w.heap.size ≤ D → Sp pre → Ix c pre W → W.heap[D]? = some (.deferred (some [])) → c.wpIn F n P Q { a with defers := { target := .collected D, args := #[] } :: a.defers } W) :
  (Code.rangeFunc g ps assign body).wpIn F n P Q a w := by
 refine wpIn_rangeFunc ?_
 intro fn hfn
 rw [hro]
 obtain ⟨rec, hrec⟩ : ∃ rec : LoopState → Option Code → Loop, rec = fun st pe => { state := st, pending := pe, fn, tmps := a.tmps, params := ps, assign, body, defers := w.heap.size } := ⟨_, rfl⟩
 obtain ⟨W1, hW1⟩ : ∃ W1, (w.alloc (.deferred (some []))).alloc (.loop (rec .ready none)) = W1 := ⟨_, rfl⟩
 have hL1 : W1.heap[w.heap.size + 1]? = some (.loop (rec .ready none)) := by
  rw [← hW1]; have := World.alloc_heap_new (w.alloc (.deferred (some []))) (.loop (rec .ready none)); rwa [World.size_alloc] at this
 have hK1 : W1.heap[w.heap.size]? = some (.deferred (some [])) := by
  rw [← hW1]; exact (Below.heap_alloc _ _ _ (by simp)).trans (World.alloc_heap_new w _)
 have hI1 : I [] W1 := by rw [← hW1]; exact hI.alloc _ (hI.alloc _ h0)
 have hb1 : Below w0.heap.size w0 W1 := by
  rw [← hW1]; exact hb0.trans ((((Below.refl _ w).alloc (Nat.le_refl _) _).alloc (by simp) _).mono hb0.size)
 refine ⟨w.heap.size + 1, [{ target := .collected w.heap.size, args := #[] }], W1, { target := .fn (.func gf) lb, args := #[.func (.yield (w.heap.size + 1)) #[] #[]] }, W1, gf,
  #[.func (.yield (w.heap.size + 1)) #[] #[]] ++ lb, W1, ?_, ?_, ?_, ?_, fun _ => h1, ?_⟩
 ·rw [← hW1, hrec]; exact run_enterLoop_outer _ _ _ _ _
 ·simp only [resolve, hg]
  simp [go_sem]
 ·intro f' hf'; simp [Target.leads] at hf'; subst hf'; exact hFg
 ·simp [invoke, go_sem, eg]
 ·-- THE ITERATOR's CONTRACT, AT THE CALLER's INVARIANT WITH THE TWO FACTS OF BOOK-KEEPING BESIDE IT
  have hnw : ∀ {A B : World} {row : Option Nat}, (∀ r, row = some r → W1.heap.size ≤ r ∧ ∃ o : Obj, A.heap[r]? = some o ∧ o.isWalk = true) → (∀ r, row = some r → w.heap.size ≤ r ∧ ∃ o : Obj, A.heap[r]? = some o ∧ o.isCells = false) :=
   fun hr r e => by obtain ⟨hB, o, ho, hw⟩ := hr r e; exact ⟨by rw [← hW1] at hB; simp at hB; omega, o, ho, Obj.not_cells_of_walk hw⟩
  refine (hseq (w.heap.size + 1)
   (fun pre W => I pre W ∧ W.heap[w.heap.size + 1]? = some (.loop (rec .ready none)) ∧ W.heap[w.heap.size]? = some (.deferred (some [])))
   (fun pre W => ∃ c, Ix c pre W ∧ W.heap[w.heap.size + 1]? = some (.loop (rec .done (some c))) ∧ W.heap[w.heap.size]? = some (.deferred (some [])))
   W1 hb1
   (fun s A B row hs hg' hr => ⟨hI s A B row hs.1 hg' (hnw (B := B) hr), (grownBy_keeps hg' (fun r e => (hr r e).2) hs.2.1 rfl).trans hs.2.1, (grownBy_keeps hg' (fun r e => (hr r e).2) hs.2.2 rfl).trans hs.2.2⟩)
   (fun s A B row hs hg' hr => by
    obtain ⟨c, hc, hl, hk⟩ := hs
    exact ⟨c, hIx c s A B row hc hg' (hnw (B := B) hr), (grownBy_keeps hg' (fun r e => (hr r e).2) hl rfl).trans hl, (grownBy_keeps hg' (fun r e => (hr r e).2) hk rfl).trans hk⟩)
   ?_ ⟨hI1, hL1, hK1⟩).mono ?_
  ·-- ONE ROUND
   rintro pre x W ⟨hi, hl, hk⟩ hlen
   have hlt : w.heap.size + 1 < W.heap.size := (Array.getElem?_eq_some_iff.1 hl).1
   have hy := run_yield (P := P) (args := encs x) hl (by rw [hrec]; exact hps x)
   rw [hrec] at hy
   refine ⟨fn, _, assign, body, hy, roundIn_of_wpIn hfn (hassign _ pre x W _ hi ?_)⟩
   clear hy
   intro a' Wa hkfa hia hax
   -- THE ASSIGN CODE MAY HAVE LAID BLOCKS (a loop variable that an inner function captures is boxed): the two blocks of book-keeping lie as they lay
   replace hl := hkfa.same _ _ (by omega) hl rfl
   replace hk := hkfa.same _ _ (Nat.le_refl _) hk rfl
   replace hlt : w.heap.size + 1 < Wa.heap.size := (Array.getElem?_eq_some_iff.1 hl).1
   replace hi := hia
   clear hia
   revert hkfa hax
   generalize W = Wb
   intro hkfa hax
   obtain ⟨W, rfl⟩ : ∃ W, W = Wa := ⟨_, rfl⟩
   refine ⟨_, run_beginRound hl (by rw [hrec]), ?_⟩
   have hl2 : (W.putObj (w.heap.size + 1) (.loop { rec .ready none with state := .busy })).heap[w.heap.size + 1]? = some (.loop { rec .ready none with state := .busy }) := World.putObj_heap_same hlt
   have hk2 : (W.putObj (w.heap.size + 1) (.loop { rec .ready none with state := .busy })).heap[w.heap.size]? = some (.deferred (some [])) := (World.putObj_heap_other (by omega)).trans hk
   refine wpIn_mono (hbody _ pre x a' Wb _ (by omega) ⟨_, hl2⟩ (hI.putObj _ hi (by omega) hl rfl) ((hAx Wb x a').putObj (s := ()) _ hax (by omega) hl rfl) hlen) ?_
   have fin : ∀ (jump : Option Code) (W3 : World), KeepsFrom w.heap.size (W.putObj (w.heap.size + 1) (.loop { rec .ready none with state := .busy })) W3 →
     (Instr.endRound (w.heap.size + 1) jump).run P W3 = .ok (.bool jump.isNone) (W3.putObj (w.heap.size + 1) (.loop (rec (if jump.isNone then .ready else .done) jump))) ∧
     W3.heap[w.heap.size + 1]? = some (.loop { rec .ready none with state := .busy }) ∧
     (W3.putObj (w.heap.size + 1) (.loop (rec (if jump.isNone then .ready else .done) jump))).heap[w.heap.size + 1]? = some (.loop (rec (if jump.isNone then .ready else .done) jump)) ∧
     (W3.putObj (w.heap.size + 1) (.loop (rec (if jump.isNone then .ready else .done) jump))).heap[w.heap.size]? = some (.deferred (some [])) := fun jump W3 hk3 => by
    have hl3 := hk3.same _ _ (by omega) hl2 rfl
    have := run_endRound (P := P) jump hl3
    rw [hrec] at this ⊢
    exact ⟨this, by rw [hrec] at hl3; exact hl3, World.putObj_heap_same (Array.getElem?_eq_some_iff.1 hl3).1, (World.putObj_heap_other (by omega)).trans (hk3.same _ _ (Nat.le_refl _) hk2 rfl)⟩
   rintro e a3 W3 hp
   cases e with
   | normal =>
    obtain ⟨hk3, hkp3, hi3⟩ := hp
    obtain ⟨hr, hl3, hl4, hk4⟩ := fin none W3 hk3
    exact ⟨_, _, hr, .inl ⟨rfl, ⟨hI.putObj _ hi3 (by omega) hl3 rfl, hl4, hk4⟩, hKt hkp3 (hKb _ _ _ _ (by omega) hl3 rfl rfl)⟩⟩
   | ret =>
    obtain ⟨hk3, hi3⟩ := hp
    obtain ⟨hr, hl3, hl4, hk4⟩ := fin (some .ret) W3 hk3
    exact ⟨_, _, hr, .inr ⟨rfl, .ret, (hIx _).putObj _ hi3 (by omega) hl3 rfl, hl4, hk4⟩⟩
   | exit id =>
    obtain ⟨hk3, hi3⟩ := hp
    obtain ⟨hr, hl3, hl4, hk4⟩ := fin (some (.exit id)) W3 hk3
    exact ⟨_, _, hr, .inr ⟨rfl, .exit id, (hIx _).putObj _ hi3 (by omega) hl3 rfl, hl4, hk4⟩⟩
   | goto t =>
    obtain ⟨hk3, hi3⟩ := hp
    obtain ⟨hr, hl3, hl4, hk4⟩ := fin (some (.goto t)) W3 hk3
    exact ⟨_, _, hr, .inr ⟨rfl, .goto t, (hIx _).putObj _ hi3 (by omega) hl3 rfl, hl4, hk4⟩⟩
   | panic ch => exact hp.elim
   | outgrown => exact hp.elim
  ·-- BEHIND THE ITERATOR
   rintro e W2 ⟨⟨v, rfl⟩, (⟨xs, hS, hi, hl, hk⟩ | ⟨pre, hSp, c, hi, hl, hk⟩)⟩
   ·exact ⟨none, _, by have := run_endLoop (P := P) hl (by rw [hrec]; simp); rw [hrec] at this; exact this, hdone _ xs _ (Nat.le_refl _) hS (hI.putObj _ hi (by omega) hl rfl) ((World.putObj_heap_other (by omega)).trans hk)⟩
   ·exact ⟨some c, _, by have := run_endLoop (P := P) hl (by rw [hrec]; simp); rw [hrec] at this; exact this, hstop _ c pre _ (Nat.le_refl _) hSp ((hIx c).putObj _ hi (by omega) hl rfl) ((World.putObj_heap_other (by omega)).trans hk)⟩
set_option maxHeartbeats 2000000 in
theorem slf24.calls (t : Int) (x : S35) (gb : Nat) (W : World) (hb : W.heap[gb]? = some (.cells #[.int .i64 t] 3 (0, 0))) :
  Calls Try.prog 24 #[.agg #[.int .i64 x.f0, .int .i64 x.f1, .int .i64 x.f2, .int .i64 x.f3], .pointer (some ⟨gb, 0, none⟩)] W fun e w' => e = .returned (.bool (slf35 t x)) ∧ Below W.heap.size W w' := by
 have hu35 := Try.underlying35
 have HB0 := Aside0.mk (Below.refl W.heap.size W)
 have BC := Aside0.mk hb
 have c1 : W.cell? ⟨gb, 0, none⟩ = some (.int .i64 t) := blk_cell' hb 0 _ rfl
 clear hb
 have key : ∀ b : Bool, (x.f0 == t) = b → Calls Try.prog 24 #[.agg #[.int .i64 x.f0, .int .i64 x.f1, .int .i64 x.f2, .int .i64 x.f3], .pointer (some ⟨gb, 0, none⟩)] W fun e w' => e = .returned (.bool b) ∧ Below W.heap.size W w' := by
  intro b hb
  cases b
  all_goals go_enter Try.func24, Try.ntmps24
  all_goals go_wp2_with ((with_reducible refine gate_dst (N := 2) rfl ?_); refine box_event ?hg (N := 2) ?hd (cs := #[.int .i64 x.f0, .int .i64 x.f1, .int .i64 x.f2, .int .i64 x.f3]) (t := 35) ?hr ?_; (case hd => rfl); (case hg => rfl); (case hr => first | (go_simp; done) | (go_simp; rfl)); intro gx hg w1 hbox hb1; have BX := Aside0.mk hbox; have HB1 := Aside0.mk (below_step HB0.out hb1); have c2 : w1.cell? ⟨gb, 0, none⟩ = some (.int .i64 t) := blk_cell' (blk_below BC.out hb1) 0 _ rfl; clear hb1 hbox hg; have x0 : w1.cell? ⟨gx, 0, none⟩ = some (.int .i64 x.f0) := blk_cell' BX.out 0 _ rfl)
  all_goals go_ret
  all_goals exact ⟨rfl, HB1.out⟩
 exact key _ rfl
set_option maxHeartbeats 4000000 in
theorem learn_bad (A0 : Option Addr) (c0 n0 : Nat) (a1 a2 : Int) (A3 : Option Addr) (c3 n3 : Nat) (a4 : Int) (w : World) (v nb b1 b2 b3 b4 t c : Bool)
  (hv : ∀ w', Below w.heap.size w w' → Calls Try.prog 25 #[.slice A0 n0 c0] w' fun e w'' => e = .returned (.bool v) ∧ Below w'.heap.size w' w'')
  (hne : down_node.f a1 = some nb) (h1 : decide (a2 < 0) = b1) (h2 : decide (a2 > 1000000000) = b2) (h3 : decide (a4 < 0) = b3) (h4 : decide (a4 > 999999997) = b4)
  (ht : (v = true ∧ nb = true ∧ b1 = false ∧ b2 = false ∧ b3 = false ∧ b4 = false) → ∀ w', Below w.heap.size w w' → Calls Try.prog 27 #[.slice A3 n3 c3] w' fun e w'' => e = .returned (.bool t) ∧ Below w'.heap.size w' w'')
  (hct : ∀ w' g, Below w.heap.size w w' → w'.heap[g]? = some (.cells #[.int .i64 a1] 3 (0, 0)) → Calls Try.prog 28 #[.slice A3 n3 c3, .func (.func 24) #[] #[.pointer (some ⟨g, 0, none⟩)]] w' fun e w'' => e = .returned (.bool c) ∧ Below w'.heap.size w' w'')
  (hbad : v = false ∨ (v = true ∧ nb = false) ∨ (v = true ∧ nb = true ∧ b1 = true) ∨ (v = true ∧ nb = true ∧ b1 = false ∧ b2 = true) ∨ (v = true ∧ nb = true ∧ b1 = false ∧ b2 = false ∧ b3 = true) ∨ (v = true ∧ nb = true ∧ b1 = false ∧ b2 = false ∧ b3 = false ∧ b4 = true) ∨ (v = true ∧ nb = true ∧ b1 = false ∧ b2 = false ∧ b3 = false ∧ b4 = false ∧ t = false) ∨ (v = true ∧ nb = true ∧ b1 = false ∧ b2 = false ∧ b3 = false ∧ b4 = false ∧ t = true ∧ c = true)) :
  Calls Try.prog 12 #[.slice A0 n0 c0, .int .i64 a1, .int .i64 a2, .slice A3 n3 c3, .int .i64 a4] w fun e w' => e = .returned (.tuple #[.slice none 0 0, .int .i64 1]) ∧ Below w.heap.size w w' := by
 have HB0 := Aside0.mk (Below.refl w.heap.size w)
 have HV := Aside0.mk hv
 have NE := Aside0.mk hne
 have HT := Aside0.mk ht
 have HCT := Aside0.mk hct
 have hmf : ∀ (fn : Fn) (first cap : Array Value) (w : World), (Instr.makeFunc fn first cap).run Try.prog w = .ok (.func fn first cap) w := fun _ _ _ _ => rfl
 clear hv hne ht hct
 rcases hbad with rfl | ⟨rfl, rfl⟩ | ⟨rfl, rfl, rfl⟩ | ⟨rfl, rfl, rfl, rfl⟩ | ⟨rfl, rfl, rfl, rfl, rfl⟩ | ⟨rfl, rfl, rfl, rfl, rfl, rfl⟩ | ⟨rfl, rfl, rfl, rfl, rfl, rfl, rfl⟩ | ⟨rfl, rfl, rfl, rfl, rfl, rfl, rfl, rfl⟩
 all_goals (try replace HT := Aside0.mk (HT.out ⟨rfl, rfl, rfl, rfl, rfl, rfl⟩))
 all_goals go_enter Try.func12, Try.ntmps12
 all_goals go_wp2_with (first | ((with_reducible refine gate_dst (N := 6) rfl ?_); refine box_event ?hg (N := 6) ?hd (cs := #[.int .i64 a1]) (t := 3) ?hr ?_; (case hd => rfl); (case hg => rfl); (case hr => first | (go_simp; done) | (go_simp; rfl)); intro gx6 hgx6 w1 hbox hb; have BC := Aside0.mk hbox; have HB1 := Aside0.mk (below_step HB0.out hb); clear hgx6; clear hb hbox) | ((with_reducible refine gate_dst (N := 9) rfl ?_); refine box_event ?hg (N := 9) ?hd (cs := #[.int .i64 a4]) (t := 3) ?hr ?_; (case hd => rfl); (case hg => rfl); (case hr => first | (go_simp; done) | (go_simp; rfl)); intro gx9 hgx9 w2 hbox hb; have BF := Aside0.mk hbox; have BC2 := Aside0.mk (blk_below BC.out hb); have HB2 := Aside0.mk (below_step HB1.out hb); clear hgx9; clear hb hbox))
 all_goals go_step3
 all_goals go_wp2_with (first | (go_at_call 25; refine (HV.out _ HB2.out).mono ?_; rintro e w3 ⟨rfl, hb3⟩; have HB3 := Aside0.mk (below_step HB2.out hb3); have BC3 := Aside0.mk (blk_below BC2.out hb3); have BF3 := Aside0.mk (blk_below BF.out hb3); have cc3 : w3.cell? ⟨gx6, 0, none⟩ = some (.int .i64 a1) := blk_cell' BC3.out 0 _ rfl; have cf3 : w3.cell? ⟨gx9, 0, none⟩ = some (.int .i64 a4) := blk_cell' BF3.out 0 _ rfl; clear hb3) | (go_at_call 26; refine (down_node.calls a1 _ _ NE.out).mono ?_; rintro e w4 ⟨rfl, n4, rfl⟩) | (go_at_call 27; refine (HT.out _ (pw_below_drewN HB3.out n4)).mono ?_; rintro e w5 ⟨rfl, hb5⟩; have HB5 := Aside0.mk (below_step (pw_below_drewN HB3.out n4) hb5); have BC5 := Aside0.mk (blk_below (show (w3.drewN n4).heap[gx6]? = _ from BC3.out) hb5); have BF5 := Aside0.mk (blk_below (show (w3.drewN n4).heap[gx9]? = _ from BF3.out) hb5); clear hb5) | (go_at_call 28; refine (HCT.out _ _ HB5.out BC5.out).mono ?_; rintro e w6 ⟨rfl, hb6⟩; have HB6 := Aside0.mk (below_step HB5.out hb6); have BC6 := Aside0.mk (blk_below BC5.out hb6); have BF6 := Aside0.mk (blk_below BF5.out hb6); clear hb6))
 all_goals rw [Exit.noGoto_ret]
 all_goals go_ret2
 all_goals exact ⟨rfl, by first | exact HB6.out | exact HB5.out | exact pw_below_drewN HB3.out n4 | exact HB3.out⟩
/-! What Learn's loop knows between two rounds, and what a step of a round keeps. -/
structure Kx (n0 Bo Br E : Nat) (W W' : World) : Prop where
 below : Below n0 W W'
 keep : ∀ (k : Nat) (o : Obj), k < E → W.heap[k]? = some o → o.isCells = true → k ≠ Bo → k ≠ Br → some k ≠ rowAt Bo W → W'.heap[k]? = some o
 row : rowAt Bo W' = rowAt Bo W ∨ ∀ b, rowAt Bo W' = some b → W.heap.size ≤ b
 lt : (∀ b, rowAt Bo W = some b → b < W.heap.size) → ∀ b, rowAt Bo W' = some b → b < W'.heap.size
 others : ∀ (k : Nat) (o : Obj), W.heap[k]? = some o → o.isCells = false → W'.heap[k]? = some o
theorem Kx.refl (n0 Bo Br E : Nat) (W : World) : Kx n0 Bo Br E W W := ⟨Below.refl _ _, fun _ _ _ h _ _ _ _ => h, .inl rfl, fun h => h, fun _ _ h _ => h⟩
theorem Kx.trans {n0 Bo Br E : Nat} {A B C : World} (hE : E ≤ A.heap.size) (h : Kx n0 Bo Br E A B) (k : Kx n0 Bo Br E B C) : Kx n0 Bo Br E A C := by
 refine ⟨h.below.trans k.below, fun i o hl hi ho h1 h2 h3 => ?_, ?_, fun hl => k.lt (h.lt hl), fun i o hi ho => k.others i o (h.others i o hi ho) ho⟩
 ·have hB := h.keep i o hl hi ho h1 h2 h3
  refine k.keep i o hl hB ho h1 h2 (fun e => ?_)
  rcases h.row with hr | hr
  ·exact h3 (e.trans hr)
  ·have := hr i e.symm
   omega
 ·rcases k.row with hk | hk
  ·rcases h.row with hr | hr
   ·exact .inl (hk.trans hr)
   ·exact .inr (fun b hb => hr b (hk ▸ hb))
  ·exact .inr (fun b hb => Nat.le_trans h.below.size (hk b hb))
theorem Kq.then {n0 Bo Br : Nat} {V W W' : World} (h : Kq n0 Bo Br V W) (k : Kx n0 Bo Br V.heap.size W W') : Kq n0 Bo Br V W' := by
 refine ⟨h.below.trans k.below, fun i o hi ho h1 h2 h3 => ?_, ?_, fun hl => k.lt (h.lt hl)⟩
 ·have hB := h.keep i o hi ho h1 h2 h3
  refine k.keep i o (Array.getElem?_eq_some_iff.1 hi).1 hB ho h1 h2 (fun e => ?_)
  rcases h.row with hr | hr
  ·exact h3 (e.trans hr)
  ·have := hr i e.symm
   have := (Array.getElem?_eq_some_iff.1 hi).1
   omega
 ·rcases k.row with hk | hk
  ·rcases h.row with hr | hr
   ·exact .inl (hk.trans hr)
   ·exact .inr (fun b hb => hr b (hk ▸ hb))
  ·exact .inr (fun b hb => Nat.le_trans h.below.size (hk b hb))
theorem Kx.keepsFrom {n0 Bo Br E B : Nat} {W W' : World} (h : Kx n0 Bo Br E W W') : KeepsFrom B W W' := ⟨h.below.size, fun k o _ hk ho => h.others k o hk ho⟩
/-- Nothing that stood has changed. -/
theorem Kx.grow {n0 Bo Br E : Nat} {W W' : World} (hn : n0 ≤ W.heap.size) (hB : Bo < W.heap.size) (hg : W.grownBy W' none) : Kx n0 Bo Br E W W' := by
 have hr : rowAt Bo W' = rowAt Bo W := rowAt_of (hg.block Bo hB (by simp))
 exact ⟨(Below.refl n0 W).grown hg hn (by simp), fun k o _ hk _ _ _ _ => (hg.block k (Array.getElem?_eq_some_iff.1 hk).1 (by simp)).trans hk, .inl hr, fun hl b hb => Nat.lt_of_lt_of_le (hl b (hr ▸ hb)) hg.size, fun k o hk _ => (hg.block k (Array.getElem?_eq_some_iff.1 hk).1 (by simp)).trans hk⟩
/-- A store into block g of cells, which is the second box or lies beyond E. -/
theorem Kx.set {n0 Bo Br E g j : Nat} {W : World} {cs : Array Value} {t : TypeId} (hg : W.heap[g]? = some (.cells cs t (0, 0))) (hn : n0 ≤ g) (hB : g ≠ Bo) (hE : g = Br ∨ E ≤ g) (u : Value) : Kx n0 Bo Br E W (W.setCell ⟨g, j, none⟩ u) := by
 have hs : (W.setCell ⟨g, j, none⟩ u).heap.size = W.heap.size := by simp [World.setCell]
 have hf : ∀ k, k ≠ g → (W.setCell ⟨g, j, none⟩ u).heap[k]? = W.heap[k]? := fun k hk => Below.heap_setCell W ⟨g, j, none⟩ u k hk
 have hr : rowAt Bo (W.setCell ⟨g, j, none⟩ u) = rowAt Bo W := rowAt_of (hf Bo (fun e => hB e.symm))
 refine ⟨(Below.refl n0 W).setCell (p := ⟨g, j, none⟩) hn u, fun k o hk h _ _ h2 _ => (hf k (fun e => ?_)).trans h, .inl hr, fun hl b hb => by rw [hs]; exact hl b (hr ▸ hb), fun k o hk ho => (hf k (fun e => ?_)).trans hk⟩
 ·rcases hE with rfl | hE
  ·exact h2 e
  ·omega
 ·subst e
  rw [hg] at hk
  cases hk
  cases ho
/-- 'out = append(out, ..)': the row has been written or left for a new one, and the box holds what append gave. -/
theorem Kx.app {n0 Bo Br E : Nat} {W w1 : World} {v v1 : Value} (hBo : W.heap[Bo]? = some (.cells #[v] 22 (0, 0))) (hn : n0 ≤ W.heap.size) (hnB : n0 ≤ Bo) (hg : W.grownBy w1 v.ownBlock) (hne : some Bo ≠ v.ownBlock) (hbase : ∀ b, v.ownBlock = some b → n0 ≤ b ∧ b < W.heap.size ∧ ∃ cs t, W.heap[b]? = some (.cells cs t (0, 0)))
  (hat : v1.ownBlock = v.ownBlock ∨ ∃ b, v1.ownBlock = some b ∧ W.heap.size ≤ b) (hlt : ∀ b, v1.ownBlock = some b → b < w1.heap.size) : Kx n0 Bo Br E W (w1.setCell ⟨Bo, 0, none⟩ v1) ∧ (w1.setCell ⟨Bo, 0, none⟩ v1).heap[Bo]? = some (.cells #[v1] 22 (0, 0)) ∧ (∀ k, k ≠ Bo → (w1.setCell ⟨Bo, 0, none⟩ v1).heap[k]? = w1.heap[k]?) := by
 have hs : (w1.setCell ⟨Bo, 0, none⟩ v1).heap.size = w1.heap.size := by simp [World.setCell]
 have hf : ∀ k, k ≠ Bo → (w1.setCell ⟨Bo, 0, none⟩ v1).heap[k]? = w1.heap[k]? := fun k hk => Below.heap_setCell w1 ⟨Bo, 0, none⟩ v1 k hk
 have hb1 : Boxed w1 Bo 22 v := (show Boxed W Bo 22 v from hBo).kept hg hne
 have hb2 : Boxed (w1.setCell ⟨Bo, 0, none⟩ v1) Bo 22 v1 := hb1.set v1
 have r0 : rowAt Bo W = v.ownBlock := by unfold rowAt; rw [(show Boxed W Bo 22 v from hBo).cell]; rfl
 have r1 : rowAt Bo (w1.setCell ⟨Bo, 0, none⟩ v1) = v1.ownBlock := by unfold rowAt; rw [hb2.cell]; rfl
 refine ⟨⟨((Below.refl n0 W).grown hg hn (fun k e => (hbase k e).1)).setCell (p := ⟨Bo, 0, none⟩) hnB v1, fun k o _ hk ho h1 h2 h3 => ?_, ?_, fun hl b hb => ?_, fun k o hk ho => ?_⟩, hb2, hf⟩
 ·rw [r0] at h3
  exact (hf k h1).trans ((hg.block k (Array.getElem?_eq_some_iff.1 hk).1 h3).trans hk)
 ·rw [r0, r1]
  rcases hat with h | ⟨b, h, hb⟩
  ·exact .inl h
  ·exact .inr (fun b' hb' => by rw [h] at hb'; cases hb'; exact hb)
 ·rw [r1] at hb
  rw [hs]
  exact hlt b hb
 ·have h1 : k ≠ Bo := fun e => by subst e; rw [hBo] at hk; cases hk; cases ho
  refine (hf k h1).trans ((hg.block k (Array.getElem?_eq_some_iff.1 hk).1 (fun e => ?_)).trans hk)
  obtain ⟨_, _, cs, t, hc⟩ := hbase k e.symm
  rw [hc] at hk
  cases hk
  cases ho
/-- A row of the call's own stays where a block that is no cells is turned. -/
theorem R_turn {base : Nat} {W W' : World} {v : Value} {xs : List S35} {row : Option Nat} (h : Kd.R k35 35 W base (fun _ => True) v xs) (hg : W.grownBy W' row) (hr : ∀ r, row = some r → ∃ o : Obj, W.heap[r]? = some o ∧ o.isCells = false) : Kd.R k35 35 W' base (fun _ => True) v xs :=
 Kd.R_mono (Kd.R_move (Kd.R_bound h) (fun k hk => hg.block k hk.2.2.1 (fun e => by
  obtain ⟨o, ho, hc⟩ := hr k e.symm
  obtain ⟨_, _, _, q, _, cells, hcells⟩ := hk
  rw [hcells] at ho
  cases ho
  cases hc))) (fun _ _ => trivial)
def lst (child st : Int) (l0 pre : List S35) : List S35 × List S35 := pre.foldl (fun s d => stepL child st d s) ([], l0)
structure LI (w : World) (Bc Bf Bo Br : Nat) (child frame : Int) (s : List S35 × List S35) (W : World) : Prop where
 bc : W.heap[Bc]? = some (.cells #[.int .i64 child] 3 (0, 0))
 bf : W.heap[Bf]? = some (.cells #[.int .i64 frame] 3 (0, 0))
 bo : ∃ v, W.heap[Bo]? = some (.cells #[v] 22 (0, 0)) ∧ Kd.R k35 35 W w.heap.size (fun _ => True) v s.1
 br : ∃ A c, W.heap[Br]? = some (.cells #[.slice A s.2.length c] 22 (0, 0)) ∧ Kd.C k35 w A s.2.length s.2 ∧ s.2.length ≤ c
 low : Below w.heap.size w W
theorem cells_turn {W W' : World} {row : Option Nat} {k : Nat} {cs : Array Value} {t : TypeId} (h : W.heap[k]? = some (.cells cs t (0, 0))) (hg : W.grownBy W' row) (hr : ∀ r, row = some r → ∃ o : Obj, W.heap[r]? = some o ∧ o.isCells = false) : W'.heap[k]? = some (.cells cs t (0, 0)) :=
 (hg.block k (Array.getElem?_eq_some_iff.1 h).1 (fun e => by
  obtain ⟨o, ho, hc⟩ := hr k e.symm
  rw [h] at ho
  cases ho
  cases hc)).trans h
theorem LI.turn {w : World} {Bc Bf Bo Br B : Nat} {child frame : Int} {s : List S35 × List S35} {W W' : World} {row : Option Nat} (hB : w.heap.size ≤ B) (h : LI w Bc Bf Bo Br child frame s W) (hg : W.grownBy W' row) (hr : ∀ r, row = some r → B ≤ r ∧ ∃ o : Obj, W.heap[r]? = some o ∧ o.isCells = false) : LI w Bc Bf Bo Br child frame s W' := by
 have hr2 : ∀ r, row = some r → ∃ o : Obj, W.heap[r]? = some o ∧ o.isCells = false := fun r e => (hr r e).2
 obtain ⟨v, hv, hR⟩ := h.bo
 obtain ⟨A, c, ha, hC, hc⟩ := h.br
 exact ⟨cells_turn h.bc hg hr2, cells_turn h.bf hg hr2, ⟨v, cells_turn hv hg hr2, R_turn hR hg hr2⟩, ⟨A, c, cells_turn ha hg hr2, hC, hc⟩, h.low.grown hg h.low.size (fun k e => Nat.le_trans hB (hr k e).1)⟩
theorem Kq.turn {n0 Bo Br B : Nat} {V W W' : World} {row : Option Nat} (hn : n0 ≤ B) (h : Kq n0 Bo Br V W) {v : Value} (hBo : W.heap[Bo]? = some (.cells #[v] 22 (0, 0))) (hg : W.grownBy W' row) (hr : ∀ r, row = some r → B ≤ r ∧ ∃ o : Obj, W.heap[r]? = some o ∧ o.isCells = false) (hs : n0 ≤ V.heap.size) : Kq n0 Bo Br V W' := by
 have hr2 : ∀ r, row = some r → ∃ o : Obj, W.heap[r]? = some o ∧ o.isCells = false := fun r e => (hr r e).2
 have hrw : rowAt Bo W' = rowAt Bo W := rowAt_of ((cells_turn hBo hg hr2).trans hBo.symm)
 refine ⟨h.below.trans ((Below.refl n0 W).grown hg (Nat.le_trans hs h.below.size) (fun k e => Nat.le_trans hn (hr k e).1)), fun k o hk ho h1 h2 h3 => ?_, ?_, fun hl b hb => ?_⟩
 ·have hW := h.keep k o hk ho h1 h2 h3
  refine (hg.block k (Array.getElem?_eq_some_iff.1 hW).1 (fun e => ?_)).trans hW
  obtain ⟨o', ho', hc⟩ := hr2 k e.symm
  rw [hW] at ho'
  cases ho'
  rw [hc] at ho
  cases ho
 ·rw [hrw]; exact h.row
 ·rw [hrw] at hb
  exact Nat.lt_of_lt_of_le (h.lt hl b hb) hg.size
theorem news_stops (n n0 Bo Br B1 B2 B3 : Nat) (child seq : Int) (A3 : Option Addr) (c3 : Nat) (l3 : List S35) (w0 w1 : World) (hn0 : n0 = w0.heap.size) (hl3 : Kd.C k35 w0 A3 l3.length l3)
  (hb1 : w1.heap[B1]? = some (.cells #[.int .i64 child] 3 (0, 0))) (hb2 : w1.heap[B2]? = some (.cells #[.int .i64 seq] 3 (0, 0))) (hb3 : w1.heap[B3]? = some (.cells #[.slice A3 l3.length c3] 22 (0, 0)))
  (d1 : B1 ≠ Bo ∧ B1 ≠ Br) (d2 : B2 ≠ Bo ∧ B2 ≠ Br) (d3 : B3 ≠ Bo ∧ B3 ≠ Br) (hrow : rowAt Bo w1 = none) (hBo : Bo < w1.heap.size) (hBr : Br < w1.heap.size) (hw0 : Below n0 w0 w1) :
  SeqStopsK Fence.wide n Try.prog 38 #[.pointer (some ⟨B1, 0, none⟩), .pointer (some ⟨B2, 0, none⟩), .pointer (some ⟨B3, 0, none⟩)] enc35 (Kq n0 Bo Br) (fun xs => xs = newsL child seq none l3) (fun _ => True) (newsL child seq none l3).length w1 := by
 intro l J Jx W hW hJ hJx hY h0
 have mv : ∀ {k : Nat} {cs : Array Value} {t : TypeId}, w1.heap[k]? = some (.cells cs t (0, 0)) → W.heap[k]? = some (.cells cs t (0, 0)) := fun {k cs t} hk => (hW.block k (blk_lt hk)).trans hk
 have hs := hW.size
 exact news_in n l n0 Bo Br B1 B2 B3 child seq A3 c3 l3 w0 hn0 hl3 J Jx hY (fun s A B hs hg => hJ s A B none hs hg (fun r e => by cases e)) W (mv hb1) (mv hb2) (mv hb3) d1 d2 d3 ((rowAt_of (hW.block Bo hBo)).trans hrow) (by omega) (by omega) (hw0.trans (hW.mono (by rw [hn0]; exact hw0.size))) h0
theorem Kq.grow {n0 Bo Br : Nat} {W W' : World} (hn : n0 ≤ W.heap.size) (hB : Bo < W.heap.size) (hg : W.grownBy W' none) : Kq n0 Bo Br W W' := by
 have h := Kx.grow (Br := Br) (E := W.heap.size) hn hB hg
 exact ⟨h.below, fun k o hk ho h1 h2 h3 => h.keep k o (Array.getElem?_eq_some_iff.1 hk).1 hk ho h1 h2 h3, h.row, h.lt⟩
theorem R_block {base : Nat} {W : World} {v : Value} {xs : List S35} (h : Kd.R k35 35 W base (fun _ => True) v xs) (b : Nat) (hb : v.ownBlock = some b) : base ≤ b ∧ b < W.heap.size ∧ ∃ cs t, W.heap[b]? = some (.cells cs t (0, 0)) := by
 obtain ⟨_, h2, h3, q, _, cells, hc⟩ := (Kd.R_bound h).1 b hb
 exact ⟨h2, h3, cells, q, hc⟩
theorem cell_grown {W W' : World} {p : Addr} {v : Value} {row : Option Nat} (h : W.cell? p = some v) (hg : W.grownBy W' row) (hne : some p.block ≠ row) : W'.cell? p = some v :=
 (World.cell?_of_block (hg.block _ (World.block_lt_of_cell? W _ h) hne)).trans h
/-- What holds within a round: o has been put out, r is left, the loop variable's box holds d. -/
structure BS (w : World) (Bc Bf Bo Br Bd E : Nat) (child frame : Int) (W0 : World) (o r : List S35) (d : S35) (W : World) : Prop where
 bc : W.heap[Bc]? = some (.cells #[.int .i64 child] 3 (0, 0))
 bf : W.heap[Bf]? = some (.cells #[.int .i64 frame] 3 (0, 0))
 bo : ∃ v, W.heap[Bo]? = some (.cells #[v] 22 (0, 0)) ∧ Kd.R k35 35 W w.heap.size (fun _ => True) v o ∧ some Bd ≠ v.ownBlock
 br : ∃ A c, W.heap[Br]? = some (.cells #[.slice A r.length c] 22 (0, 0)) ∧ Kd.C k35 w A r.length r ∧ r.length ≤ c
 bd : W.heap[Bd]? = some (.cells #[.int .i64 d.f0, .int .i64 d.f1, .int .i64 d.f2, .int .i64 d.f3] 35 (0, 0))
 low : Below w.heap.size w W
 kx : Kx w.heap.size Bo Br E W0 W
theorem blk_ne {W : World} {g h : Nat} {cs ds : Array Value} {t u : TypeId} (h1 : W.heap[g]? = some (.cells cs t (0, 0))) (h2 : W.heap[h]? = some (.cells ds u (0, 0))) (hne : t ≠ u) : g ≠ h := fun e => by
 subst e
 rw [h1] at h2
 injection h2 with h2
 injection h2 with _ h2
 exact hne h2
theorem row_ne {base : Nat} {W : World} {v : Value} {xs : List S35} (h : Kd.R k35 35 W base (fun _ => True) v xs) {g : Nat} {cs : Array Value} {t : TypeId} (hb : W.heap[g]? = some (.cells cs t (0, 0))) (ht : (35 : TypeId) ≠ t) : some g ≠ v.ownBlock := Kd.R_ne h hb ht
section
variable {w W0 W : World} {Bc Bf Bo Br Bd E : Nat} {child frame : Int} {o r : List S35} {d : S35}
/-- Nothing that stood has changed. -/
theorem BS.grow (h : BS w Bc Bf Bo Br Bd E child frame W0 o r d W) (hE : E ≤ W0.heap.size) {W' : World} (hg : W.grownBy W' none) : BS w Bc Bf Bo Br Bd E child frame W0 o r d W' := by
 have mv : ∀ {k : Nat} {cs : Array Value} {t : TypeId}, W.heap[k]? = some (.cells cs t (0, 0)) → W'.heap[k]? = some (.cells cs t (0, 0)) := fun {k cs t} hk => (hg.block k (blk_lt hk) (by simp)).trans hk
 obtain ⟨v, hv, hR, hn⟩ := h.bo
 obtain ⟨A, c, ha, hC, hc⟩ := h.br
 exact ⟨mv h.bc, mv h.bf, ⟨v, mv hv, R_turn hR hg (by simp), hn⟩, ⟨A, c, mv ha, hC, hc⟩, mv h.bd, h.low.grown hg h.low.size (by simp), h.kx.trans hE (Kx.grow h.low.size (blk_lt hv) hg)⟩
/-- The rest's box is set. -/
theorem BS.setr (h : BS w Bc Bf Bo Br Bd E child frame W0 o r d W) (hE : E ≤ W0.heap.size) (hBr : w.heap.size ≤ Br) (hne : Bo ≠ Br) {r' : List S35} {A' : Option Addr} {c' : Nat} (hC' : Kd.C k35 w A' r'.length r') (hc' : r'.length ≤ c') : BS w Bc Bf Bo Br Bd E child frame W0 o r' d (W.setCell ⟨Br, 0, none⟩ (.slice A' r'.length c')) := by
 obtain ⟨v, hv, hR, hn⟩ := h.bo
 obtain ⟨A, c, ha, hC, hc⟩ := h.br
 have hf : ∀ k, k ≠ Br → (W.setCell ⟨Br, 0, none⟩ (.slice A' r'.length c')).heap[k]? = W.heap[k]? := fun k hk => Below.heap_setCell W ⟨Br, 0, none⟩ _ k hk
 have hR' : Kd.R k35 35 (W.setCell ⟨Br, 0, none⟩ (.slice A' r'.length c')) w.heap.size (fun _ => True) v o := Kd.R_set hR ha (by intro q hq; rcases List.mem_cons.1 hq with rfl | hq; decide; exact absurd hq (by rw [show k35.E = [] from rfl]; simp)) 0 _
 exact ⟨(hf _ (blk_ne h.bc ha (by decide))).trans h.bc, (hf _ (blk_ne h.bf ha (by decide))).trans h.bf, ⟨v, (hf _ hne).trans hv, hR', hn⟩, ⟨A', c', (show Boxed W Br 22 _ from ha).set _, hC', hc'⟩, (hf _ (blk_ne h.bd ha (by decide))).trans h.bd, h.low.setCell (p := ⟨Br, 0, none⟩) hBr _, h.kx.trans hE (Kx.set ha hBr (fun e => hne e.symm) (.inl rfl) _)⟩
/-- A field of the loop variable is set. -/
theorem BS.setd (h : BS w Bc Bf Bo Br Bd E child frame W0 o r d W) (hE : E ≤ W0.heap.size) (hBd : E ≤ Bd) (hn0 : w.heap.size ≤ Bd) (j : Nat) (u : Value) {d' : S35} (hd : (W.setCell ⟨Bd, j, none⟩ u).heap[Bd]? = some (.cells #[.int .i64 d'.f0, .int .i64 d'.f1, .int .i64 d'.f2, .int .i64 d'.f3] 35 (0, 0))) : BS w Bc Bf Bo Br Bd E child frame W0 o r d' (W.setCell ⟨Bd, j, none⟩ u) := by
 obtain ⟨v, hv, hR, hn⟩ := h.bo
 obtain ⟨A, c, ha, hC, hc⟩ := h.br
 have hf : ∀ k, k ≠ Bd → (W.setCell ⟨Bd, j, none⟩ u).heap[k]? = W.heap[k]? := fun k hk => Below.heap_setCell W ⟨Bd, j, none⟩ _ k hk
 have hR' : Kd.R k35 35 (W.setCell ⟨Bd, j, none⟩ u) w.heap.size (fun _ => True) v o := by
  obtain ⟨hok, inner, hown, hr⟩ := hR
  refine ⟨hok, inner, own_move hown (fun k hk => hf k (fun e => hn (by rw [← e]; exact hk.symm))), hr.imp_ (fun _ _ hp => ?_)⟩
  obtain rfl := k35_openM hp
  exact k35_mkM _ _ _ _
 exact ⟨(hf _ (blk_ne h.bc h.bd (by decide))).trans h.bc, (hf _ (blk_ne h.bf h.bd (by decide))).trans h.bf, ⟨v, (hf _ (blk_ne hv h.bd (by decide))).trans hv, hR', hn⟩, ⟨A, c, (hf _ (blk_ne ha h.bd (by decide))).trans ha, hC, hc⟩, hd, h.low.setCell (p := ⟨Bd, j, none⟩) hn0 _, h.kx.trans hE (Kx.set h.bd hn0 (blk_ne h.bd hv (by decide)) (.inr hBd) _)⟩
/-- An element has been put out. -/
theorem BS.app (h : BS w Bc Bf Bo Br Bd E child frame W0 o r d W) (hE : E ≤ W0.heap.size) (hBo : w.heap.size ≤ Bo) (hne : Bo ≠ Br) {v v1 : Value} (hv : W.heap[Bo]? = some (.cells #[v] 22 (0, 0))) {w1 : World} {p : S35} (hR1 : Kd.R k35 35 w1 w.heap.size (fun _ => True) v1 (o ++ [p])) (hg : W.grownBy w1 v.ownBlock) (hat : v1.ownBlock = v.ownBlock ∨ ∃ b, v1.ownBlock = some b ∧ W.heap.size ≤ b) :
  BS w Bc Bf Bo Br Bd E child frame W0 (o ++ [p]) r d (w1.setCell ⟨Bo, 0, none⟩ v1) := by
 obtain ⟨v', hv', hR, hn⟩ := h.bo
 obtain rfl : v' = v := by rw [hv'] at hv; injection hv with hv; injection hv with hv; injection hv with hv; injection hv
 obtain ⟨A, c, ha, hC, hc⟩ := h.br
 obtain ⟨hk, hb, hf⟩ := Kx.app (Br := Br) (E := E) hv h.low.size hBo hg (row_ne hR hv (by decide)) (R_block hR) hat (fun b hb => (R_block hR1 b hb).2.1)
 have mv : ∀ {k : Nat} {cs : Array Value} {t : TypeId}, W.heap[k]? = some (.cells cs t (0, 0)) → some k ≠ v'.ownBlock → w1.heap[k]? = some (.cells cs t (0, 0)) := fun {k cs t} hk hne => (hg.block k (blk_lt hk) hne).trans hk
 have hw1 : w1.heap[Bo]? = some (.cells #[v'] 22 (0, 0)) := mv hv (row_ne hR hv (by decide))
 have hR' : Kd.R k35 35 (w1.setCell ⟨Bo, 0, none⟩ v1) w.heap.size (fun _ => True) v1 (o ++ [p]) := Kd.R_set hR1 hw1 (by intro q hq; rcases List.mem_cons.1 hq with rfl | hq; decide; exact absurd hq (by rw [show k35.E = [] from rfl]; simp)) 0 _
 exact ⟨(hf _ (blk_ne h.bc hv (by decide))).trans (mv h.bc (row_ne hR h.bc (by decide))), (hf _ (blk_ne h.bf hv (by decide))).trans (mv h.bf (row_ne hR h.bf (by decide))),
  ⟨v1, hb, hR', fun e => by
   rcases hat with h1 | ⟨b, h1, h2⟩
   ·exact hn (e.trans h1)
   ·rw [h1] at e
    injection e with e
    have := blk_lt h.bd
    omega⟩,
  ⟨A, c, (hf _ (fun e => hne e.symm)).trans (mv ha (row_ne hR ha (by decide))), hC, hc⟩,
  (hf _ (blk_ne h.bd hv (by decide))).trans (mv h.bd hn), h.low.trans hk.below, h.kx.trans hE hk⟩
/-- What a round leaves is what the law asks of it. -/
theorem BS.li (h : BS w Bc Bf Bo Br Bd E child frame W0 o r d W) : LI w Bc Bf Bo Br child frame (o, r) W := by
 obtain ⟨v, hv, hR, hn⟩ := h.bo
 exact ⟨h.bc, h.bf, ⟨v, hv, hR⟩, h.br, h.low⟩
end
theorem stepL_len (child st : Int) (d : S35) (s : List S35 × List S35) : (stepL child st d s).1.length + (stepL child st d s).2.length ≤ s.1.length + s.2.length + 1 := by
 have h : (s.2.takeWhile (fun x => decide (x.f0 < d.f0))).length + (s.2.dropWhile (fun x => decide (x.f0 < d.f0))).length = s.2.length := by
  rw [← List.length_append, List.takeWhile_append_dropWhile]
 unfold stepL
 split
 ·rename_i hd
  rw [hd] at h
  simp only [List.length_append, List.length_cons, List.length_nil] at h ⊢
  omega
 ·rename_i old r hd
  rw [hd] at h
  split
  ·split <;> (simp only [List.length_append, List.length_cons, List.length_nil] at h ⊢; omega)
  ·simp only [List.length_append, List.length_cons, List.length_nil] at h ⊢; omega
theorem lst_len (child st : Int) (l0 : List S35) : ∀ (pre : List S35) (s : List S35 × List S35), (pre.foldl (fun s d => stepL child st d s) s).1.length + (pre.foldl (fun s d => stepL child st d s) s).2.length ≤ s.1.length + s.2.length + pre.length
 | [], s => Nat.le_refl _
 | d :: t, s => by
  have h1 := lst_len child st l0 t (stepL child st d s)
  have h2 := stepL_len child st d s
  simp only [List.foldl_cons, List.length_cons]
  omega
theorem newsL_len (child seq : Int) : ∀ (p : Option Int) (l : List S35), (∀ q, p = some q → True) → (newsL child seq p l).length ≤ 2 * l.length + 1
 | p, [], _ => by rw [newsL_end]; split <;> simp
 | p, d :: t, _ => by
  have h1 := newsL_len child seq (some d.f0) t (fun _ _ => trivial)
  have h2 : newsL child seq p (d :: t) = (if d.f0 > child ∧ p.all (fun q => decide (q < child)) = true then [ownS child seq] else []) ++ d :: newsL child seq (some d.f0) t := rfl
  rw [h2]
  split <;> (simp only [List.length_append, List.length_cons, List.length_nil]; omega)
def restLen (Br : Nat) (W : World) : Nat := match W.cell? ⟨Br, 0, none⟩ with
 | some (.slice _ n _) => n
 | _ => 0
theorem restLen_at {Br : Nat} {W : World} {A : Option Addr} {n c : Nat} (h : W.heap[Br]? = some (.cells #[.slice A n c] 22 (0, 0))) : restLen Br W = n := by
 unfold restLen
 rw [show W.cell? ⟨Br, 0, none⟩ = some (.slice A n c) from blk_cell' h 0 _ rfl]
theorem cut1 {w : World} {ad : Addr} {y : S35} {r : List S35} {c : Nat} (hC : Kd.C k35 w (some ad) (y :: r).length (y :: r)) (hc : (y :: r).length ≤ c) :
  ∃ A' c', (∀ W : World, (Instr.slice 22 (.slice (some ad) (r.length + 1) c) (some (.int .i64 1)) none none).run Try.prog W = .ok (.slice A' r.length c') W) ∧ Kd.C k35 w A' r.length r ∧ r.length ≤ c' := by
 obtain ⟨i0, hi, hz⟩ := Option.map_eq_some_iff.1 info35
 simp only [Prod.mk.injEq] at hz
 have hcut := cut_from (P := Try.prog) 22 35 .i64 Try.underlying22 hi 4 hz.2.1 (some ad) (r.length + 1) c 1 (by omega) (by omega)
 have hC2 := Kd.C_drop (m := 1) hC (by simp) hc
 have h1 : (1 : Int).toNat = 1 := rfl
 rw [h1, Nat.add_sub_cancel] at hcut
 exact ⟨_, _, hcut, hC2, by simp only [List.length_cons] at hc; omega⟩
theorem box4_1 {W : World} {g : Nat} {a b c d u : Value} (h : W.heap[g]? = some (.cells #[a, b, c, d] 35 (0, 0))) : (W.setCell ⟨g, 1, none⟩ u).heap[g]? = some (.cells #[a, u, c, d] 35 (0, 0)) := by
 obtain ⟨hlt, hk⟩ := Array.getElem?_eq_some_iff.1 h
 show (W.heap.modify g _)[g]? = _
 rw [Array.getElem?_eq_getElem (by rw [Array.size_modify]; exact hlt), Array.getElem_modify_self, hk]
 rfl
theorem box4_3 {W : World} {g : Nat} {a b c d u : Value} (h : W.heap[g]? = some (.cells #[a, b, c, d] 35 (0, 0))) : (W.setCell ⟨g, 3, none⟩ u).heap[g]? = some (.cells #[a, b, c, u] 35 (0, 0)) := by
 obtain ⟨hlt, hk⟩ := Array.getElem?_eq_some_iff.1 h
 show (W.heap.modify g _)[g]? = _
 rw [Array.getElem?_eq_getElem (by rw [Array.size_modify]; exact hlt), Array.getElem_modify_self, hk]
 rfl
section
variable {child st : Int} {x : S35} {s : List S35 × List S35} {o r : List S35} {y : S35}
theorem stepL_nil (h1 : o ++ ([] : List S35).takeWhile (fun z => decide (z.f0 < x.f0)) = s.1 ++ s.2.takeWhile (fun z => decide (z.f0 < x.f0))) (h2 : ([] : List S35).dropWhile (fun z => decide (z.f0 < x.f0)) = s.2.dropWhile (fun z => decide (z.f0 < x.f0))) : stepL child st x s = (o ++ [⟨x.f0, child, x.f2, st⟩], []) := by
 simp only [List.takeWhile_nil, List.append_nil, List.dropWhile_nil] at h1 h2
 unfold stepL
 rw [← h2, ← h1]
theorem stepL_cons (hy : x.f0 ≤ y.f0) (h1 : o ++ (y :: r).takeWhile (fun z => decide (z.f0 < x.f0)) = s.1 ++ s.2.takeWhile (fun z => decide (z.f0 < x.f0))) (h2 : (y :: r).dropWhile (fun z => decide (z.f0 < x.f0)) = s.2.dropWhile (fun z => decide (z.f0 < x.f0))) :
  stepL child st x s = if y.f0 = x.f0 then (if y.f1 ≠ child ∧ y.f2 ≥ x.f2 then (o ++ [y], r) else (o ++ [⟨x.f0, child, x.f2, st⟩], r)) else (o ++ [⟨x.f0, child, x.f2, st⟩], y :: r) := by
 rw [List.takeWhile_cons, if_neg (by simpa using hy), List.append_nil] at h1
 rw [List.dropWhile_cons, if_neg (by simpa using hy)] at h2
 unfold stepL
 rw [← h2, ← h1]
end
theorem flat35L (w w2 : World) (base : Nat) (ok : Nat → Prop) (x : S35) (c : List Value) (h : k35.K w x c) : k35.M w2 base ok x c := by
 obtain rfl := k35_open h
 exact k35_mkM _ _ _ _
set_option maxRecDepth 100000 in
set_option maxHeartbeats 4000000 in
theorem learn_good (A0 : Option Addr) (c0 : Nat) (l0 : List S35) (a1 a2 : Int) (A3 : Option Addr) (c3 : Nat) (l3 : List S35) (a4 : Int) (w : World)
  (hr0 : Kd.C k35 w A0 l0.length l0) (hc0 : l0.length ≤ c0) (hr3 : Kd.C k35 w A3 l3.length l3) (hc3 : l3.length ≤ c3) (hlim : l0.length + (2 * l3.length + 1) < 4398046511104)
  (hv : ∀ w', Below w.heap.size w w' → Calls Try.prog 25 #[.slice A0 l0.length c0] w' fun e w'' => e = .returned (.bool true) ∧ Below w'.heap.size w' w'')
  (hne : down_node.f a1 = some true) (h1 : decide (a2 < 0) = false) (h2 : decide (a2 > 1000000000) = false) (h3 : decide (a4 < 0) = false) (h4 : decide (a4 > 999999997) = false)
  (ht : ∀ w', Below w.heap.size w w' → Calls Try.prog 27 #[.slice A3 l3.length c3] w' fun e w'' => e = .returned (.bool true) ∧ Below w'.heap.size w' w'')
  (hct : ∀ w' g, Below w.heap.size w w' → w'.heap[g]? = some (.cells #[.int .i64 a1] 3 (0, 0)) → Calls Try.prog 28 #[.slice A3 l3.length c3, .func (.func 24) #[] #[.pointer (some ⟨g, 0, none⟩)]] w' fun e w'' => e = .returned (.bool false) ∧ Below w'.heap.size w' w'') :
  Calls Try.prog 12 #[.slice A0 l0.length c0, .int .i64 a1, .int .i64 a2, .slice A3 l3.length c3, .int .i64 a4] w fun e w' => ∃ v0_ : Value, e = .returned (.tuple #[v0_, .int .i64 0]) ∧ Kd.R k35 35 w' w.heap.size (fun _ => True) v0_ (mergeL a1 (wrap64 (a4 + 3)) (newsL a1 a2 none l3) l0) ∧ Below w.heap.size w w' := by
 have HB0 := Aside0.mk (Below.refl w.heap.size w)
 have HV := Aside0.mk hv
 have NE := Aside0.mk hne
 have HT := Aside0.mk ht
 have HCT := Aside0.mk hct
 have HR0 := Aside0.mk hr0
 have HC0 := Aside0.mk hc0
 have HR3 := Aside0.mk hr3
 have HC3 := Aside0.mk hc3
 have HL := Aside0.mk hlim
 have hmf : ∀ (fn : Fn) (first cap : Array Value) (w : World), (Instr.makeFunc fn first cap).run Try.prog w = .ok (.func fn first cap) w := fun _ _ _ _ => rfl
 clear hv hne ht hct hr0 hc0 hr3 hc3 hlim
 refine callsIn_wide.1 (callsIn_of_wp_marks (n := 5) Try.func12 rfl trivial (wpIn_wide.2 ?_) rfl)
 simp only [Try.ntmps12, List.size_toArray, List.length_cons, List.length_nil, Nat.reduceAdd, Nat.reduceSub, Array.replicate_succ, Array.replicate_zero, List.push_toArray, List.append_toArray, List.nil_append, List.cons_append]
 go_wp2_with (first | ((with_reducible refine gate_dst (N := 6) rfl ?_); refine box_event ?hg (N := 6) ?hd (cs := #[.int .i64 a1]) (t := 3) ?hr ?_; (case hd => rfl); (case hg => rfl); (case hr => first | (go_simp; done) | (go_simp; rfl)); intro gx6 hgx6 w1 hbox hb; have BC := Aside0.mk hbox; have HB1 := Aside0.mk (below_step HB0.out hb); clear hgx6; clear hb hbox) | ((with_reducible refine gate_dst (N := 9) rfl ?_); refine box_event ?hg (N := 9) ?hd (cs := #[.int .i64 a4]) (t := 3) ?hr ?_; (case hd => rfl); (case hg => rfl); (case hr => first | (go_simp; done) | (go_simp; rfl)); intro gx9 hgx9 w2 hbox hb; have BF := Aside0.mk hbox; have BC2 := Aside0.mk (blk_below BC.out hb); have HB2 := Aside0.mk (below_step HB1.out hb); clear hgx9; clear hb hbox))
 go_step3
 go_wp2_with (first | (go_at_call 25; refine (HV.out _ HB2.out).mono ?_; rintro e w3 ⟨rfl, hb3⟩; have HB3 := Aside0.mk (below_step HB2.out hb3); have BC3 := Aside0.mk (blk_below BC2.out hb3); have BF3 := Aside0.mk (blk_below BF.out hb3); have cc3 : w3.cell? ⟨gx6, 0, none⟩ = some (.int .i64 a1) := blk_cell' BC3.out 0 _ rfl; have cf3 : w3.cell? ⟨gx9, 0, none⟩ = some (.int .i64 a4) := blk_cell' BF3.out 0 _ rfl; clear hb3) | (go_at_call 26; refine (down_node.calls a1 _ _ NE.out).mono ?_; rintro e w4 ⟨rfl, n4, rfl⟩) | (go_at_call 27; refine (HT.out _ (pw_below_drewN HB3.out n4)).mono ?_; rintro e w5 ⟨rfl, hb5⟩; have HB5 := Aside0.mk (below_step (pw_below_drewN HB3.out n4) hb5); have BC5 := Aside0.mk (blk_below (show (w3.drewN n4).heap[gx6]? = _ from BC3.out) hb5); have BF5 := Aside0.mk (blk_below (show (w3.drewN n4).heap[gx9]? = _ from BF3.out) hb5); clear hb5) | (go_at_call 28; refine (HCT.out _ _ HB5.out BC5.out).mono ?_; rintro e w6 ⟨rfl, hb6⟩; have HB6 := Aside0.mk (below_step HB5.out hb6); have BC6 := Aside0.mk (blk_below BC5.out hb6); have BF6 := Aside0.mk (blk_below BF5.out hb6); clear hb6) | ((with_reducible refine gate_dst (N := 13) rfl ?_); refine box_event ?hg (N := 13) ?hd (cs := #[.slice none 0 0]) (t := 22) ?hr ?_; (case hd => rfl); (case hg => rfl); (case hr => first | (go_simp; done) | (go_simp; rfl)); intro gx13 hgx13 w7 hbox hb; have BO := Aside0.mk hbox; have HB7 := Aside0.mk (below_step HB6.out hb); have BC7 := Aside0.mk (blk_below BC6.out hb); have BF7 := Aside0.mk (blk_below BF6.out hb); have HG13 := Aside0.mk hgx13; clear hgx13; clear hb hbox) | ((with_reducible refine gate_dst (N := 14) rfl ?_); refine box_event ?hg (N := 14) ?hd (cs := #[.slice none 0 0]) (t := 22) ?hr ?_; (case hd => rfl); (case hg => rfl); (case hr => first | (go_simp; done) | (go_simp; rfl)); intro gx14 hgx14 w8 hbox hb; have BR := Aside0.mk hbox; have HB8 := Aside0.mk (below_step HB7.out hb); have BC8 := Aside0.mk (blk_below BC7.out hb); have BF8 := Aside0.mk (blk_below BF7.out hb); have BO8 := Aside0.mk (blk_below BO.out hb); have HG14 := Aside0.mk hgx14; have HW78 := Aside0.mk hb; have rr : w8.cell? ⟨gx14, 0, none⟩ = some (.slice none 0 0) := blk_cell' BR.out 0 _ rfl; have rf := blk_frozen BR.out 0; clear hgx14; clear hb hbox))
 generalize hw9 : w8.setCell ⟨gx14, 0, none⟩ _ = w9
 have P9 : Aside0 (w9.heap[gx6]? = some (.cells #[.int .i64 a1] 3 (0, 0)) ∧ w9.heap[gx9]? = some (.cells #[.int .i64 a4] 3 (0, 0)) ∧ w9.heap[gx13]? = some (.cells #[.slice none 0 0] 22 (0, 0)) ∧ w9.heap[gx14]? = some (.cells #[.slice A0 l0.length c0] 22 (0, 0)) ∧ Below w.heap.size w w9 ∧ w.heap.size ≤ gx13 ∧ w.heap.size ≤ gx14 ∧ gx13 ≠ gx14) := ⟨by
  have hf : ∀ k, k ≠ gx14 → w9.heap[k]? = w8.heap[k]? := fun k hk => by rw [← hw9]; exact Below.heap_setCell w8 ⟨gx14, 0, none⟩ _ k hk
  have l13 := blk_lt BO.out
  have l6 := blk_lt BC7.out
  have l9 := blk_lt BF7.out
  have g13 := HG13.out
  have g14 := HG14.out
  have z6 := HB6.out.size
  have z7 := HB7.out.size
  refine ⟨(hf _ (by omega)).trans BC8.out, (hf _ (by omega)).trans BF8.out, (hf _ (by omega)).trans BO8.out, ?_, ?_, by omega, by omega, by omega⟩
  ·rw [← hw9]
   exact (show Boxed w8 gx14 22 _ from BR.out).set _
  ·rw [← hw9]
   exact below_set HB8.out (by omega)⟩
 clear hw9 rr rf BC BF BC2 BC3 BF3 BC5 BF5 BC6 BF6 BC7 BF7 BC8 BF8 BO BO8 BR HB1 HB2 HB3 HB5 HB6 HB7 HB8 HG13 HG14 HW78
 have cc9 : w9.cell? ⟨gx6, 0, none⟩ = some (.int .i64 a1) := blk_cell' P9.out.1 0 _ rfl
 go_step3
 go_wp2_with (first | (go_at_call 29; refine (down_news.calls a1 a2 A3 l3.length c3 _).mono ?_; rintro e w10 ⟨gn, rfl, hgn, hn1, hn2, hn3, hb10⟩; have N1 := Aside0.mk hn1; have N2 := Aside0.mk hn2; have N3 := Aside0.mk hn3; have GN := Aside0.mk hgn; have HB10 := Aside0.mk hb10; clear hn1 hn2 hn3 hgn hb10))
 have P10 : Aside0 (w10.heap[gx6]? = some (.cells #[.int .i64 a1] 3 (0, 0)) ∧ w10.heap[gx9]? = some (.cells #[.int .i64 a4] 3 (0, 0)) ∧ w10.heap[gx13]? = some (.cells #[.slice none 0 0] 22 (0, 0)) ∧ w10.heap[gx14]? = some (.cells #[.slice A0 l0.length c0] 22 (0, 0)) ∧ Below w.heap.size w w10 ∧ w.heap.size ≤ gx13 ∧ w.heap.size ≤ gx14 ∧ gx13 ≠ gx14) := ⟨by
  obtain ⟨h1, h2, h3, h4, h5, h6⟩ := P9.out
  exact ⟨blk_below h1 HB10.out, blk_below h2 HB10.out, blk_below h3 HB10.out, blk_below h4 HB10.out, below_step h5 HB10.out, h6⟩⟩
 have GN2 : Aside0 (gx13 < gn ∧ gx14 < gn) := ⟨⟨Nat.lt_of_lt_of_le (blk_lt P9.out.2.2.1) GN.out, Nat.lt_of_lt_of_le (blk_lt P9.out.2.2.2.1) GN.out⟩⟩
 clear P9 cc9 HB10 GN hmf h1 h2 h3 h4 HV NE HT HCT HB0
 have RW : Aside0 (rowAt gx13 w10 = none) := ⟨by unfold rowAt; rw [(show Boxed w10 gx13 22 _ from P10.out.2.2.1).cell]; rfl⟩
 refine (wpIn_wide (n := 5)).1 ?_
 refine range_round (F := Fence.wide) (n := 5) rfl (by decide) (gf := 38) (lb := #[.pointer (some ⟨gn, 0, none⟩), .pointer (some ⟨gn + 1, 0, none⟩), .pointer (some ⟨gn + 2, 0, none⟩)]) rfl trivial (enters_of Try.func38 (by kernel_rfl) rfl)
  (news_stops 4 w.heap.size gx13 gx14 gn (gn + 1) (gn + 2) a1 a2 A3 c3 l3 w w10 rfl HR3.out N1.out N2.out N3.out (by have := GN2.out; omega) (by have := GN2.out; omega) (by have := GN2.out; omega) RW.out (blk_lt P10.out.2.2.1) (blk_lt P10.out.2.2.2.1) P10.out.2.2.2.2.1)
  (fun h k => h.trans k) (fun W l o o' hl h hc hw => Kq.putObj P10.out.2.2.2.2.1.size (blk_lt P10.out.2.2.1) W l o o' hl h hc hw) (Below.refl _ _) (fun _ => rfl)
  (fun pre W => LI w gx6 gx9 gx13 gx14 a1 a4 (lst a1 (wrap64 (a4 + 3)) l0 pre) W)
  (fun _ _ _ => False)
  (fun s A B row hs hg hr => LI.turn P10.out.2.2.2.2.1.size hs hg hr)
  (fun _ _ _ _ _ hs _ _ => hs)
  ⟨P10.out.1, P10.out.2.1, ⟨_, P10.out.2.2.1, Kd.R_nil _ _ _ _ _⟩, ⟨A0, c0, P10.out.2.2.2.1, HR0.out, HC0.out⟩, P10.out.2.2.2.2.1⟩
  (fun V x a' W => ∃ gx15 v, W.heap[gx15]? = some (.cells #[.int .i64 x.f0, .int .i64 x.f1, .int .i64 x.f2, .int .i64 x.f3] 35 (0, 0)) ∧ W.heap[gx13]? = some (.cells #[v] 22 (0, 0)) ∧ some gx15 ≠ v.ownBlock ∧ V.heap.size ≤ gx15 ∧ w.heap.size ≤ V.heap.size ∧ gx13 < V.heap.size ∧ gx14 < V.heap.size ∧ Kq w.heap.size gx13 gx14 V W ∧ a' = { tmps := #[.slice A0 l0.length c0, .int .i64 a1, .int .i64 a2, .slice A3 l3.length c3, .int .i64 a4, Go.undef, .pointer (some ⟨gx6, 0, none⟩), Go.undef, Go.undef, .pointer (some ⟨gx9, 0, none⟩), .slice none 0 0, .int .i64 0, .func (.func 24) #[] #[.pointer (some ⟨gx6, 0, none⟩)], .pointer (some ⟨gx13, 0, none⟩), .pointer (some ⟨gx14, 0, none⟩), .pointer (some ⟨gx15, 0, none⟩), Go.undef, .func (.func 24) #[] #[.pointer (some ⟨gx6, 0, none⟩)], .slice A0 l0.length c0, .bool true, .bool false, .bool false, .int .i64 a1, .bool true, .bool false, .bool false, .bool false, .int .i64 a2, .bool false, .bool false, .bool false, .int .i64 a2, .bool false, .bool false, .bool false, .int .i64 a4, .bool false, .bool false, .bool false, .int .i64 a4, .bool false, .bool false, .bool false, .slice A3 l3.length c3, .bool true, .bool false, .bool false, .bool false, .slice A3 l3.length c3, .func (.func 24) #[] #[.pointer (some ⟨gx6, 0, none⟩)], .bool false, .bool false, .slice A0 l0.length c0, .int .i64 a1, .int .i64 a2, .slice A3 l3.length c3, .func (.func 38) #[] #[.pointer (some ⟨gn, 0, none⟩), .pointer (some ⟨gn + 1, 0, none⟩), .pointer (some ⟨gn + 2, 0, none⟩)], .agg #[.int .i64 x.f0, .int .i64 x.f1, .int .i64 x.f2, .int .i64 x.f3], Go.undef, Go.undef, Go.undef, Go.undef, Go.undef, Go.undef, Go.undef, Go.undef, Go.undef, Go.undef, Go.undef, Go.undef, Go.undef, Go.undef, Go.undef, Go.undef, Go.undef, Go.undef, Go.undef, Go.undef, Go.undef, Go.undef, Go.undef, Go.undef, Go.undef, Go.undef, Go.undef, Go.undef, Go.undef, Go.undef, Go.undef, Go.undef, Go.undef, Go.undef, Go.undef, Go.undef, Go.undef, Go.undef, Go.undef, Go.undef, Go.undef, Go.undef, Go.undef, Go.undef, Go.undef, Go.undef, Go.undef, Go.undef, Go.undef, Go.undef, Go.undef, Go.undef, Go.undef, Go.undef, Go.undef, Go.undef, Go.undef, Go.undef, Go.undef, Go.undef, Go.undef, Go.undef, Go.undef, Go.undef], defers := [] })
  ?hAx ?assign ?body ?done ?stop
 case hAx =>
  intro V x a' s W W' row hs hg hr
  obtain ⟨gx15, v, h1, h2, h3, h4, h5, h6, h7, h8, h9⟩ := hs
  have hr2 : ∀ r, row = some r → ∃ o : Obj, W.heap[r]? = some o ∧ o.isCells = false := fun r e => (hr r e).2
  exact ⟨gx15, v, cells_turn h1 hg hr2, cells_turn h2 hg hr2, h3, h4, h5, h6, h7, h8.turn P10.out.2.2.2.2.1.size h2 hg hr h5, h9⟩
 case assign =>
  intro l pre x W K hI hK
  have HI := Aside0.mk hI
  have HK := Aside0.mk hK
  clear hI hK
  dsimp only [enc35]
  refine region_fence (r := some l) (by rintro ⟨a, w, h⟩; exact h) (by decide) ?_
  go_wp2_with ((with_reducible refine gate_dst (N := 15) rfl ?_); refine box_event ?hg (N := 15) ?hd (cs := #[.int .i64 0, .int .i64 0, .int .i64 0, .int .i64 0]) (t := 35) ?hr ?_; (case hd => rfl); (case hg => rfl); (case hr => first | (go_simp; done) | (go_simp; rfl)); intro gx hgx w3 hbox hb3; have BX := Aside0.mk hbox; have HB3 := Aside0.mk hb3; have GX := Aside0.mk hgx; have s0 : w3.cell? ⟨gx, 0, none⟩ = some (.int .i64 0) := blk_cell' BX.out 0 _ rfl; have s1 : w3.cell? ⟨gx, 1, none⟩ = some (.int .i64 0) := blk_cell' BX.out 1 _ rfl; have s2 : w3.cell? ⟨gx, 2, none⟩ = some (.int .i64 0) := blk_cell' BX.out 2 _ rfl; have s3 : w3.cell? ⟨gx, 3, none⟩ = some (.int .i64 0) := blk_cell' BX.out 3 _ rfl; have f0 := blk_frozen BX.out 0; have f1 := blk_frozen BX.out 1; have f2 := blk_frozen BX.out 2; have f3 := blk_frozen BX.out 3; clear hb3 hbox hgx)
  generalize hw1 : (((w3.setCell ⟨gx, 0, none⟩ _).setCell ⟨gx, 1, none⟩ _).setCell ⟨gx, 2, none⟩ _).setCell ⟨gx, 3, none⟩ _ = W2
  obtain ⟨hx, hgr, hl2⟩ := box35_set GX.out HB3.out BX.out x hw1
  obtain ⟨v, hv, hR⟩ := HI.out.bo
  obtain ⟨A, c, hbr, _, _⟩ := HI.out.br
  have lv := R_block hR
  have l13 := blk_lt hv
  refine HK.out _ _ (KeepsFrom.of_grownBy hgr (by simp)) (LI.turn (Nat.le_refl _) HI.out hgr (by simp)) ⟨gx, v, hx, (hgr.block _ l13 (by simp)).trans hv, fun e => ?_, Nat.le_of_eq GX.out.symm, HI.out.low.size, l13, blk_lt hbr, Kq.grow HI.out.low.size l13 hgr, rfl⟩
  have := (lv gx e.symm).2.1
  have := GX.out
  omega
 case body =>
  intro l pre x a' V W hl hrec hI hAx hlen
  obtain ⟨gx15, v, X1, X2, X3, X4, X5, X6, X7, HKq, rfl⟩ := hAx
  have HS : Aside0 (lst a1 (wrap64 (a4 + 3)) l0 (pre ++ [x]) = stepL a1 (wrap64 (a4 + 3)) x (lst a1 (wrap64 (a4 + 3)) l0 pre)) := ⟨by simp [lst, List.foldl_append]⟩
  have HLN : Aside0 ((lst a1 (wrap64 (a4 + 3)) l0 pre).1.length + (lst a1 (wrap64 (a4 + 3)) l0 pre).2.length + 1 ≤ 4398046511104) := ⟨by
   have h1 := lst_len a1 (wrap64 (a4 + 3)) l0 pre ([], l0)
   have h2 := newsL_len a1 a2 none l3 (fun _ _ => trivial)
   have h3 := HL.out
   simp only [List.length_nil] at h1
   show ((pre.foldl (fun s d => stepL a1 (wrap64 (a4 + 3)) d s) ([], l0)).1.length + (pre.foldl (fun s d => stepL a1 (wrap64 (a4 + 3)) d s) ([], l0)).2.length + 1 ≤ 4398046511104)
   omega⟩
  obtain ⟨s, hs⟩ : ∃ s, lst a1 (wrap64 (a4 + 3)) l0 pre = s := ⟨_, rfl⟩
  rw [hs] at HS HLN
  have hI := (show LI w gx6 gx9 gx13 gx14 a1 a4 (lst a1 (wrap64 (a4 + 3)) l0 pre) W from hI)
  rw [hs] at hI
  clear hs
  have EV : Aside0 (V.heap.size ≤ W.heap.size) := ⟨HKq.below.size⟩
  have GS : Aside0 (w.heap.size ≤ gx13 ∧ w.heap.size ≤ gx14 ∧ gx13 ≠ gx14) := ⟨P10.out.2.2.2.2.2⟩
  have E15 : Aside0 (V.heap.size ≤ gx15) := ⟨X4⟩
  have E0 : Aside0 (w.heap.size ≤ V.heap.size) := ⟨X5⟩
  have KQ := Aside0.mk HKq
  have B0 : Aside0 (BS w gx6 gx9 gx13 gx14 gx15 V.heap.size a1 a4 W s.1 s.2 x W) := ⟨by
   obtain ⟨v', hv', hR⟩ := hI.bo
   obtain rfl : v' = v := by rw [hv'] at X2; injection X2 with X2; injection X2 with X2; injection X2 with X2; injection X2
   exact ⟨hI.bc, hI.bf, ⟨v', hv', hR, X3⟩, hI.br, X1, hI.low, Kx.refl _ _ _ _ _⟩⟩
  clear hl hrec hI hlen X1 X2 X3 X4 X5 X6 X7 HKq HR0 HC0 HR3 HC3 HL N1 N2 N3 RW
  dsimp only
  refine wpIn_block ?_
  refine wpIn_seq ?_
  refine wpIn_block ?_
  gi_loopw [58] (fun _ wr => ∃ (o r : List S35), Aside0 (BS w gx6 gx9 gx13 gx14 gx15 V.heap.size a1 a4 W o r x wr) ∧ Aside0 (o ++ r.takeWhile (fun z : S35 => decide (z.f0 < x.f0)) = s.1 ++ s.2.takeWhile (fun z : S35 => decide (z.f0 < x.f0)) ∧ r.dropWhile (fun z : S35 => decide (z.f0 < x.f0)) = s.2.dropWhile (fun z : S35 => decide (z.f0 < x.f0)) ∧ o.length + r.length + 1 ≤ 4398046511104)) (fun _ wr => restLen gx14 wr)
  case atStart => exact ⟨s.1, s.2, B0, ⟨rfl, rfl, HLN.out⟩⟩
  case round =>
   obtain ⟨o, r, BB, PP⟩ := hrel
   clear B0
   refine wpIn_seq ?_
   refine wpIn_seq ?_
   cases r with
   | nil =>
    obtain ⟨A, c, hbr, _, _⟩ := BB.out.br
    have b0 : wr.cell? ⟨gx14, 0, none⟩ = some (.slice A 0 c) := blk_cell' hbr 0 _ rfl
    clear hbr
    refine start2 (r := (some l)) (k := 12) (fun w' => w'.cell? ⟨gx14, 0, none⟩ = some (.slice A 0 c)) (fun w' => True) [] [] #[false, false, false, false, false, false, false, false, false, false, false, false] (by decide) (by kernel_rfl) rfl rfl (b0) trivial (fun hHeld hHeld2 => ?_)
    refine takeA (i := 0) (N := some 58) (v := ?_) (a' := ?_) #[true, false, false, false, false, false, false, false, false, false, false, false] rfl rfl (by kernel_rfl) (fun _ _ _ h => h) (Or.inl ⟨by rfl, ?_⟩) hHeld ?_ ?_
    rotate_left
    ·intro w' s0
     go_simp
     with_reducible rfl
    rotate_left
    ·simp only [Act.put, List.setIfInBounds_toArray, List.set_cons_zero, List.set_cons_succ, i64_w, i32_w]
     rfl
    refine takeA (i := 1) (N := some 59) (v := ?_) (a' := ?_) #[true, true, false, false, false, false, false, false, false, false, false, false] rfl rfl (by kernel_rfl) (fun _ _ _ h => h) (Or.inl ⟨by rfl, ?_⟩) hHeld ?_ ?_
    rotate_left
    ·intro w' s0
     go_simp
     with_reducible rfl
    rotate_left
    ·simp only [Act.put, List.setIfInBounds_toArray, List.set_cons_zero, List.set_cons_succ, i64_w, i32_w]
     rfl
    refine takeA (i := 2) (N := some 60) (v := ?_) (a' := ?_) #[true, true, true, false, false, false, false, false, false, false, false, false] rfl rfl (by kernel_rfl) (fun _ _ _ h => h) (Or.inl ⟨by rfl, ?_⟩) hHeld ?_ ?_
    rotate_left
    ·intro w' s0
     go_simp
     with_reducible rfl
    rotate_left
    ·simp only [Act.put, List.setIfInBounds_toArray, List.set_cons_zero, List.set_cons_succ, i64_w, i32_w]
     rfl
    refine takeA (i := 3) (N := some 61) (v := ?_) (a' := ?_) #[true, true, true, true, false, false, false, false, false, false, false, false] rfl rfl (by kernel_rfl) (fun _ _ _ h => h) (Or.inl ⟨by rfl, ?_⟩) hHeld ?_ ?_
    rotate_left
    ·intro w' s0
     go_simp
     with_reducible rfl
    rotate_left
    ·simp only [Act.put, List.setIfInBounds_toArray, List.set_cons_zero, List.set_cons_succ, i64_w, i32_w]
     rfl
    refine takeA (i := 4) (N := some 62) (v := undef) (a' := ?_) #[true, true, true, true, true, false, false, false, false, false, false, false] rfl rfl (by kernel_rfl) (fun _ _ _ h => h) (Or.inr ⟨by rfl, rfl⟩) hHeld ?_ ?_
    rotate_left
    ·simp only [Act.put, List.setIfInBounds_toArray, List.set_cons_zero, List.set_cons_succ, i64_w, i32_w]
     rfl
    refine takeA (i := 5) (N := some 63) (v := undef) (a' := ?_) #[true, true, true, true, true, true, false, false, false, false, false, false] rfl rfl (by kernel_rfl) (fun _ _ _ h => h) (Or.inr ⟨by rfl, rfl⟩) hHeld ?_ ?_
    rotate_left
    ·simp only [Act.put, List.setIfInBounds_toArray, List.set_cons_zero, List.set_cons_succ, i64_w, i32_w]
     rfl
    refine takeA (i := 6) (N := some 64) (v := undef) (a' := ?_) #[true, true, true, true, true, true, true, false, false, false, false, false] rfl rfl (by kernel_rfl) (fun _ _ _ h => h) (Or.inr ⟨by rfl, rfl⟩) hHeld ?_ ?_
    rotate_left
    ·simp only [Act.put, List.setIfInBounds_toArray, List.set_cons_zero, List.set_cons_succ, i64_w, i32_w]
     rfl
    refine takeA (i := 7) (N := some 65) (v := undef) (a' := ?_) #[true, true, true, true, true, true, true, true, false, false, false, false] rfl rfl (by kernel_rfl) (fun _ _ _ h => h) (Or.inr ⟨by rfl, rfl⟩) hHeld ?_ ?_
    rotate_left
    ·simp only [Act.put, List.setIfInBounds_toArray, List.set_cons_zero, List.set_cons_succ, i64_w, i32_w]
     rfl
    refine takeA (i := 8) (N := some 66) (v := undef) (a' := ?_) #[true, true, true, true, true, true, true, true, true, false, false, false] rfl rfl (by kernel_rfl) (fun _ _ _ h => h) (Or.inr ⟨by rfl, rfl⟩) hHeld ?_ ?_
    rotate_left
    ·simp only [Act.put, List.setIfInBounds_toArray, List.set_cons_zero, List.set_cons_succ, i64_w, i32_w]
     rfl
    refine takeA (i := 9) (N := some 67) (v := undef) (a' := ?_) #[true, true, true, true, true, true, true, true, true, true, false, false] rfl rfl (by kernel_rfl) (fun _ _ _ h => h) (Or.inr ⟨by rfl, rfl⟩) hHeld ?_ ?_
    rotate_left
    ·simp only [Act.put, List.setIfInBounds_toArray, List.set_cons_zero, List.set_cons_succ, i64_w, i32_w]
     rfl
    refine takeA (i := 10) (N := some 68) (v := undef) (a' := ?_) #[true, true, true, true, true, true, true, true, true, true, true, false] rfl rfl (by kernel_rfl) (fun _ _ _ h => h) (Or.inr ⟨by rfl, rfl⟩) hHeld ?_ ?_
    rotate_left
    ·simp only [Act.put, List.setIfInBounds_toArray, List.set_cons_zero, List.set_cons_succ, i64_w, i32_w]
     rfl
    refine takeA (i := 11) (N := some 69) (v := ?_) (a' := ?_) #[true, true, true, true, true, true, true, true, true, true, true, true] rfl rfl (by kernel_rfl) (fun _ _ _ h => h) (Or.inl ⟨by rfl, ?_⟩) hHeld ?_ ?_
    rotate_left
    ·intro w' s0
     go_simp
     with_reducible rfl
    rotate_left
    ·simp only [Act.put, List.setIfInBounds_toArray, List.set_cons_zero, List.set_cons_succ, i64_w, i32_w]
     rfl
    refine doneF (by kernel_rfl) ?_
    clear b0
    have hgd : ∀ W' : World, W'.grownBy W'.drew none := fun W' => ⟨rfl, rfl, rfl, Nat.le_refl _, fun _ _ _ => rfl⟩
    have BD := Aside0.mk (BB.out.grow EV.out (hgd wr))
    generalize wr.drew = wd at BD ⊢
    have BDD := Aside0.mk (BD.out.grow EV.out (hgd wd))
    clear hgd
    refine wpIn_cond_false rfl ?_
    refine wpIn_exit ?_
    show Code.wpIn _ _ _ _ _ _ _
    have c6 : wd.cell? ⟨gx6, 0, none⟩ = some (.int .i64 a1) := blk_cell' BD.out.bc 0 _ rfl
    have c9 : wd.cell? ⟨gx9, 0, none⟩ = some (.int .i64 a4) := blk_cell' BD.out.bf 0 _ rfl
    refine wpIn_seq ?_
    refine start2 (r := (some l)) (k := 7) (fun w' => w'.cell? ⟨gx6, 0, none⟩ = some (.int .i64 a1) ∧ w'.cell? ⟨gx9, 0, none⟩ = some (.int .i64 a4)) (fun w' => True) [6] [6] #[false, false, false, false, false, false, false] (by decide) (by kernel_rfl) rfl rfl ⟨c6, c9⟩ trivial (fun hHeld hHeld2 => ?_)
    generalize wd.drew = we at hHeld hHeld2 BDD ⊢
    have z1 : we.cell? ⟨gx15, 1, none⟩ = some (.int .i64 x.f1) := blk_cell' BDD.out.bd 1 _ rfl
    have fz1 := blk_frozen BDD.out.bd 1
    refine takeA (i := 0) (N := some 78) (v := ?_) (a' := ?_) #[true, false, false, false, false, false, false] rfl rfl (by kernel_rfl) (fun _ _ _ h => h) (Or.inl ⟨by rfl, ?_⟩) hHeld ?_ ?_
    rotate_left
    ·rintro w' ⟨s0, s1⟩
     go_simp
     with_reducible rfl
    rotate_left
    ·simp only [Act.put, List.setIfInBounds_toArray, List.set_cons_zero, List.set_cons_succ, i64_w, i32_w]
     rfl
    refine takeA (i := 1) (N := some 79) (v := ?_) (a' := ?_) #[true, true, false, false, false, false, false] rfl rfl (by kernel_rfl) (fun _ _ _ h => h) (Or.inl ⟨by rfl, ?_⟩) hHeld ?_ ?_
    rotate_left
    ·rintro w' ⟨s0, s1⟩
     go_simp
     with_reducible rfl
    rotate_left
    ·simp only [Act.put, List.setIfInBounds_toArray, List.set_cons_zero, List.set_cons_succ, i64_w, i32_w]
     rfl
    refine takeA (i := 2) (N := some 80) (v := ?_) (a' := ?_) #[true, true, true, false, false, false, false] rfl rfl (by kernel_rfl) (fun _ _ _ h => h) (Or.inl ⟨by rfl, ?_⟩) hHeld ?_ ?_
    rotate_left
    ·rintro w' ⟨s0, s1⟩
     go_simp
     with_reducible rfl
    rotate_left
    ·simp only [Act.put, List.setIfInBounds_toArray, List.set_cons_zero, List.set_cons_succ, i64_w, i32_w]
     rfl
    refine takeA (i := 3) (N := some 81) (v := ?_) (a' := ?_) #[true, true, true, true, false, false, false] rfl rfl (by kernel_rfl) (fun _ _ _ h => h) (Or.inl ⟨by rfl, ?_⟩) hHeld ?_ ?_
    rotate_left
    ·rintro w' ⟨s0, s1⟩
     go_simp
     with_reducible rfl
    rotate_left
    ·simp only [Act.put, List.setIfInBounds_toArray, List.set_cons_zero, List.set_cons_succ, i64_w, i32_w]
     rfl
    refine oneP (i := 4) (N := none) #[true, true, true, true, true, false, false] rfl rfl (by kernel_rfl) (by rfl) (fun K hK => ?_)
    refine skip_ (w1 := ?_) (by rfl) rfl ?_ ?_
    rotate_left
    ·go_simp
     rfl
    generalize hw11 : we.setCell ⟨gx15, 1, none⟩ _ = w11
    have B11 : Aside0 (BS w gx6 gx9 gx13 gx14 gx15 V.heap.size a1 a4 W o [] ⟨x.f0, a1, x.f2, x.f3⟩ w11) := ⟨by rw [← hw11]; exact BDD.out.setd EV.out E15.out (Nat.le_trans E0.out E15.out) 1 _ (box4_1 BDD.out.bd)⟩
    have z3 : w11.cell? ⟨gx15, 3, none⟩ = some (.int .i64 x.f3) := blk_cell' B11.out.bd 3 _ rfl
    have fz3 := blk_frozen B11.out.bd 3
    have k6 : w11.cell? ⟨gx6, 0, none⟩ = some (.int .i64 a1) := blk_cell' B11.out.bc 0 _ rfl
    have k9 : w11.cell? ⟨gx9, 0, none⟩ = some (.int .i64 a4) := blk_cell' B11.out.bf 0 _ rfl
    clear hw11 z1 fz1
    refine hK _ _ ⟨k6, k9⟩ trivial (fun hHeld hHeld2 => ?_)
    clear hK K
    refine takeA (i := 5) (N := some 82) (v := ?_) (a' := ?_) #[true, true, true, true, true, true, false] rfl rfl (by kernel_rfl) (fun _ _ _ h => h) (Or.inl ⟨by rfl, ?_⟩) hHeld ?_ ?_
    rotate_left
    ·rintro w' ⟨s0, s1⟩
     go_simp
     with_reducible rfl
    rotate_left
    ·simp only [Act.put, List.setIfInBounds_toArray, List.set_cons_zero, List.set_cons_succ, i64_w, i32_w]
     rfl
    refine oneR (i := 6) (N := none) #[true, true, true, true, true, true, true] rfl rfl (by kernel_rfl) (by rfl) (by decide) (by decide) (fun K hK => ?_)
    refine skip_ (w1 := ?_) (by rfl) rfl ?_ ?_
    rotate_left
    ·go_simp
     rfl
    generalize hw12 : w11.setCell ⟨gx15, 3, none⟩ _ = w12
    have B12 : Aside0 (BS w gx6 gx9 gx13 gx14 gx15 V.heap.size a1 a4 W o [] ⟨x.f0, a1, x.f2, wrap64 (a4 + 3)⟩ w12) := ⟨by rw [← hw12]; exact B11.out.setd EV.out E15.out (Nat.le_trans E0.out E15.out) 3 _ (box4_3 B11.out.bd)⟩
    clear hw12 z3 fz3 k6 k9
    refine hK _ _ ?_
    clear hK K
    refine doneF (by kernel_rfl) ?_
    clear c6 c9
    show Code.wpIn _ _ _ _ _ _ _
    refine wpIn_seq ?_
    refine wpIn_seq ?_
    obtain ⟨A, c, hbr, _, _⟩ := B12.out.br
    have b0 : w12.cell? ⟨gx14, 0, none⟩ = some (.slice A 0 c) := blk_cell' hbr 0 _ rfl
    clear hbr
    refine start2 (r := (some l)) (k := 12) (fun w' => w'.cell? ⟨gx14, 0, none⟩ = some (.slice A 0 c)) (fun w' => True) [] [] #[false, false, false, false, false, false, false, false, false, false, false, false] (by decide) (by kernel_rfl) rfl rfl (b0) trivial (fun hHeld hHeld2 => ?_)
    refine takeA (i := 0) (N := some 83) (v := ?_) (a' := ?_) #[true, false, false, false, false, false, false, false, false, false, false, false] rfl rfl (by kernel_rfl) (fun _ _ _ h => h) (Or.inl ⟨by rfl, ?_⟩) hHeld ?_ ?_
    rotate_left
    ·intro w' s0
     go_simp
     with_reducible rfl
    rotate_left
    ·simp only [Act.put, List.setIfInBounds_toArray, List.set_cons_zero, List.set_cons_succ, i64_w, i32_w]
     rfl
    refine takeA (i := 1) (N := some 84) (v := ?_) (a' := ?_) #[true, true, false, false, false, false, false, false, false, false, false, false] rfl rfl (by kernel_rfl) (fun _ _ _ h => h) (Or.inl ⟨by rfl, ?_⟩) hHeld ?_ ?_
    rotate_left
    ·intro w' s0
     go_simp
     with_reducible rfl
    rotate_left
    ·simp only [Act.put, List.setIfInBounds_toArray, List.set_cons_zero, List.set_cons_succ, i64_w, i32_w]
     rfl
    refine takeA (i := 2) (N := some 85) (v := ?_) (a' := ?_) #[true, true, true, false, false, false, false, false, false, false, false, false] rfl rfl (by kernel_rfl) (fun _ _ _ h => h) (Or.inl ⟨by rfl, ?_⟩) hHeld ?_ ?_
    rotate_left
    ·intro w' s0
     go_simp
     with_reducible rfl
    rotate_left
    ·simp only [Act.put, List.setIfInBounds_toArray, List.set_cons_zero, List.set_cons_succ, i64_w, i32_w]
     rfl
    refine takeA (i := 3) (N := some 86) (v := ?_) (a' := ?_) #[true, true, true, true, false, false, false, false, false, false, false, false] rfl rfl (by kernel_rfl) (fun _ _ _ h => h) (Or.inl ⟨by rfl, ?_⟩) hHeld ?_ ?_
    rotate_left
    ·intro w' s0
     go_simp
     with_reducible rfl
    rotate_left
    ·simp only [Act.put, List.setIfInBounds_toArray, List.set_cons_zero, List.set_cons_succ, i64_w, i32_w]
     rfl
    refine takeA (i := 4) (N := some 87) (v := undef) (a' := ?_) #[true, true, true, true, true, false, false, false, false, false, false, false] rfl rfl (by kernel_rfl) (fun _ _ _ h => h) (Or.inr ⟨by rfl, rfl⟩) hHeld ?_ ?_
    rotate_left
    ·simp only [Act.put, List.setIfInBounds_toArray, List.set_cons_zero, List.set_cons_succ, i64_w, i32_w]
     rfl
    refine takeA (i := 5) (N := some 88) (v := undef) (a' := ?_) #[true, true, true, true, true, true, false, false, false, false, false, false] rfl rfl (by kernel_rfl) (fun _ _ _ h => h) (Or.inr ⟨by rfl, rfl⟩) hHeld ?_ ?_
    rotate_left
    ·simp only [Act.put, List.setIfInBounds_toArray, List.set_cons_zero, List.set_cons_succ, i64_w, i32_w]
     rfl
    refine takeA (i := 6) (N := some 89) (v := undef) (a' := ?_) #[true, true, true, true, true, true, true, false, false, false, false, false] rfl rfl (by kernel_rfl) (fun _ _ _ h => h) (Or.inr ⟨by rfl, rfl⟩) hHeld ?_ ?_
    rotate_left
    ·simp only [Act.put, List.setIfInBounds_toArray, List.set_cons_zero, List.set_cons_succ, i64_w, i32_w]
     rfl
    refine takeA (i := 7) (N := some 90) (v := undef) (a' := ?_) #[true, true, true, true, true, true, true, true, false, false, false, false] rfl rfl (by kernel_rfl) (fun _ _ _ h => h) (Or.inr ⟨by rfl, rfl⟩) hHeld ?_ ?_
    rotate_left
    ·simp only [Act.put, List.setIfInBounds_toArray, List.set_cons_zero, List.set_cons_succ, i64_w, i32_w]
     rfl
    refine takeA (i := 8) (N := some 91) (v := undef) (a' := ?_) #[true, true, true, true, true, true, true, true, true, false, false, false] rfl rfl (by kernel_rfl) (fun _ _ _ h => h) (Or.inr ⟨by rfl, rfl⟩) hHeld ?_ ?_
    rotate_left
    ·simp only [Act.put, List.setIfInBounds_toArray, List.set_cons_zero, List.set_cons_succ, i64_w, i32_w]
     rfl
    refine takeA (i := 9) (N := some 92) (v := undef) (a' := ?_) #[true, true, true, true, true, true, true, true, true, true, false, false] rfl rfl (by kernel_rfl) (fun _ _ _ h => h) (Or.inr ⟨by rfl, rfl⟩) hHeld ?_ ?_
    rotate_left
    ·simp only [Act.put, List.setIfInBounds_toArray, List.set_cons_zero, List.set_cons_succ, i64_w, i32_w]
     rfl
    refine takeA (i := 10) (N := some 93) (v := undef) (a' := ?_) #[true, true, true, true, true, true, true, true, true, true, true, false] rfl rfl (by kernel_rfl) (fun _ _ _ h => h) (Or.inr ⟨by rfl, rfl⟩) hHeld ?_ ?_
    rotate_left
    ·simp only [Act.put, List.setIfInBounds_toArray, List.set_cons_zero, List.set_cons_succ, i64_w, i32_w]
     rfl
    refine takeA (i := 11) (N := some 94) (v := ?_) (a' := ?_) #[true, true, true, true, true, true, true, true, true, true, true, true] rfl rfl (by kernel_rfl) (fun _ _ _ h => h) (Or.inl ⟨by rfl, ?_⟩) hHeld ?_ ?_
    rotate_left
    ·intro w' s0
     go_simp
     with_reducible rfl
    rotate_left
    ·simp only [Act.put, List.setIfInBounds_toArray, List.set_cons_zero, List.set_cons_succ, i64_w, i32_w]
     rfl
    refine doneF (by kernel_rfl) ?_
    clear b0
    refine wpIn_cond_false rfl ?_
    refine wpIn_skip ?_
    have hgd : w12.grownBy w12.drew none := ⟨rfl, rfl, rfl, Nat.le_refl _, fun _ _ _ => rfl⟩
    have B13 := Aside0.mk (B12.out.grow EV.out hgd)
    clear hgd
    generalize w12.drew = w13 at B13 ⊢
    show Code.wpIn _ _ _ _ _ _ _
    obtain ⟨vo, hvo, hRo, hnb⟩ := B13.out.bo
    have VO := Aside0.mk hvo
    have RO := Aside0.mk hRo
    have b3 : w13.cell? ⟨gx13, 0, none⟩ = some vo := blk_cell' hvo 0 _ rfl
    clear hvo hRo hnb
    have z0 : w13.cell? ⟨gx15, 0, none⟩ = some (.int .i64 x.f0) := blk_cell' B13.out.bd 0 _ rfl
    have z1 : w13.cell? ⟨gx15, 1, none⟩ = some (.int .i64 a1) := blk_cell' B13.out.bd 1 _ rfl
    have z2 : w13.cell? ⟨gx15, 2, none⟩ = some (.int .i64 x.f2) := blk_cell' B13.out.bd 2 _ rfl
    have z3 : w13.cell? ⟨gx15, 3, none⟩ = some (.int .i64 (wrap64 (a4 + 3))) := blk_cell' B13.out.bd 3 _ rfl
    refine region_fence (r := some l) (by rintro ⟨a, w, h⟩; exact h) (by decide) ?_
    go_wp2_with ((with_reducible refine gate_builtin (b := .append) (xs := #[.tmp 115, .tmp 117]) rfl ?_); at_builtin; refine Kd.R_append k35 (w0 := w) w.heap.size rfl (.tmp 115) (.tmp 117) 22 35 (.agg #[(.int .i64 0), (.int .i64 0), (.int .i64 0), (.int .i64 0)]) 32 rfl Try.underlying22 info35 rfl (by decide) (by omega) vo o (⟨x.f0, a1, x.f2, wrap64 (a4 + 3)⟩ : S35) [.int .i64 x.f0, .int .i64 a1, .int .i64 x.f2, .int .i64 (wrap64 (a4 + 3))] (fun _ => True) (fun _ => False) rfl rfl ?aP (fun _ hk => hk.elim) ?aF ?aO ?aB ?aS ?aL ?_; (case aP => exact k35_mkM _ _ _ _); (case aB => exact B13.out.low); (case aF => exact (fun _ _ => trivial)); (case aO => exact RO.out); (case aS => exact B13.out.low.size); (case aL => have := PP.out.2.2; omega); intro v1 w19 ho hb hg hat; obtain ⟨A1, c1, hv1⟩ := Kd.R_slice ho; rw [show (o ++ [(⟨x.f0, a1, x.f2, wrap64 (a4 + 3)⟩ : S35)]).length = o.length + 1 from by simp] at hv1; subst hv1; have HO5 := Aside0.mk ho; have HG5 := Aside0.mk hg; have HAT5 := Aside0.mk hat; have bo5 : w19.cell? ⟨gx13, 0, none⟩ = some vo := cell_grown (blk_cell' VO.out 0 _ rfl : w13.cell? ⟨gx13, 0, none⟩ = some vo) HG5.out (row_ne RO.out VO.out (by decide)); have fo5 : w19.frozen? ⟨gx13, 0, none⟩ = false := (show Boxed w19 gx13 22 vo from (show Boxed w13 gx13 22 vo from VO.out).kept HG5.out (row_ne RO.out VO.out (by decide))).frozen; clear ho hb hg hat)
    generalize hw20 : w19.setCell ⟨gx13, 0, none⟩ _ = w20
    have B20 : Aside0 (BS w gx6 gx9 gx13 gx14 gx15 V.heap.size a1 a4 W (o ++ [(⟨x.f0, a1, x.f2, wrap64 (a4 + 3)⟩ : S35)]) [] ⟨x.f0, a1, x.f2, wrap64 (a4 + 3)⟩ w20) := ⟨by rw [← hw20]; exact B13.out.app EV.out GS.out.1 GS.out.2.2 VO.out HO5.out HG5.out HAT5.out⟩
    clear hw20 bo5 fo5
    exact ⟨B20.out.kx.keepsFrom, KQ.out.then B20.out.kx, by
     show LI w gx6 gx9 gx13 gx14 a1 a4 (lst a1 (wrap64 (a4 + 3)) l0 (pre ++ [x])) w20
     rw [HS.out, stepL_nil PP.out.1 PP.out.2.1]
     exact B20.out.li⟩
   | cons y r =>
    obtain ⟨A, c, hbr, hC, hc⟩ := BB.out.br
    obtain ⟨ad, hA, h0, h1, h2, h3⟩ := at_T35 hC 0 (by omega) (by simp)
    subst hA
    have b0 : wr.cell? ⟨gx14, 0, none⟩ = some (.slice (some ad) (r.length + 1) c) := blk_cell' hbr 0 _ rfl
    have x0 : wr.cell? ⟨gx15, 0, none⟩ = some (.int .i64 x.f0) := blk_cell' BB.out.bd 0 _ rfl
    have he : ad.add (Int.toNat 0 * 4) = ad := by cases ad; simp [Addr.add]
    rw [he] at h0 h1 h2 h3
    have hy : rd_T35 (y :: r) 0 = y := rfl
    rw [hy] at h0 h1 h2 h3
    clear he hy
    have bl : ∀ {p : Addr} {v : Value}, w.cell? p = some v → wr.cell? p = some v := fun {p v} h => (BB.out.low.cell (World.block_lt_of_cell? w _ h)).trans h
    have e0 : wr.cell? ad = some (.int .i64 y.f0) := bl h0
    have e1 : wr.cell? ⟨ad.block, ad.off + 1, none⟩ = some (.int .i64 y.f1) := bl h1
    have e2 : wr.cell? ⟨ad.block, ad.off + 2, none⟩ = some (.int .i64 y.f2) := bl h2
    have e3 : wr.cell? ⟨ad.block, ad.off + 3, none⟩ = some (.int .i64 y.f3) := bl h3
    have HC := Aside0.mk hC
    have HCC := Aside0.mk hc
    have BRK : Aside0 (wr.heap[gx14]? = some (.cells #[.slice (some ad) (r.length + 1) c] 22 (0, 0))) := ⟨hbr⟩
    have BRK0 := BRK
    have EW := Aside0.mk (And.intro h0 (And.intro h1 (And.intro h2 h3)))
    clear bl h0 h1 h2 h3 hC hc hbr
    have hpos : decide (0 < (r.length : Int) + 1) = true := decide_eq_true (by omega)
    by_cases hlt : y.f0 < x.f0
    ·have hd := decide_eq_true hlt
     refine start2 (r := (some l)) (k := 12) (fun w' => w'.cell? ⟨gx14, 0, none⟩ = some (.slice (some ad) (r.length + 1) c) ∧ w'.cell? ad = some (.int .i64 y.f0) ∧ w'.cell? ⟨gx15, 0, none⟩ = some (.int .i64 x.f0)) (fun w' => True) [] [] #[false, false, false, false, false, false, false, false, false, false, false, false] (by decide) (by kernel_rfl) rfl rfl ⟨b0, e0, x0⟩ trivial (fun hHeld hHeld2 => ?_)
     refine takeA (i := 0) (N := some 58) (v := ?_) (a' := ?_) #[true, false, false, false, false, false, false, false, false, false, false, false] rfl rfl (by kernel_rfl) (fun _ _ _ h => h) (Or.inl ⟨by rfl, ?_⟩) hHeld ?_ ?_
     rotate_left
     ·rintro w' ⟨s0, s1, s2⟩
      go_simp
      with_reducible rfl
     rotate_left
     ·simp only [Act.put, List.setIfInBounds_toArray, List.set_cons_zero, List.set_cons_succ, i64_w, i32_w]
      rfl
     refine takeA (i := 1) (N := some 59) (v := ?_) (a' := ?_) #[true, true, false, false, false, false, false, false, false, false, false, false] rfl rfl (by kernel_rfl) (fun _ _ _ h => h) (Or.inl ⟨by rfl, ?_⟩) hHeld ?_ ?_
     rotate_left
     ·rintro w' ⟨s0, s1, s2⟩
      go_simp
      with_reducible rfl
     rotate_left
     ·simp only [Act.put, List.setIfInBounds_toArray, List.set_cons_zero, List.set_cons_succ, i64_w, i32_w]
      rfl
     refine takeA (i := 2) (N := some 60) (v := ?_) (a' := ?_) #[true, true, true, false, false, false, false, false, false, false, false, false] rfl rfl (by kernel_rfl) (fun _ _ _ h => h) (Or.inl ⟨by rfl, ?_⟩) hHeld ?_ ?_
     rotate_left
     ·rintro w' ⟨s0, s1, s2⟩
      go_simp
      with_reducible rfl
     rotate_left
     ·simp only [Act.put, List.setIfInBounds_toArray, List.set_cons_zero, List.set_cons_succ, i64_w, i32_w]
      rfl
     refine takeA (i := 3) (N := some 61) (v := ?_) (a' := ?_) #[true, true, true, true, false, false, false, false, false, false, false, false] rfl rfl (by kernel_rfl) (fun _ _ _ h => h) (Or.inl ⟨by rfl, ?_⟩) hHeld ?_ ?_
     rotate_left
     ·rintro w' ⟨s0, s1, s2⟩
      go_simp
      with_reducible rfl
     rotate_left
     ·simp only [Act.put, List.setIfInBounds_toArray, List.set_cons_zero, List.set_cons_succ, i64_w, i32_w]
      rfl
     refine takeA (i := 4) (N := some 62) (v := ?_) (a' := ?_) #[true, true, true, true, true, false, false, false, false, false, false, false] rfl rfl (by kernel_rfl) (fun _ _ _ h => h) (Or.inl ⟨by rfl, ?_⟩) hHeld ?_ ?_
     rotate_left
     ·rintro w' ⟨s0, s1, s2⟩
      go_simp
      with_reducible rfl
     rotate_left
     ·simp only [Act.put, List.setIfInBounds_toArray, List.set_cons_zero, List.set_cons_succ, i64_w, i32_w]
      rfl
     refine takeA (i := 5) (N := some 63) (v := ?_) (a' := ?_) #[true, true, true, true, true, true, false, false, false, false, false, false] rfl rfl (by kernel_rfl) (fun _ _ _ h => h) (Or.inl ⟨by rfl, ?_⟩) hHeld ?_ ?_
     rotate_left
     ·rintro w' ⟨s0, s1, s2⟩
      go_simp
      with_reducible rfl
     rotate_left
     ·simp only [Act.put, List.setIfInBounds_toArray, List.set_cons_zero, List.set_cons_succ, i64_w, i32_w]
      rfl
     refine takeA (i := 6) (N := some 64) (v := ?_) (a' := ?_) #[true, true, true, true, true, true, true, false, false, false, false, false] rfl rfl (by kernel_rfl) (fun _ _ _ h => h) (Or.inl ⟨by rfl, ?_⟩) hHeld ?_ ?_
     rotate_left
     ·rintro w' ⟨s0, s1, s2⟩
      go_simp
      with_reducible rfl
     rotate_left
     ·simp only [Act.put, List.setIfInBounds_toArray, List.set_cons_zero, List.set_cons_succ, i64_w, i32_w]
      rfl
     refine takeA (i := 7) (N := some 65) (v := ?_) (a' := ?_) #[true, true, true, true, true, true, true, true, false, false, false, false] rfl rfl (by kernel_rfl) (fun _ _ _ h => h) (Or.inl ⟨by rfl, ?_⟩) hHeld ?_ ?_
     rotate_left
     ·rintro w' ⟨s0, s1, s2⟩
      go_simp
      with_reducible rfl
     rotate_left
     ·simp only [Act.put, List.setIfInBounds_toArray, List.set_cons_zero, List.set_cons_succ, i64_w, i32_w]
      rfl
     refine takeA (i := 8) (N := some 66) (v := ?_) (a' := ?_) #[true, true, true, true, true, true, true, true, true, false, false, false] rfl rfl (by kernel_rfl) (fun _ _ _ h => h) (Or.inl ⟨by rfl, ?_⟩) hHeld ?_ ?_
     rotate_left
     ·rintro w' ⟨s0, s1, s2⟩
      go_simp
      with_reducible rfl
     rotate_left
     ·simp only [Act.put, List.setIfInBounds_toArray, List.set_cons_zero, List.set_cons_succ, i64_w, i32_w]
      rfl
     refine takeA (i := 9) (N := some 67) (v := ?_) (a' := ?_) #[true, true, true, true, true, true, true, true, true, true, false, false] rfl rfl (by kernel_rfl) (fun _ _ _ h => h) (Or.inl ⟨by rfl, ?_⟩) hHeld ?_ ?_
     rotate_left
     ·rintro w' ⟨s0, s1, s2⟩
      go_simp
      with_reducible rfl
     rotate_left
     ·simp only [Act.put, List.setIfInBounds_toArray, List.set_cons_zero, List.set_cons_succ, i64_w, i32_w]
      rfl
     refine takeA (i := 10) (N := some 68) (v := ?_) (a' := ?_) #[true, true, true, true, true, true, true, true, true, true, true, false] rfl rfl (by kernel_rfl) (fun _ _ _ h => h) (Or.inl ⟨by rfl, ?_⟩) hHeld ?_ ?_
     rotate_left
     ·rintro w' ⟨s0, s1, s2⟩
      go_simp
      with_reducible rfl
     rotate_left
     ·simp only [Act.put, List.setIfInBounds_toArray, List.set_cons_zero, List.set_cons_succ, i64_w, i32_w]
      rfl
     refine takeA (i := 11) (N := some 69) (v := ?_) (a' := ?_) #[true, true, true, true, true, true, true, true, true, true, true, true] rfl rfl (by kernel_rfl) (fun _ _ _ h => h) (Or.inl ⟨by rfl, ?_⟩) hHeld ?_ ?_
     rotate_left
     ·rintro w' ⟨s0, s1, s2⟩
      go_simp
      with_reducible rfl
     rotate_left
     ·simp only [Act.put, List.setIfInBounds_toArray, List.set_cons_zero, List.set_cons_succ, i64_w, i32_w]
      rfl
     refine doneF (by kernel_rfl) ?_
     have hgd : ∀ W' : World, W'.grownBy W'.drew none := fun W' => ⟨rfl, rfl, rfl, Nat.le_refl _, fun _ _ _ => rfl⟩
     have HGD := Aside0.mk hgd
     have BD := Aside0.mk (BB.out.grow EV.out (hgd wr))
     clear hgd
     replace b0 : wr.drew.cell? ⟨gx14, 0, none⟩ = some (.slice (some ad) (r.length + 1) c) := b0
     replace BRK : Aside0 (wr.drew.heap[gx14]? = some (.cells #[.slice (some ad) (r.length + 1) c] 22 (0, 0))) := ⟨BRK.out⟩
     replace e0 : wr.drew.cell? ad = some (.int .i64 y.f0) := e0
     replace e1 : wr.drew.cell? ⟨ad.block, ad.off + 1, none⟩ = some (.int .i64 y.f1) := e1
     replace e2 : wr.drew.cell? ⟨ad.block, ad.off + 2, none⟩ = some (.int .i64 y.f2) := e2
     replace e3 : wr.drew.cell? ⟨ad.block, ad.off + 3, none⟩ = some (.int .i64 y.f3) := e3
     generalize wr.drew = wd at BD b0 e0 e1 e2 e3 BRK ⊢
     obtain ⟨vo, hvo, hRo, hnb⟩ := BD.out.bo
     have b3 : wd.cell? ⟨gx13, 0, none⟩ = some vo := blk_cell' hvo 0 _ rfl
     have VO : Aside0 (wd.drew.heap[gx13]? = some (.cells #[vo] 22 (0, 0))) := ⟨hvo⟩
     have BDD := Aside0.mk (BD.out.grow EV.out (HGD.out wd))
     have RD := Aside0.mk (R_turn hRo (HGD.out wd) (by simp))
     have BRW : Aside0 (wd.drew.heap[gx14]? = some (.cells #[.slice (some ad) (r.length + 1) c] 22 (0, 0))) := ⟨BRK.out⟩
     have EE : Aside0 (wd.drew.cell? ad = some (.int .i64 y.f0) ∧ wd.drew.cell? ⟨ad.block, ad.off + 1, none⟩ = some (.int .i64 y.f1) ∧ wd.drew.cell? ⟨ad.block, ad.off + 2, none⟩ = some (.int .i64 y.f2) ∧ wd.drew.cell? ⟨ad.block, ad.off + 3, none⟩ = some (.int .i64 y.f3)) := ⟨e0, e1, e2, e3⟩
     clear hvo hRo hnb x0
     obtain ⟨A', c', hcut, hC', hc'⟩ := cut1 HC.out HCC.out
     have CUT := Aside0.mk (And.intro hC' hc')
     clear hC' hc'
     refine wpIn_cond_true rfl ?_
     refine wpIn_skip ?_
     refine wpIn_block ?_
     refine start2 (r := (some l)) (k := 10) (fun w' => w'.cell? ⟨gx13, 0, none⟩ = some vo) (fun w' => w'.cell? ⟨gx14, 0, none⟩ = some (.slice (some ad) (r.length + 1) c) ∧ w'.cell? ad = some (.int .i64 y.f0) ∧ w'.cell? ⟨ad.block, ad.off + 1, none⟩ = some (.int .i64 y.f1) ∧ w'.cell? ⟨ad.block, ad.off + 2, none⟩ = some (.int .i64 y.f2) ∧ w'.cell? ⟨ad.block, ad.off + 3, none⟩ = some (.int .i64 y.f3)) [8, 9] [9] #[false, false, false, false, false, false, false, false, false, false] (by decide) (by kernel_rfl) rfl rfl (b3) ⟨b0, e0, e1, e2, e3⟩ (fun hHeld hHeld2 => ?_)
     generalize wd.drew = we at hHeld hHeld2 VO RD BDD BRW EE ⊢
     refine takeA (i := 0) (N := some 70) (v := ?_) (a' := ?_) #[true, false, false, false, false, false, false, false, false, false] rfl rfl (by kernel_rfl) (fun _ _ _ h => h) (Or.inl ⟨by rfl, ?_⟩) hHeld ?_ ?_
     rotate_left
     ·intro w' s0
      go_simp
      with_reducible rfl
     rotate_left
     ·simp only [Act.put, List.setIfInBounds_toArray, List.set_cons_zero, List.set_cons_succ, i64_w, i32_w]
      rfl
     refine takeC (i := 1) (N := some 71) (v := ?_) (a' := ?_) #[true, true, false, false, false, false, false, false, false, false] rfl rfl (by kernel_rfl) (fun _ _ _ h => h) (Or.inl ⟨by rfl, ?_⟩) hHeld2 ?_ ?_
     rotate_left
     ·rintro w' ⟨s0, s1, s2, s3, s4⟩
      go_simp
      with_reducible rfl
     rotate_left
     ·simp only [Act.put, List.setIfInBounds_toArray, List.set_cons_zero, List.set_cons_succ, i64_w, i32_w]
      rfl
     refine takeC (i := 2) (N := some 72) (v := ?_) (a' := ?_) #[true, true, true, false, false, false, false, false, false, false] rfl rfl (by kernel_rfl) (fun _ _ _ h => h) (Or.inl ⟨by rfl, ?_⟩) hHeld2 ?_ ?_
     rotate_left
     ·rintro w' ⟨s0, s1, s2, s3, s4⟩
      go_simp
      with_reducible rfl
     rotate_left
     ·simp only [Act.put, List.setIfInBounds_toArray, List.set_cons_zero, List.set_cons_succ, i64_w, i32_w]
      rfl
     refine takeC (i := 3) (N := some 73) (v := ?_) (a' := ?_) #[true, true, true, true, false, false, false, false, false, false] rfl rfl (by kernel_rfl) (fun _ _ _ h => h) (Or.inl ⟨by rfl, ?_⟩) hHeld2 ?_ ?_
     rotate_left
     ·rintro w' ⟨s0, s1, s2, s3, s4⟩
      go_simp
      with_reducible rfl
     rotate_left
     ·simp only [Act.put, List.setIfInBounds_toArray, List.set_cons_zero, List.set_cons_succ, i64_w, i32_w]
      rfl
     refine takeC (i := 6) (N := some 76) (v := ?_) (a' := ?_) #[true, true, true, true, false, false, true, false, false, false] rfl rfl (by kernel_rfl) (fun _ _ _ h => h) (Or.inl ⟨by rfl, ?_⟩) hHeld2 ?_ ?_
     rotate_left
     ·rintro w' ⟨s0, s1, s2, s3, s4⟩
      go_simp
      with_reducible rfl
     rotate_left
     ·simp only [Act.put, List.setIfInBounds_toArray, List.set_cons_zero, List.set_cons_succ, i64_w, i32_w]
      rfl
     refine takeC (i := 7) (N := some 77) (v := ?_) (a' := ?_) #[true, true, true, true, false, false, true, true, false, false] rfl rfl (by kernel_rfl) (fun _ _ _ h => h) (Or.inl ⟨by rfl, ?_⟩) hHeld2 ?_ ?_
     rotate_left
     ·rintro w' ⟨s0, s1, s2, s3, s4⟩
      go_simp
      with_reducible rfl
     rotate_left
     ·simp only [Act.put, List.setIfInBounds_toArray, List.set_cons_zero, List.set_cons_succ, i64_w, i32_w]
      rfl
     refine oneP (i := 4) (N := some 74) #[true, true, true, true, true, false, true, true, false, false] rfl rfl (by kernel_rfl) (by rfl) (fun K hK => ?_)
     refine value_ (w1 := ?_) (v := ?_) (by rfl) rfl ?_ ?_
     rotate_left 2
     ·go_simp
      constructor
      ·rfl
      ·rfl
     refine hK _ _ (cell_grown hHeld (World.grownBy_alloc _ _ none) (by simp)) ⟨cell_grown hHeld2.1 (World.grownBy_alloc _ _ none) (by simp), cell_grown hHeld2.2.1 (World.grownBy_alloc _ _ none) (by simp), cell_grown hHeld2.2.2.1 (World.grownBy_alloc _ _ none) (by simp), cell_grown hHeld2.2.2.2.1 (World.grownBy_alloc _ _ none) (by simp), cell_grown hHeld2.2.2.2.2 (World.grownBy_alloc _ _ none) (by simp)⟩ (fun hHeld hHeld2 => ?_)
     clear hK K
     refine normF (a' := ?_) ?_ ?_
     rotate_left
     ·show Act.put _ (some 74) _ = _
      simp only [Act.put, List.setIfInBounds_toArray, List.set_cons_zero, List.set_cons_succ, i64_w, i32_w]
      rfl
     refine oneP (i := 5) (N := some 75) #[true, true, true, true, true, true, true, true, false, false] rfl rfl (by kernel_rfl) (by rfl) (fun K hK => ?_)
     refine Kd.R_append_step k35 (w0 := w) w.heap.size (by rfl) (.tmp 70) (.tmp 74) 22 35 (.agg #[(.int .i64 0), (.int .i64 0), (.int .i64 0), (.int .i64 0)]) 32 rfl Try.underlying22 info35 rfl (by decide) (by omega) vo o y [.int .i64 y.f0, .int .i64 y.f1, .int .i64 y.f2, .int .i64 y.f3] (fun _ => True) (fun _ => False) rfl rfl ?aP (fun _ hk => hk.elim) ?aF ?aO ?aB ?aS ?aL ?_
     case aP => exact k35_mkM _ _ _ y
     case aF => exact (fun _ _ => trivial)
     case aO => exact RD.out
     case aB => exact BDD.out.low
     case aS => exact BDD.out.low.size
     case aL => have := PP.out.2.2; simp only [List.length_cons] at this; omega
     intro v1 w5 ho hb hg hat
     obtain ⟨A1, c1, hv1⟩ := Kd.R_slice ho
     rw [show (o ++ [y]).length = o.length + 1 from by simp] at hv1
     subst hv1
     have HO5 := Aside0.mk ho
     have HG5 := Aside0.mk hg
     have HAT5 := Aside0.mk hat
     have NE5 : Aside0 (some ad.block ≠ vo.ownBlock) := ⟨fun e => by have h1 := (R_block RD.out _ e.symm).1; have h2 := World.block_lt_of_cell? w _ EW.out.1; omega⟩
     have bo5 : w5.cell? ⟨gx13, 0, none⟩ = some vo := cell_grown (blk_cell' VO.out 0 _ rfl : we.cell? ⟨gx13, 0, none⟩ = some vo) HG5.out (row_ne RD.out VO.out (by decide))
     have fo5 : w5.frozen? ⟨gx13, 0, none⟩ = false := (show Boxed w5 gx13 22 vo from (show Boxed we gx13 22 vo from VO.out).kept HG5.out (row_ne RD.out VO.out (by decide))).frozen
     clear ho hb hg hat
     refine hK _ _ (bo5) ⟨cell_grown (blk_cell' BRW.out 0 _ rfl : we.cell? ⟨gx14, 0, none⟩ = some (.slice (some ad) (r.length + 1) c)) HG5.out (row_ne RD.out BRW.out (by decide)), cell_grown EE.out.1 HG5.out NE5.out, cell_grown EE.out.2.1 HG5.out NE5.out, cell_grown EE.out.2.2.1 HG5.out NE5.out, cell_grown EE.out.2.2.2 HG5.out NE5.out⟩ (fun hHeld hHeld2 => ?_)
     clear hK K
     refine normF (a' := ?_) ?_ ?_
     rotate_left
     ·show Act.put _ (some 75) _ = _
      simp only [Act.put, List.setIfInBounds_toArray, List.set_cons_zero, List.set_cons_succ, i64_w, i32_w]
      rfl
     refine oneQ (i := 8) (N := none) #[true, true, true, true, true, true, true, true, true, false] rfl rfl (by kernel_rfl) (by rfl) (by decide) (fun K hK => ?_)
     refine skip_ (w1 := ?_) (by rfl) rfl ?_ ?_
     rotate_left
     ·go_simp
      rfl
     generalize hw6 : w5.setCell ⟨gx13, 0, none⟩ _ = w6
     have hf6 : ∀ k, k ≠ gx13 → w6.heap[k]? = w5.heap[k]? := fun k hk => by rw [← hw6]; exact Below.heap_setCell w5 ⟨gx13, 0, none⟩ _ k hk
     have B6 : Aside0 (BS w gx6 gx9 gx13 gx14 gx15 V.heap.size a1 a4 W (o ++ [y]) (y :: r) x w6) := ⟨by rw [← hw6]; exact BDD.out.app EV.out GS.out.1 GS.out.2.2 VO.out HO5.out HG5.out HAT5.out⟩
     have br6 : w6.heap[gx14]? = some (.cells #[.slice (some ad) (r.length + 1) c] 22 (0, 0)) := (hf6 _ (fun e => GS.out.2.2 e.symm)).trans ((HG5.out.block _ (blk_lt BRW.out) (row_ne RD.out BRW.out (by decide))).trans BRW.out)
     have b6 : w6.cell? ⟨gx14, 0, none⟩ = some (.slice (some ad) (r.length + 1) c) := blk_cell' br6 0 _ rfl
     have bf6 := blk_frozen br6 0
     have ae : ∀ {p : Addr} {u : Value}, w.cell? p = some u → w6.cell? p = some u := fun {p u} h => (B6.out.low.cell (World.block_lt_of_cell? w _ h)).trans h
     have E6 := Aside0.mk (And.intro (ae EW.out.1) (And.intro (ae EW.out.2.1) (And.intro (ae EW.out.2.2.1) (ae EW.out.2.2.2))))
     clear hw6 hf6 ae bo5 fo5 br6
     refine hK _ _ ⟨b6, E6.out.1, E6.out.2.1, E6.out.2.2.1, E6.out.2.2.2⟩ (fun hHeld2 => ?_)
     clear hK K
     refine oneR (i := 9) (N := none) #[true, true, true, true, true, true, true, true, true, true] rfl rfl (by kernel_rfl) (by rfl) (by decide) (by decide) (fun K hK => ?_)
     refine skip_ (w1 := ?_) (by rfl) rfl ?_ ?_
     rotate_left
     ·go_simp
      rfl
     generalize hw7 : w6.setCell ⟨gx14, 0, none⟩ _ = w7
     have B7 : Aside0 (BS w gx6 gx9 gx13 gx14 gx15 V.heap.size a1 a4 W (o ++ [y]) r x w7) := ⟨by rw [← hw7]; exact B6.out.setr EV.out GS.out.2.1 GS.out.2.2 CUT.out.1 CUT.out.2⟩
     clear hw7 b6 bf6
     refine hK _ _ ?_
     clear hK K
     refine doneF (by kernel_rfl) ?_
     clear hcut b0 e0 e1 e2 e3 b3
     show Exit.inBlock _ _ _ _ _
     simp only [Exit.inBlock, Exit.then]
     go_roundw
     case rel => exact ⟨o ++ [y], r, B7, ⟨by
      have h := PP.out
      refine ⟨?_, ?_, ?_⟩
      ·rw [← h.1, List.takeWhile_cons, if_pos (by simpa using hlt), List.append_assoc]; rfl
      ·rw [← h.2.1, List.dropWhile_cons, if_pos (by simpa using hlt)]
      ·have := h.2.2; simp only [List.length_append, List.length_cons, List.length_nil] at this ⊢; omega⟩⟩
     case measure =>
      obtain ⟨A7, c7, hb7, _, _⟩ := B7.out.br
      rw [restLen_at hb7, restLen_at BRK0.out]
      omega

    ·have hd := decide_eq_false hlt
     refine start2 (r := (some l)) (k := 12) (fun w' => w'.cell? ⟨gx14, 0, none⟩ = some (.slice (some ad) (r.length + 1) c) ∧ w'.cell? ad = some (.int .i64 y.f0) ∧ w'.cell? ⟨gx15, 0, none⟩ = some (.int .i64 x.f0)) (fun w' => True) [] [] #[false, false, false, false, false, false, false, false, false, false, false, false] (by decide) (by kernel_rfl) rfl rfl ⟨b0, e0, x0⟩ trivial (fun hHeld hHeld2 => ?_)
     refine takeA (i := 0) (N := some 58) (v := ?_) (a' := ?_) #[true, false, false, false, false, false, false, false, false, false, false, false] rfl rfl (by kernel_rfl) (fun _ _ _ h => h) (Or.inl ⟨by rfl, ?_⟩) hHeld ?_ ?_
     rotate_left
     ·rintro w' ⟨s0, s1, s2⟩
      go_simp
      with_reducible rfl
     rotate_left
     ·simp only [Act.put, List.setIfInBounds_toArray, List.set_cons_zero, List.set_cons_succ, i64_w, i32_w]
      rfl
     refine takeA (i := 1) (N := some 59) (v := ?_) (a' := ?_) #[true, true, false, false, false, false, false, false, false, false, false, false] rfl rfl (by kernel_rfl) (fun _ _ _ h => h) (Or.inl ⟨by rfl, ?_⟩) hHeld ?_ ?_
     rotate_left
     ·rintro w' ⟨s0, s1, s2⟩
      go_simp
      with_reducible rfl
     rotate_left
     ·simp only [Act.put, List.setIfInBounds_toArray, List.set_cons_zero, List.set_cons_succ, i64_w, i32_w]
      rfl
     refine takeA (i := 2) (N := some 60) (v := ?_) (a' := ?_) #[true, true, true, false, false, false, false, false, false, false, false, false] rfl rfl (by kernel_rfl) (fun _ _ _ h => h) (Or.inl ⟨by rfl, ?_⟩) hHeld ?_ ?_
     rotate_left
     ·rintro w' ⟨s0, s1, s2⟩
      go_simp
      with_reducible rfl
     rotate_left
     ·simp only [Act.put, List.setIfInBounds_toArray, List.set_cons_zero, List.set_cons_succ, i64_w, i32_w]
      rfl
     refine takeA (i := 3) (N := some 61) (v := ?_) (a' := ?_) #[true, true, true, true, false, false, false, false, false, false, false, false] rfl rfl (by kernel_rfl) (fun _ _ _ h => h) (Or.inl ⟨by rfl, ?_⟩) hHeld ?_ ?_
     rotate_left
     ·rintro w' ⟨s0, s1, s2⟩
      go_simp
      with_reducible rfl
     rotate_left
     ·simp only [Act.put, List.setIfInBounds_toArray, List.set_cons_zero, List.set_cons_succ, i64_w, i32_w]
      rfl
     refine takeA (i := 4) (N := some 62) (v := ?_) (a' := ?_) #[true, true, true, true, true, false, false, false, false, false, false, false] rfl rfl (by kernel_rfl) (fun _ _ _ h => h) (Or.inl ⟨by rfl, ?_⟩) hHeld ?_ ?_
     rotate_left
     ·rintro w' ⟨s0, s1, s2⟩
      go_simp
      with_reducible rfl
     rotate_left
     ·simp only [Act.put, List.setIfInBounds_toArray, List.set_cons_zero, List.set_cons_succ, i64_w, i32_w]
      rfl
     refine takeA (i := 5) (N := some 63) (v := ?_) (a' := ?_) #[true, true, true, true, true, true, false, false, false, false, false, false] rfl rfl (by kernel_rfl) (fun _ _ _ h => h) (Or.inl ⟨by rfl, ?_⟩) hHeld ?_ ?_
     rotate_left
     ·rintro w' ⟨s0, s1, s2⟩
      go_simp
      with_reducible rfl
     rotate_left
     ·simp only [Act.put, List.setIfInBounds_toArray, List.set_cons_zero, List.set_cons_succ, i64_w, i32_w]
      rfl
     refine takeA (i := 6) (N := some 64) (v := ?_) (a' := ?_) #[true, true, true, true, true, true, true, false, false, false, false, false] rfl rfl (by kernel_rfl) (fun _ _ _ h => h) (Or.inl ⟨by rfl, ?_⟩) hHeld ?_ ?_
     rotate_left
     ·rintro w' ⟨s0, s1, s2⟩
      go_simp
      with_reducible rfl
     rotate_left
     ·simp only [Act.put, List.setIfInBounds_toArray, List.set_cons_zero, List.set_cons_succ, i64_w, i32_w]
      rfl
     refine takeA (i := 7) (N := some 65) (v := ?_) (a' := ?_) #[true, true, true, true, true, true, true, true, false, false, false, false] rfl rfl (by kernel_rfl) (fun _ _ _ h => h) (Or.inl ⟨by rfl, ?_⟩) hHeld ?_ ?_
     rotate_left
     ·rintro w' ⟨s0, s1, s2⟩
      go_simp
      with_reducible rfl
     rotate_left
     ·simp only [Act.put, List.setIfInBounds_toArray, List.set_cons_zero, List.set_cons_succ, i64_w, i32_w]
      rfl
     refine takeA (i := 8) (N := some 66) (v := ?_) (a' := ?_) #[true, true, true, true, true, true, true, true, true, false, false, false] rfl rfl (by kernel_rfl) (fun _ _ _ h => h) (Or.inl ⟨by rfl, ?_⟩) hHeld ?_ ?_
     rotate_left
     ·rintro w' ⟨s0, s1, s2⟩
      go_simp
      with_reducible rfl
     rotate_left
     ·simp only [Act.put, List.setIfInBounds_toArray, List.set_cons_zero, List.set_cons_succ, i64_w, i32_w]
      rfl
     refine takeA (i := 9) (N := some 67) (v := ?_) (a' := ?_) #[true, true, true, true, true, true, true, true, true, true, false, false] rfl rfl (by kernel_rfl) (fun _ _ _ h => h) (Or.inl ⟨by rfl, ?_⟩) hHeld ?_ ?_
     rotate_left
     ·rintro w' ⟨s0, s1, s2⟩
      go_simp
      with_reducible rfl
     rotate_left
     ·simp only [Act.put, List.setIfInBounds_toArray, List.set_cons_zero, List.set_cons_succ, i64_w, i32_w]
      rfl
     refine takeA (i := 10) (N := some 68) (v := ?_) (a' := ?_) #[true, true, true, true, true, true, true, true, true, true, true, false] rfl rfl (by kernel_rfl) (fun _ _ _ h => h) (Or.inl ⟨by rfl, ?_⟩) hHeld ?_ ?_
     rotate_left
     ·rintro w' ⟨s0, s1, s2⟩
      go_simp
      with_reducible rfl
     rotate_left
     ·simp only [Act.put, List.setIfInBounds_toArray, List.set_cons_zero, List.set_cons_succ, i64_w, i32_w]
      rfl
     refine takeA (i := 11) (N := some 69) (v := ?_) (a' := ?_) #[true, true, true, true, true, true, true, true, true, true, true, true] rfl rfl (by kernel_rfl) (fun _ _ _ h => h) (Or.inl ⟨by rfl, ?_⟩) hHeld ?_ ?_
     rotate_left
     ·rintro w' ⟨s0, s1, s2⟩
      go_simp
      with_reducible rfl
     rotate_left
     ·simp only [Act.put, List.setIfInBounds_toArray, List.set_cons_zero, List.set_cons_succ, i64_w, i32_w]
      rfl
     refine doneF (by kernel_rfl) ?_
     have HLT := Aside0.mk (Int.not_lt.mp hlt)
     clear hlt b0 e0 e1 e2 e3 x0 hd EW BRK BRK0 HC HCC hpos
     have hgd : ∀ W' : World, W'.grownBy W'.drew none := fun W' => ⟨rfl, rfl, rfl, Nat.le_refl _, fun _ _ _ => rfl⟩
     have BD := Aside0.mk (BB.out.grow EV.out (hgd wr))
     generalize wr.drew = wd at BD ⊢
     have BDD := Aside0.mk (BD.out.grow EV.out (hgd wd))
     clear hgd
     refine wpIn_cond_false rfl ?_
     refine wpIn_exit ?_
     show Code.wpIn _ _ _ _ _ _ _
     have c6 : wd.cell? ⟨gx6, 0, none⟩ = some (.int .i64 a1) := blk_cell' BD.out.bc 0 _ rfl
     have c9 : wd.cell? ⟨gx9, 0, none⟩ = some (.int .i64 a4) := blk_cell' BD.out.bf 0 _ rfl
     refine wpIn_seq ?_
     refine start2 (r := (some l)) (k := 7) (fun w' => w'.cell? ⟨gx6, 0, none⟩ = some (.int .i64 a1) ∧ w'.cell? ⟨gx9, 0, none⟩ = some (.int .i64 a4)) (fun w' => True) [6] [6] #[false, false, false, false, false, false, false] (by decide) (by kernel_rfl) rfl rfl ⟨c6, c9⟩ trivial (fun hHeld hHeld2 => ?_)
     generalize wd.drew = we at hHeld hHeld2 BDD ⊢
     have z1 : we.cell? ⟨gx15, 1, none⟩ = some (.int .i64 x.f1) := blk_cell' BDD.out.bd 1 _ rfl
     have fz1 := blk_frozen BDD.out.bd 1
     refine takeA (i := 0) (N := some 78) (v := ?_) (a' := ?_) #[true, false, false, false, false, false, false] rfl rfl (by kernel_rfl) (fun _ _ _ h => h) (Or.inl ⟨by rfl, ?_⟩) hHeld ?_ ?_
     rotate_left
     ·rintro w' ⟨s0, s1⟩
      go_simp
      with_reducible rfl
     rotate_left
     ·simp only [Act.put, List.setIfInBounds_toArray, List.set_cons_zero, List.set_cons_succ, i64_w, i32_w]
      rfl
     refine takeA (i := 1) (N := some 79) (v := ?_) (a' := ?_) #[true, true, false, false, false, false, false] rfl rfl (by kernel_rfl) (fun _ _ _ h => h) (Or.inl ⟨by rfl, ?_⟩) hHeld ?_ ?_
     rotate_left
     ·rintro w' ⟨s0, s1⟩
      go_simp
      with_reducible rfl
     rotate_left
     ·simp only [Act.put, List.setIfInBounds_toArray, List.set_cons_zero, List.set_cons_succ, i64_w, i32_w]
      rfl
     refine takeA (i := 2) (N := some 80) (v := ?_) (a' := ?_) #[true, true, true, false, false, false, false] rfl rfl (by kernel_rfl) (fun _ _ _ h => h) (Or.inl ⟨by rfl, ?_⟩) hHeld ?_ ?_
     rotate_left
     ·rintro w' ⟨s0, s1⟩
      go_simp
      with_reducible rfl
     rotate_left
     ·simp only [Act.put, List.setIfInBounds_toArray, List.set_cons_zero, List.set_cons_succ, i64_w, i32_w]
      rfl
     refine takeA (i := 3) (N := some 81) (v := ?_) (a' := ?_) #[true, true, true, true, false, false, false] rfl rfl (by kernel_rfl) (fun _ _ _ h => h) (Or.inl ⟨by rfl, ?_⟩) hHeld ?_ ?_
     rotate_left
     ·rintro w' ⟨s0, s1⟩
      go_simp
      with_reducible rfl
     rotate_left
     ·simp only [Act.put, List.setIfInBounds_toArray, List.set_cons_zero, List.set_cons_succ, i64_w, i32_w]
      rfl
     refine oneP (i := 4) (N := none) #[true, true, true, true, true, false, false] rfl rfl (by kernel_rfl) (by rfl) (fun K hK => ?_)
     refine skip_ (w1 := ?_) (by rfl) rfl ?_ ?_
     rotate_left
     ·go_simp
      rfl
     generalize hw11 : we.setCell ⟨gx15, 1, none⟩ _ = w11
     have B11 : Aside0 (BS w gx6 gx9 gx13 gx14 gx15 V.heap.size a1 a4 W o (y :: r) ⟨x.f0, a1, x.f2, x.f3⟩ w11) := ⟨by rw [← hw11]; exact BDD.out.setd EV.out E15.out (Nat.le_trans E0.out E15.out) 1 _ (box4_1 BDD.out.bd)⟩
     have z3 : w11.cell? ⟨gx15, 3, none⟩ = some (.int .i64 x.f3) := blk_cell' B11.out.bd 3 _ rfl
     have fz3 := blk_frozen B11.out.bd 3
     have k6 : w11.cell? ⟨gx6, 0, none⟩ = some (.int .i64 a1) := blk_cell' B11.out.bc 0 _ rfl
     have k9 : w11.cell? ⟨gx9, 0, none⟩ = some (.int .i64 a4) := blk_cell' B11.out.bf 0 _ rfl
     clear hw11 z1 fz1
     refine hK _ _ ⟨k6, k9⟩ trivial (fun hHeld hHeld2 => ?_)
     clear hK K
     refine takeA (i := 5) (N := some 82) (v := ?_) (a' := ?_) #[true, true, true, true, true, true, false] rfl rfl (by kernel_rfl) (fun _ _ _ h => h) (Or.inl ⟨by rfl, ?_⟩) hHeld ?_ ?_
     rotate_left
     ·rintro w' ⟨s0, s1⟩
      go_simp
      with_reducible rfl
     rotate_left
     ·simp only [Act.put, List.setIfInBounds_toArray, List.set_cons_zero, List.set_cons_succ, i64_w, i32_w]
      rfl
     refine oneR (i := 6) (N := none) #[true, true, true, true, true, true, true] rfl rfl (by kernel_rfl) (by rfl) (by decide) (by decide) (fun K hK => ?_)
     refine skip_ (w1 := ?_) (by rfl) rfl ?_ ?_
     rotate_left
     ·go_simp
      rfl
     generalize hw12 : w11.setCell ⟨gx15, 3, none⟩ _ = w12
     have B12 : Aside0 (BS w gx6 gx9 gx13 gx14 gx15 V.heap.size a1 a4 W o (y :: r) ⟨x.f0, a1, x.f2, wrap64 (a4 + 3)⟩ w12) := ⟨by rw [← hw12]; exact B11.out.setd EV.out E15.out (Nat.le_trans E0.out E15.out) 3 _ (box4_3 B11.out.bd)⟩
     clear hw12 z3 fz3 k6 k9
     refine hK _ _ ?_
     clear hK K
     refine doneF (by kernel_rfl) ?_
     clear c6 c9
     show Code.wpIn _ _ _ _ _ _ _
     refine wpIn_seq ?_
     refine wpIn_seq ?_
     obtain ⟨A, c, hbr, hC, hc⟩ := B12.out.br
     obtain ⟨ad, hA, h0, h1, h2, h3⟩ := at_T35 hC 0 (by omega) (by simp)
     subst hA
     have he : ad.add (Int.toNat 0 * 4) = ad := by cases ad; simp [Addr.add]
     rw [he] at h0 h1 h2 h3
     have hy : rd_T35 (y :: r) 0 = y := rfl
     rw [hy] at h0 h1 h2 h3
     clear he hy
     have bl : ∀ {p : Addr} {v : Value}, w.cell? p = some v → w12.cell? p = some v := fun {p v} h => (B12.out.low.cell (World.block_lt_of_cell? w _ h)).trans h
     have b0 : w12.cell? ⟨gx14, 0, none⟩ = some (.slice (some ad) (r.length + 1) c) := blk_cell' hbr 0 _ rfl
     have x0 : w12.cell? ⟨gx15, 0, none⟩ = some (.int .i64 x.f0) := blk_cell' B12.out.bd 0 _ rfl
     have e0 : w12.cell? ad = some (.int .i64 y.f0) := bl h0
     have e1 : w12.cell? ⟨ad.block, ad.off + 1, none⟩ = some (.int .i64 y.f1) := bl h1
     have e2 : w12.cell? ⟨ad.block, ad.off + 2, none⟩ = some (.int .i64 y.f2) := bl h2
     have e3 : w12.cell? ⟨ad.block, ad.off + 3, none⟩ = some (.int .i64 y.f3) := bl h3
     have BR12 : Aside0 (w12.heap[gx14]? = some (.cells #[.slice (some ad) (r.length + 1) c] 22 (0, 0))) := ⟨hbr⟩
     have HC := Aside0.mk hC
     have HCC := Aside0.mk hc
     clear bl h0 h1 h2 h3 hbr hC hc
     have hpos : decide (0 < (r.length : Int) + 1) = true := decide_eq_true (by omega)
     by_cases heq : y.f0 = x.f0
     ·have hq : (y.f0 == x.f0) = true := beq_iff_eq.mpr heq
      have HEQ := Aside0.mk heq
      clear heq
      refine start2 (r := (some l)) (k := 12) (fun w' => w'.cell? ⟨gx14, 0, none⟩ = some (.slice (some ad) (r.length + 1) c) ∧ w'.cell? ad = some (.int .i64 y.f0) ∧ w'.cell? ⟨gx15, 0, none⟩ = some (.int .i64 x.f0)) (fun w' => True) [] [] #[false, false, false, false, false, false, false, false, false, false, false, false] (by decide) (by kernel_rfl) rfl rfl ⟨b0, e0, x0⟩ trivial (fun hHeld hHeld2 => ?_)
      refine takeA (i := 0) (N := some 83) (v := ?_) (a' := ?_) #[true, false, false, false, false, false, false, false, false, false, false, false] rfl rfl (by kernel_rfl) (fun _ _ _ h => h) (Or.inl ⟨by rfl, ?_⟩) hHeld ?_ ?_
      rotate_left
      ·rintro w' ⟨s0, s1, s2⟩
       go_simp
       with_reducible rfl
      rotate_left
      ·simp only [Act.put, List.setIfInBounds_toArray, List.set_cons_zero, List.set_cons_succ, i64_w, i32_w]
       rfl
      refine takeA (i := 1) (N := some 84) (v := ?_) (a' := ?_) #[true, true, false, false, false, false, false, false, false, false, false, false] rfl rfl (by kernel_rfl) (fun _ _ _ h => h) (Or.inl ⟨by rfl, ?_⟩) hHeld ?_ ?_
      rotate_left
      ·rintro w' ⟨s0, s1, s2⟩
       go_simp
       with_reducible rfl
      rotate_left
      ·simp only [Act.put, List.setIfInBounds_toArray, List.set_cons_zero, List.set_cons_succ, i64_w, i32_w]
       rfl
      refine takeA (i := 2) (N := some 85) (v := ?_) (a' := ?_) #[true, true, true, false, false, false, false, false, false, false, false, false] rfl rfl (by kernel_rfl) (fun _ _ _ h => h) (Or.inl ⟨by rfl, ?_⟩) hHeld ?_ ?_
      rotate_left
      ·rintro w' ⟨s0, s1, s2⟩
       go_simp
       with_reducible rfl
      rotate_left
      ·simp only [Act.put, List.setIfInBounds_toArray, List.set_cons_zero, List.set_cons_succ, i64_w, i32_w]
       rfl
      refine takeA (i := 3) (N := some 86) (v := ?_) (a' := ?_) #[true, true, true, true, false, false, false, false, false, false, false, false] rfl rfl (by kernel_rfl) (fun _ _ _ h => h) (Or.inl ⟨by rfl, ?_⟩) hHeld ?_ ?_
      rotate_left
      ·rintro w' ⟨s0, s1, s2⟩
       go_simp
       with_reducible rfl
      rotate_left
      ·simp only [Act.put, List.setIfInBounds_toArray, List.set_cons_zero, List.set_cons_succ, i64_w, i32_w]
       rfl
      refine takeA (i := 4) (N := some 87) (v := ?_) (a' := ?_) #[true, true, true, true, true, false, false, false, false, false, false, false] rfl rfl (by kernel_rfl) (fun _ _ _ h => h) (Or.inl ⟨by rfl, ?_⟩) hHeld ?_ ?_
      rotate_left
      ·rintro w' ⟨s0, s1, s2⟩
       go_simp
       with_reducible rfl
      rotate_left
      ·simp only [Act.put, List.setIfInBounds_toArray, List.set_cons_zero, List.set_cons_succ, i64_w, i32_w]
       rfl
      refine takeA (i := 5) (N := some 88) (v := ?_) (a' := ?_) #[true, true, true, true, true, true, false, false, false, false, false, false] rfl rfl (by kernel_rfl) (fun _ _ _ h => h) (Or.inl ⟨by rfl, ?_⟩) hHeld ?_ ?_
      rotate_left
      ·rintro w' ⟨s0, s1, s2⟩
       go_simp
       with_reducible rfl
      rotate_left
      ·simp only [Act.put, List.setIfInBounds_toArray, List.set_cons_zero, List.set_cons_succ, i64_w, i32_w]
       rfl
      refine takeA (i := 6) (N := some 89) (v := ?_) (a' := ?_) #[true, true, true, true, true, true, true, false, false, false, false, false] rfl rfl (by kernel_rfl) (fun _ _ _ h => h) (Or.inl ⟨by rfl, ?_⟩) hHeld ?_ ?_
      rotate_left
      ·rintro w' ⟨s0, s1, s2⟩
       go_simp
       with_reducible rfl
      rotate_left
      ·simp only [Act.put, List.setIfInBounds_toArray, List.set_cons_zero, List.set_cons_succ, i64_w, i32_w]
       rfl
      refine takeA (i := 7) (N := some 90) (v := ?_) (a' := ?_) #[true, true, true, true, true, true, true, true, false, false, false, false] rfl rfl (by kernel_rfl) (fun _ _ _ h => h) (Or.inl ⟨by rfl, ?_⟩) hHeld ?_ ?_
      rotate_left
      ·rintro w' ⟨s0, s1, s2⟩
       go_simp
       with_reducible rfl
      rotate_left
      ·simp only [Act.put, List.setIfInBounds_toArray, List.set_cons_zero, List.set_cons_succ, i64_w, i32_w]
       rfl
      refine takeA (i := 8) (N := some 91) (v := ?_) (a' := ?_) #[true, true, true, true, true, true, true, true, true, false, false, false] rfl rfl (by kernel_rfl) (fun _ _ _ h => h) (Or.inl ⟨by rfl, ?_⟩) hHeld ?_ ?_
      rotate_left
      ·rintro w' ⟨s0, s1, s2⟩
       go_simp
       with_reducible rfl
      rotate_left
      ·simp only [Act.put, List.setIfInBounds_toArray, List.set_cons_zero, List.set_cons_succ, i64_w, i32_w]
       rfl
      refine takeA (i := 9) (N := some 92) (v := ?_) (a' := ?_) #[true, true, true, true, true, true, true, true, true, true, false, false] rfl rfl (by kernel_rfl) (fun _ _ _ h => h) (Or.inl ⟨by rfl, ?_⟩) hHeld ?_ ?_
      rotate_left
      ·rintro w' ⟨s0, s1, s2⟩
       go_simp
       with_reducible rfl
      rotate_left
      ·simp only [Act.put, List.setIfInBounds_toArray, List.set_cons_zero, List.set_cons_succ, i64_w, i32_w]
       rfl
      refine takeA (i := 10) (N := some 93) (v := ?_) (a' := ?_) #[true, true, true, true, true, true, true, true, true, true, true, false] rfl rfl (by kernel_rfl) (fun _ _ _ h => h) (Or.inl ⟨by rfl, ?_⟩) hHeld ?_ ?_
      rotate_left
      ·rintro w' ⟨s0, s1, s2⟩
       go_simp
       with_reducible rfl
      rotate_left
      ·simp only [Act.put, List.setIfInBounds_toArray, List.set_cons_zero, List.set_cons_succ, i64_w, i32_w]
       rfl
      refine takeA (i := 11) (N := some 94) (v := ?_) (a' := ?_) #[true, true, true, true, true, true, true, true, true, true, true, true] rfl rfl (by kernel_rfl) (fun _ _ _ h => h) (Or.inl ⟨by rfl, ?_⟩) hHeld ?_ ?_
      rotate_left
      ·rintro w' ⟨s0, s1, s2⟩
       go_simp
       with_reducible rfl
      rotate_left
      ·simp only [Act.put, List.setIfInBounds_toArray, List.set_cons_zero, List.set_cons_succ, i64_w, i32_w]
       rfl
      refine doneF (by kernel_rfl) ?_
      clear x0 hpos hq
      refine wpIn_cond_true rfl ?_
      have hgd : w12.grownBy w12.drew none := ⟨rfl, rfl, rfl, Nat.le_refl _, fun _ _ _ => rfl⟩
      have B13 := Aside0.mk (B12.out.grow EV.out hgd)
      clear hgd
      replace b0 : w12.drew.cell? ⟨gx14, 0, none⟩ = some (.slice (some ad) (r.length + 1) c) := b0
      replace BR12 : Aside0 (w12.drew.heap[gx14]? = some (.cells #[.slice (some ad) (r.length + 1) c] 22 (0, 0))) := ⟨BR12.out⟩
      replace e0 : w12.drew.cell? ad = some (.int .i64 y.f0) := e0
      replace e1 : w12.drew.cell? ⟨ad.block, ad.off + 1, none⟩ = some (.int .i64 y.f1) := e1
      replace e2 : w12.drew.cell? ⟨ad.block, ad.off + 2, none⟩ = some (.int .i64 y.f2) := e2
      replace e3 : w12.drew.cell? ⟨ad.block, ad.off + 3, none⟩ = some (.int .i64 y.f3) := e3
      generalize w12.drew = w13 at B13 b0 e0 e1 e2 e3 BR12 ⊢
      obtain ⟨A', c', hcut, hC', hc'⟩ := cut1 HC.out HCC.out
      have CUT := Aside0.mk (And.intro hC' hc')
      clear hC' hc'
      refine wpIn_seq ?_
      refine region_fence (r := some l) (by rintro ⟨a, w, h⟩; exact h) (by decide) ?_
      go_wp2_with ((with_reducible refine gate_dst (N := 16) rfl ?_); refine box_event ?hg (N := 16) ?hd (cs := #[.int .i64 0, .int .i64 0, .int .i64 0, .int .i64 0]) (t := 35) ?hr ?_; (case hd => rfl); (case hg => rfl); (case hr => first | (go_simp; done) | (go_simp; rfl)); intro gx hgx w3 hbox hb3; have BX := Aside0.mk hbox; have HB3 := Aside0.mk hb3; have GX := Aside0.mk hgx; have s0 : w3.cell? ⟨gx, 0, none⟩ = some (.int .i64 0) := blk_cell' BX.out 0 _ rfl; have s1 : w3.cell? ⟨gx, 1, none⟩ = some (.int .i64 0) := blk_cell' BX.out 1 _ rfl; have s2 : w3.cell? ⟨gx, 2, none⟩ = some (.int .i64 0) := blk_cell' BX.out 2 _ rfl; have s3 : w3.cell? ⟨gx, 3, none⟩ = some (.int .i64 0) := blk_cell' BX.out 3 _ rfl; have f0 := blk_frozen BX.out 0; have f1 := blk_frozen BX.out 1; have f2 := blk_frozen BX.out 2; have f3 := blk_frozen BX.out 3; clear hb3 hbox hgx)
      generalize hw1 : (((w3.setCell ⟨gx, 0, none⟩ _).setCell ⟨gx, 1, none⟩ _).setCell ⟨gx, 2, none⟩ _).setCell ⟨gx, 3, none⟩ _ = w14
      obtain ⟨hx, hgr, hl2⟩ := box35_set GX.out HB3.out BX.out y hw1
      have B14 := Aside0.mk (B13.out.grow EV.out hgr)
      have XO := Aside0.mk hx
      have br14 : w14.heap[gx14]? = some (.cells #[.slice (some ad) (r.length + 1) c] 22 (0, 0)) := (hgr.block _ (blk_lt BR12.out) (by simp)).trans BR12.out
      have b4 : w14.cell? ⟨gx14, 0, none⟩ = some (.slice (some ad) (r.length + 1) c) := blk_cell' br14 0 _ rfl
      have bf4 := blk_frozen br14 0
      have NE14 : Aside0 (gx ≠ gx14) := ⟨blk_ne hx br14 (by decide)⟩
      clear hw1 hx hgr hl2 br14 s0 s1 s2 s3 f0 f1 f2 f3 BX HB3 GX b0 e0 e1 e2 e3 BR12
      refine wpIn_seq ?_
      refine region_fence (r := some l) (by rintro ⟨a, w, h⟩; exact h) (by decide) ?_
      go_wp2
      generalize hw15 : w14.setCell ⟨gx14, 0, none⟩ _ = w15
      have B15 : Aside0 (BS w gx6 gx9 gx13 gx14 gx15 V.heap.size a1 a4 W o r ⟨x.f0, a1, x.f2, wrap64 (a4 + 3)⟩ w15) := ⟨by rw [← hw15]; exact B14.out.setr EV.out GS.out.2.1 GS.out.2.2 CUT.out.1 CUT.out.2⟩
      have XO15 : Aside0 (w15.heap[gx]? = some (.cells #[.int .i64 y.f0, .int .i64 y.f1, .int .i64 y.f2, .int .i64 y.f3] 35 (0, 0))) := ⟨by rw [← hw15]; exact (Below.heap_setCell w14 ⟨gx14, 0, none⟩ _ gx NE14.out).trans XO.out⟩
      clear hw15 b4 bf4 hcut HC HCC CUT XO NE14
      have u1 : w15.cell? ⟨gx, 1, none⟩ = some (.int .i64 y.f1) := blk_cell' XO15.out 1 _ rfl
      have u2 : w15.cell? ⟨gx, 2, none⟩ = some (.int .i64 y.f2) := blk_cell' XO15.out 2 _ rfl
      have k6 : w15.cell? ⟨gx6, 0, none⟩ = some (.int .i64 a1) := blk_cell' B15.out.bc 0 _ rfl
      have z2 : w15.cell? ⟨gx15, 2, none⟩ = some (.int .i64 x.f2) := blk_cell' B15.out.bd 2 _ rfl
      by_cases hn1 : y.f1 = a1
      ·have hn2 : (y.f1 != a1) = false := by simp [hn1]
       have HN1 := Aside0.mk hn1
       clear hn1
       refine wpIn_seq ?_
       refine region_fence (r := some l) (by rintro ⟨a, w, h⟩; exact h) (by decide) ?_
       go_wp2
       clear u1 u2 k6 z2

       clear hn2
       refine wpIn_cond_false rfl ?_
       refine wpIn_skip ?_
       show Code.wpIn _ _ _ _ _ _ _
       obtain ⟨vo, hvo, hRo, hnb⟩ := B15.out.bo
       have VO := Aside0.mk hvo
       have RO := Aside0.mk hRo
       have b3 : w15.cell? ⟨gx13, 0, none⟩ = some vo := blk_cell' hvo 0 _ rfl
       clear hvo hRo hnb
       have z0 : w15.cell? ⟨gx15, 0, none⟩ = some (.int .i64 x.f0) := blk_cell' B15.out.bd 0 _ rfl
       have z1 : w15.cell? ⟨gx15, 1, none⟩ = some (.int .i64 a1) := blk_cell' B15.out.bd 1 _ rfl
       have z2 : w15.cell? ⟨gx15, 2, none⟩ = some (.int .i64 x.f2) := blk_cell' B15.out.bd 2 _ rfl
       have z3 : w15.cell? ⟨gx15, 3, none⟩ = some (.int .i64 (wrap64 (a4 + 3))) := blk_cell' B15.out.bd 3 _ rfl
       refine region_fence (r := some l) (by rintro ⟨a, w, h⟩; exact h) (by decide) ?_
       go_wp2_with ((with_reducible refine gate_builtin (b := .append) (xs := #[.tmp 115, .tmp 117]) rfl ?_); at_builtin; refine Kd.R_append k35 (w0 := w) w.heap.size rfl (.tmp 115) (.tmp 117) 22 35 (.agg #[(.int .i64 0), (.int .i64 0), (.int .i64 0), (.int .i64 0)]) 32 rfl Try.underlying22 info35 rfl (by decide) (by omega) vo o (⟨x.f0, a1, x.f2, wrap64 (a4 + 3)⟩ : S35) [.int .i64 x.f0, .int .i64 a1, .int .i64 x.f2, .int .i64 (wrap64 (a4 + 3))] (fun _ => True) (fun _ => False) rfl rfl ?aP (fun _ hk => hk.elim) ?aF ?aO ?aB ?aS ?aL ?_; (case aP => exact k35_mkM _ _ _ _); (case aB => exact B15.out.low); (case aF => exact (fun _ _ => trivial)); (case aO => exact RO.out); (case aS => exact B15.out.low.size); (case aL => have := PP.out.2.2; omega); intro v1 w19 ho hb hg hat; obtain ⟨A1, c1, hv1⟩ := Kd.R_slice ho; rw [show (o ++ [(⟨x.f0, a1, x.f2, wrap64 (a4 + 3)⟩ : S35)]).length = o.length + 1 from by simp] at hv1; subst hv1; have HO5 := Aside0.mk ho; have HG5 := Aside0.mk hg; have HAT5 := Aside0.mk hat; have bo5 : w19.cell? ⟨gx13, 0, none⟩ = some vo := cell_grown (blk_cell' VO.out 0 _ rfl : w15.cell? ⟨gx13, 0, none⟩ = some vo) HG5.out (row_ne RO.out VO.out (by decide)); have fo5 : w19.frozen? ⟨gx13, 0, none⟩ = false := (show Boxed w19 gx13 22 vo from (show Boxed w15 gx13 22 vo from VO.out).kept HG5.out (row_ne RO.out VO.out (by decide))).frozen; clear ho hb hg hat)
       generalize hw20 : w19.setCell ⟨gx13, 0, none⟩ _ = w20
       have B20 : Aside0 (BS w gx6 gx9 gx13 gx14 gx15 V.heap.size a1 a4 W (o ++ [(⟨x.f0, a1, x.f2, wrap64 (a4 + 3)⟩ : S35)]) r ⟨x.f0, a1, x.f2, wrap64 (a4 + 3)⟩ w20) := ⟨by rw [← hw20]; exact B15.out.app EV.out GS.out.1 GS.out.2.2 VO.out HO5.out HG5.out HAT5.out⟩
       clear hw20 bo5 fo5
       exact ⟨B20.out.kx.keepsFrom, KQ.out.then B20.out.kx, by
        show LI w gx6 gx9 gx13 gx14 a1 a4 (lst a1 (wrap64 (a4 + 3)) l0 (pre ++ [x])) w20
        rw [HS.out, stepL_cons HLT.out PP.out.1 PP.out.2.1, if_pos HEQ.out, if_neg (fun h => h.1 HN1.out)]
        exact B20.out.li⟩
      ·have hn2 : (y.f1 != a1) = true := bne_iff_ne.mpr hn1
       have HN1 := Aside0.mk hn1
       clear hn1
       by_cases hge : y.f2 ≥ x.f2
       ·have hg2 := decide_eq_true hge
        have HG2 := Aside0.mk hge
        clear hge
        refine wpIn_seq ?_
        refine region_fence (r := some l) (by rintro ⟨a, w, h⟩; exact h) (by decide) ?_
        go_wp2
        clear u1 u2 k6 z2

        clear hn2 hg2
        refine wpIn_cond_true rfl ?_
        refine wpIn_seq ?_
        obtain ⟨vo, hvo, hRo, hnb⟩ := B15.out.bo
        have VO := Aside0.mk hvo
        have RO := Aside0.mk hRo
        have b3 : w15.cell? ⟨gx13, 0, none⟩ = some vo := blk_cell' hvo 0 _ rfl
        clear hvo hRo hnb
        have u0 : w15.cell? ⟨gx, 0, none⟩ = some (.int .i64 y.f0) := blk_cell' XO15.out 0 _ rfl
        have u1 : w15.cell? ⟨gx, 1, none⟩ = some (.int .i64 y.f1) := blk_cell' XO15.out 1 _ rfl
        have u2 : w15.cell? ⟨gx, 2, none⟩ = some (.int .i64 y.f2) := blk_cell' XO15.out 2 _ rfl
        have u3 : w15.cell? ⟨gx, 3, none⟩ = some (.int .i64 y.f3) := blk_cell' XO15.out 3 _ rfl
        refine region_fence (r := some l) (by rintro ⟨a, w, h⟩; exact h) (by decide) ?_
        go_wp2_with ((with_reducible refine gate_builtin (b := .append) (xs := #[.tmp 111, .tmp 113]) rfl ?_); at_builtin; refine Kd.R_append k35 (w0 := w) w.heap.size rfl (.tmp 111) (.tmp 113) 22 35 (.agg #[(.int .i64 0), (.int .i64 0), (.int .i64 0), (.int .i64 0)]) 32 rfl Try.underlying22 info35 rfl (by decide) (by omega) vo o y [.int .i64 y.f0, .int .i64 y.f1, .int .i64 y.f2, .int .i64 y.f3] (fun _ => True) (fun _ => False) rfl rfl ?aP (fun _ hk => hk.elim) ?aF ?aO ?aB ?aS ?aL ?_; (case aP => exact k35_mkM _ _ _ _); (case aB => exact B15.out.low); (case aF => exact (fun _ _ => trivial)); (case aO => exact RO.out); (case aS => exact B15.out.low.size); (case aL => have := PP.out.2.2; omega); intro v1 w19 ho hb hg hat; obtain ⟨A1, c1, hv1⟩ := Kd.R_slice ho; rw [show (o ++ [y]).length = o.length + 1 from by simp] at hv1; subst hv1; have HO5 := Aside0.mk ho; have HG5 := Aside0.mk hg; have HAT5 := Aside0.mk hat; have bo5 : w19.cell? ⟨gx13, 0, none⟩ = some vo := cell_grown (blk_cell' VO.out 0 _ rfl : w15.cell? ⟨gx13, 0, none⟩ = some vo) HG5.out (row_ne RO.out VO.out (by decide)); have fo5 : w19.frozen? ⟨gx13, 0, none⟩ = false := (show Boxed w19 gx13 22 vo from (show Boxed w15 gx13 22 vo from VO.out).kept HG5.out (row_ne RO.out VO.out (by decide))).frozen; clear ho hb hg hat)
        generalize hw20 : w19.setCell ⟨gx13, 0, none⟩ _ = w20
        have B20 : Aside0 (BS w gx6 gx9 gx13 gx14 gx15 V.heap.size a1 a4 W (o ++ [y]) r ⟨x.f0, a1, x.f2, wrap64 (a4 + 3)⟩ w20) := ⟨by rw [← hw20]; exact B15.out.app EV.out GS.out.1 GS.out.2.2 VO.out HO5.out HG5.out HAT5.out⟩
        clear hw20 bo5 fo5
        show Code.wpIn _ _ _ _ _ _ _
        refine wpIn_exit ?_
        exact ⟨B20.out.kx.keepsFrom, KQ.out.then B20.out.kx, by
         show LI w gx6 gx9 gx13 gx14 a1 a4 (lst a1 (wrap64 (a4 + 3)) l0 (pre ++ [x])) w20
         rw [HS.out, stepL_cons HLT.out PP.out.1 PP.out.2.1, if_pos HEQ.out, if_pos ⟨HN1.out, HG2.out⟩]
         exact B20.out.li⟩
       ·have hg2 := decide_eq_false hge
        have HG2 := Aside0.mk hge
        clear hge
        refine wpIn_seq ?_
        refine region_fence (r := some l) (by rintro ⟨a, w, h⟩; exact h) (by decide) ?_
        go_wp2
        clear u1 u2 k6 z2

        clear hn2 hg2
        refine wpIn_cond_false rfl ?_
        refine wpIn_skip ?_
        show Code.wpIn _ _ _ _ _ _ _
        obtain ⟨vo, hvo, hRo, hnb⟩ := B15.out.bo
        have VO := Aside0.mk hvo
        have RO := Aside0.mk hRo
        have b3 : w15.cell? ⟨gx13, 0, none⟩ = some vo := blk_cell' hvo 0 _ rfl
        clear hvo hRo hnb
        have z0 : w15.cell? ⟨gx15, 0, none⟩ = some (.int .i64 x.f0) := blk_cell' B15.out.bd 0 _ rfl
        have z1 : w15.cell? ⟨gx15, 1, none⟩ = some (.int .i64 a1) := blk_cell' B15.out.bd 1 _ rfl
        have z2 : w15.cell? ⟨gx15, 2, none⟩ = some (.int .i64 x.f2) := blk_cell' B15.out.bd 2 _ rfl
        have z3 : w15.cell? ⟨gx15, 3, none⟩ = some (.int .i64 (wrap64 (a4 + 3))) := blk_cell' B15.out.bd 3 _ rfl
        refine region_fence (r := some l) (by rintro ⟨a, w, h⟩; exact h) (by decide) ?_
        go_wp2_with ((with_reducible refine gate_builtin (b := .append) (xs := #[.tmp 115, .tmp 117]) rfl ?_); at_builtin; refine Kd.R_append k35 (w0 := w) w.heap.size rfl (.tmp 115) (.tmp 117) 22 35 (.agg #[(.int .i64 0), (.int .i64 0), (.int .i64 0), (.int .i64 0)]) 32 rfl Try.underlying22 info35 rfl (by decide) (by omega) vo o (⟨x.f0, a1, x.f2, wrap64 (a4 + 3)⟩ : S35) [.int .i64 x.f0, .int .i64 a1, .int .i64 x.f2, .int .i64 (wrap64 (a4 + 3))] (fun _ => True) (fun _ => False) rfl rfl ?aP (fun _ hk => hk.elim) ?aF ?aO ?aB ?aS ?aL ?_; (case aP => exact k35_mkM _ _ _ _); (case aB => exact B15.out.low); (case aF => exact (fun _ _ => trivial)); (case aO => exact RO.out); (case aS => exact B15.out.low.size); (case aL => have := PP.out.2.2; omega); intro v1 w19 ho hb hg hat; obtain ⟨A1, c1, hv1⟩ := Kd.R_slice ho; rw [show (o ++ [(⟨x.f0, a1, x.f2, wrap64 (a4 + 3)⟩ : S35)]).length = o.length + 1 from by simp] at hv1; subst hv1; have HO5 := Aside0.mk ho; have HG5 := Aside0.mk hg; have HAT5 := Aside0.mk hat; have bo5 : w19.cell? ⟨gx13, 0, none⟩ = some vo := cell_grown (blk_cell' VO.out 0 _ rfl : w15.cell? ⟨gx13, 0, none⟩ = some vo) HG5.out (row_ne RO.out VO.out (by decide)); have fo5 : w19.frozen? ⟨gx13, 0, none⟩ = false := (show Boxed w19 gx13 22 vo from (show Boxed w15 gx13 22 vo from VO.out).kept HG5.out (row_ne RO.out VO.out (by decide))).frozen; clear ho hb hg hat)
        generalize hw20 : w19.setCell ⟨gx13, 0, none⟩ _ = w20
        have B20 : Aside0 (BS w gx6 gx9 gx13 gx14 gx15 V.heap.size a1 a4 W (o ++ [(⟨x.f0, a1, x.f2, wrap64 (a4 + 3)⟩ : S35)]) r ⟨x.f0, a1, x.f2, wrap64 (a4 + 3)⟩ w20) := ⟨by rw [← hw20]; exact B15.out.app EV.out GS.out.1 GS.out.2.2 VO.out HO5.out HG5.out HAT5.out⟩
        clear hw20 bo5 fo5
        exact ⟨B20.out.kx.keepsFrom, KQ.out.then B20.out.kx, by
         show LI w gx6 gx9 gx13 gx14 a1 a4 (lst a1 (wrap64 (a4 + 3)) l0 (pre ++ [x])) w20
         rw [HS.out, stepL_cons HLT.out PP.out.1 PP.out.2.1, if_pos HEQ.out, if_neg (fun h => absurd h.2 (by have := HG2.out; omega))]
         exact B20.out.li⟩
     ·have hq : (y.f0 == x.f0) = false := beq_eq_false_iff_ne.mpr heq
      have HEQ := Aside0.mk heq
      clear heq
      refine start2 (r := (some l)) (k := 12) (fun w' => w'.cell? ⟨gx14, 0, none⟩ = some (.slice (some ad) (r.length + 1) c) ∧ w'.cell? ad = some (.int .i64 y.f0) ∧ w'.cell? ⟨gx15, 0, none⟩ = some (.int .i64 x.f0)) (fun w' => True) [] [] #[false, false, false, false, false, false, false, false, false, false, false, false] (by decide) (by kernel_rfl) rfl rfl ⟨b0, e0, x0⟩ trivial (fun hHeld hHeld2 => ?_)
      refine takeA (i := 0) (N := some 83) (v := ?_) (a' := ?_) #[true, false, false, false, false, false, false, false, false, false, false, false] rfl rfl (by kernel_rfl) (fun _ _ _ h => h) (Or.inl ⟨by rfl, ?_⟩) hHeld ?_ ?_
      rotate_left
      ·rintro w' ⟨s0, s1, s2⟩
       go_simp
       with_reducible rfl
      rotate_left
      ·simp only [Act.put, List.setIfInBounds_toArray, List.set_cons_zero, List.set_cons_succ, i64_w, i32_w]
       rfl
      refine takeA (i := 1) (N := some 84) (v := ?_) (a' := ?_) #[true, true, false, false, false, false, false, false, false, false, false, false] rfl rfl (by kernel_rfl) (fun _ _ _ h => h) (Or.inl ⟨by rfl, ?_⟩) hHeld ?_ ?_
      rotate_left
      ·rintro w' ⟨s0, s1, s2⟩
       go_simp
       with_reducible rfl
      rotate_left
      ·simp only [Act.put, List.setIfInBounds_toArray, List.set_cons_zero, List.set_cons_succ, i64_w, i32_w]
       rfl
      refine takeA (i := 2) (N := some 85) (v := ?_) (a' := ?_) #[true, true, true, false, false, false, false, false, false, false, false, false] rfl rfl (by kernel_rfl) (fun _ _ _ h => h) (Or.inl ⟨by rfl, ?_⟩) hHeld ?_ ?_
      rotate_left
      ·rintro w' ⟨s0, s1, s2⟩
       go_simp
       with_reducible rfl
      rotate_left
      ·simp only [Act.put, List.setIfInBounds_toArray, List.set_cons_zero, List.set_cons_succ, i64_w, i32_w]
       rfl
      refine takeA (i := 3) (N := some 86) (v := ?_) (a' := ?_) #[true, true, true, true, false, false, false, false, false, false, false, false] rfl rfl (by kernel_rfl) (fun _ _ _ h => h) (Or.inl ⟨by rfl, ?_⟩) hHeld ?_ ?_
      rotate_left
      ·rintro w' ⟨s0, s1, s2⟩
       go_simp
       with_reducible rfl
      rotate_left
      ·simp only [Act.put, List.setIfInBounds_toArray, List.set_cons_zero, List.set_cons_succ, i64_w, i32_w]
       rfl
      refine takeA (i := 4) (N := some 87) (v := ?_) (a' := ?_) #[true, true, true, true, true, false, false, false, false, false, false, false] rfl rfl (by kernel_rfl) (fun _ _ _ h => h) (Or.inl ⟨by rfl, ?_⟩) hHeld ?_ ?_
      rotate_left
      ·rintro w' ⟨s0, s1, s2⟩
       go_simp
       with_reducible rfl
      rotate_left
      ·simp only [Act.put, List.setIfInBounds_toArray, List.set_cons_zero, List.set_cons_succ, i64_w, i32_w]
       rfl
      refine takeA (i := 5) (N := some 88) (v := ?_) (a' := ?_) #[true, true, true, true, true, true, false, false, false, false, false, false] rfl rfl (by kernel_rfl) (fun _ _ _ h => h) (Or.inl ⟨by rfl, ?_⟩) hHeld ?_ ?_
      rotate_left
      ·rintro w' ⟨s0, s1, s2⟩
       go_simp
       with_reducible rfl
      rotate_left
      ·simp only [Act.put, List.setIfInBounds_toArray, List.set_cons_zero, List.set_cons_succ, i64_w, i32_w]
       rfl
      refine takeA (i := 6) (N := some 89) (v := ?_) (a' := ?_) #[true, true, true, true, true, true, true, false, false, false, false, false] rfl rfl (by kernel_rfl) (fun _ _ _ h => h) (Or.inl ⟨by rfl, ?_⟩) hHeld ?_ ?_
      rotate_left
      ·rintro w' ⟨s0, s1, s2⟩
       go_simp
       with_reducible rfl
      rotate_left
      ·simp only [Act.put, List.setIfInBounds_toArray, List.set_cons_zero, List.set_cons_succ, i64_w, i32_w]
       rfl
      refine takeA (i := 7) (N := some 90) (v := ?_) (a' := ?_) #[true, true, true, true, true, true, true, true, false, false, false, false] rfl rfl (by kernel_rfl) (fun _ _ _ h => h) (Or.inl ⟨by rfl, ?_⟩) hHeld ?_ ?_
      rotate_left
      ·rintro w' ⟨s0, s1, s2⟩
       go_simp
       with_reducible rfl
      rotate_left
      ·simp only [Act.put, List.setIfInBounds_toArray, List.set_cons_zero, List.set_cons_succ, i64_w, i32_w]
       rfl
      refine takeA (i := 8) (N := some 91) (v := ?_) (a' := ?_) #[true, true, true, true, true, true, true, true, true, false, false, false] rfl rfl (by kernel_rfl) (fun _ _ _ h => h) (Or.inl ⟨by rfl, ?_⟩) hHeld ?_ ?_
      rotate_left
      ·rintro w' ⟨s0, s1, s2⟩
       go_simp
       with_reducible rfl
      rotate_left
      ·simp only [Act.put, List.setIfInBounds_toArray, List.set_cons_zero, List.set_cons_succ, i64_w, i32_w]
       rfl
      refine takeA (i := 9) (N := some 92) (v := ?_) (a' := ?_) #[true, true, true, true, true, true, true, true, true, true, false, false] rfl rfl (by kernel_rfl) (fun _ _ _ h => h) (Or.inl ⟨by rfl, ?_⟩) hHeld ?_ ?_
      rotate_left
      ·rintro w' ⟨s0, s1, s2⟩
       go_simp
       with_reducible rfl
      rotate_left
      ·simp only [Act.put, List.setIfInBounds_toArray, List.set_cons_zero, List.set_cons_succ, i64_w, i32_w]
       rfl
      refine takeA (i := 10) (N := some 93) (v := ?_) (a' := ?_) #[true, true, true, true, true, true, true, true, true, true, true, false] rfl rfl (by kernel_rfl) (fun _ _ _ h => h) (Or.inl ⟨by rfl, ?_⟩) hHeld ?_ ?_
      rotate_left
      ·rintro w' ⟨s0, s1, s2⟩
       go_simp
       with_reducible rfl
      rotate_left
      ·simp only [Act.put, List.setIfInBounds_toArray, List.set_cons_zero, List.set_cons_succ, i64_w, i32_w]
       rfl
      refine takeA (i := 11) (N := some 94) (v := ?_) (a' := ?_) #[true, true, true, true, true, true, true, true, true, true, true, true] rfl rfl (by kernel_rfl) (fun _ _ _ h => h) (Or.inl ⟨by rfl, ?_⟩) hHeld ?_ ?_
      rotate_left
      ·rintro w' ⟨s0, s1, s2⟩
       go_simp
       with_reducible rfl
      rotate_left
      ·simp only [Act.put, List.setIfInBounds_toArray, List.set_cons_zero, List.set_cons_succ, i64_w, i32_w]
       rfl
      refine doneF (by kernel_rfl) ?_
      clear b0 e0 e1 e2 e3 x0 hpos hq BR12 HC HCC
      refine wpIn_cond_false rfl ?_
      refine wpIn_skip ?_
      have hgd : w12.grownBy w12.drew none := ⟨rfl, rfl, rfl, Nat.le_refl _, fun _ _ _ => rfl⟩
      have B13 := Aside0.mk (B12.out.grow EV.out hgd)
      clear hgd
      generalize w12.drew = w13 at B13 ⊢
      show Code.wpIn _ _ _ _ _ _ _
      obtain ⟨vo, hvo, hRo, hnb⟩ := B13.out.bo
      have VO := Aside0.mk hvo
      have RO := Aside0.mk hRo
      have b3 : w13.cell? ⟨gx13, 0, none⟩ = some vo := blk_cell' hvo 0 _ rfl
      clear hvo hRo hnb
      have z0 : w13.cell? ⟨gx15, 0, none⟩ = some (.int .i64 x.f0) := blk_cell' B13.out.bd 0 _ rfl
      have z1 : w13.cell? ⟨gx15, 1, none⟩ = some (.int .i64 a1) := blk_cell' B13.out.bd 1 _ rfl
      have z2 : w13.cell? ⟨gx15, 2, none⟩ = some (.int .i64 x.f2) := blk_cell' B13.out.bd 2 _ rfl
      have z3 : w13.cell? ⟨gx15, 3, none⟩ = some (.int .i64 (wrap64 (a4 + 3))) := blk_cell' B13.out.bd 3 _ rfl
      refine region_fence (r := some l) (by rintro ⟨a, w, h⟩; exact h) (by decide) ?_
      go_wp2_with ((with_reducible refine gate_builtin (b := .append) (xs := #[.tmp 115, .tmp 117]) rfl ?_); at_builtin; refine Kd.R_append k35 (w0 := w) w.heap.size rfl (.tmp 115) (.tmp 117) 22 35 (.agg #[(.int .i64 0), (.int .i64 0), (.int .i64 0), (.int .i64 0)]) 32 rfl Try.underlying22 info35 rfl (by decide) (by omega) vo o (⟨x.f0, a1, x.f2, wrap64 (a4 + 3)⟩ : S35) [.int .i64 x.f0, .int .i64 a1, .int .i64 x.f2, .int .i64 (wrap64 (a4 + 3))] (fun _ => True) (fun _ => False) rfl rfl ?aP (fun _ hk => hk.elim) ?aF ?aO ?aB ?aS ?aL ?_; (case aP => exact k35_mkM _ _ _ _); (case aB => exact B13.out.low); (case aF => exact (fun _ _ => trivial)); (case aO => exact RO.out); (case aS => exact B13.out.low.size); (case aL => have := PP.out.2.2; omega); intro v1 w19 ho hb hg hat; obtain ⟨A1, c1, hv1⟩ := Kd.R_slice ho; rw [show (o ++ [(⟨x.f0, a1, x.f2, wrap64 (a4 + 3)⟩ : S35)]).length = o.length + 1 from by simp] at hv1; subst hv1; have HO5 := Aside0.mk ho; have HG5 := Aside0.mk hg; have HAT5 := Aside0.mk hat; have bo5 : w19.cell? ⟨gx13, 0, none⟩ = some vo := cell_grown (blk_cell' VO.out 0 _ rfl : w13.cell? ⟨gx13, 0, none⟩ = some vo) HG5.out (row_ne RO.out VO.out (by decide)); have fo5 : w19.frozen? ⟨gx13, 0, none⟩ = false := (show Boxed w19 gx13 22 vo from (show Boxed w13 gx13 22 vo from VO.out).kept HG5.out (row_ne RO.out VO.out (by decide))).frozen; clear ho hb hg hat)
      generalize hw20 : w19.setCell ⟨gx13, 0, none⟩ _ = w20
      have B20 : Aside0 (BS w gx6 gx9 gx13 gx14 gx15 V.heap.size a1 a4 W (o ++ [(⟨x.f0, a1, x.f2, wrap64 (a4 + 3)⟩ : S35)]) (y :: r) ⟨x.f0, a1, x.f2, wrap64 (a4 + 3)⟩ w20) := ⟨by rw [← hw20]; exact B13.out.app EV.out GS.out.1 GS.out.2.2 VO.out HO5.out HG5.out HAT5.out⟩
      clear hw20 bo5 fo5
      exact ⟨B20.out.kx.keepsFrom, KQ.out.then B20.out.kx, by
       show LI w gx6 gx9 gx13 gx14 a1 a4 (lst a1 (wrap64 (a4 + 3)) l0 (pre ++ [x])) w20
       rw [HS.out, stepL_cons HLT.out PP.out.1 PP.out.2.1, if_neg HEQ.out]
       exact B20.out.li⟩
 case done =>
  rintro D ys W hD rfl hI hK
  have HI := Aside0.mk (show LI w gx6 gx9 gx13 gx14 a1 a4 (lst a1 (wrap64 (a4 + 3)) l0 (newsL a1 a2 none l3)) W from hI)
  have HKD := Aside0.mk hK
  have HD := Aside0.mk hD
  have HLN : Aside0 ((lst a1 (wrap64 (a4 + 3)) l0 (newsL a1 a2 none l3)).1.length + (lst a1 (wrap64 (a4 + 3)) l0 (newsL a1 a2 none l3)).2.length ≤ 4398046511104) := ⟨by
   have h1 := lst_len a1 (wrap64 (a4 + 3)) l0 (newsL a1 a2 none l3) ([], l0)
   have h2 := newsL_len a1 a2 none l3 (fun _ _ => trivial)
   have h3 := HL.out
   simp only [List.length_nil] at h1
   show ((List.foldl (fun s d => stepL a1 (wrap64 (a4 + 3)) d s) ([], l0) (newsL a1 a2 none l3)).1.length + (List.foldl (fun s d => stepL a1 (wrap64 (a4 + 3)) d s) ([], l0) (newsL a1 a2 none l3)).2.length ≤ 4398046511104)
   omega⟩
  have HM : Aside0 (mergeL a1 (wrap64 (a4 + 3)) (newsL a1 a2 none l3) l0 = (lst a1 (wrap64 (a4 + 3)) l0 (newsL a1 a2 none l3)).1 ++ (lst a1 (wrap64 (a4 + 3)) l0 (newsL a1 a2 none l3)).2) := ⟨rfl⟩
  clear hI hK hD
  generalize lst a1 (wrap64 (a4 + 3)) l0 (newsL a1 a2 none l3) = s at HI HLN HM
  obtain ⟨vo, hvo, hRo⟩ := HI.out.bo
  obtain ⟨A, c, hbr, hC, hc⟩ := HI.out.br
  have VO := Aside0.mk hvo
  have RO := Aside0.mk hRo
  have RC := Aside0.mk (Kd.C_below hC HI.out.low)
  have b3 : W.cell? ⟨gx13, 0, none⟩ = some vo := blk_cell' hvo 0 _ rfl
  have b4 : W.cell? ⟨gx14, 0, none⟩ = some (.slice A s.2.length c) := blk_cell' hbr 0 _ rfl
  clear hvo hRo hbr hC hc
  go_wp2_with ((with_reducible refine gate_builtin (b := .append) (xs := #[.tmp 119, .tmp 120]) rfl ?_); at_builtin; refine Kd.R_append_rows k35 (w0 := w) w.heap.size rfl (.tmp 119) (.tmp 120) 22 35 (.agg #[(.int .i64 0), (.int .i64 0), (.int .i64 0), (.int .i64 0)]) 32 rfl Try.underlying22 info35 rfl (by decide) (by omega) vo s.1 s.2 _ _ _ (fun _ => True) (fun _ => False) rfl rfl ?aO ?aR (fun _ _ h_ => flat35L W W _ _ _ _ h_) (fun _ h_ => h_.elim) (fun _ _ => trivial) ?aB ?aS ?aL ?_; (case aR => exact RC.out); (case aO => exact RO.out); (case aB => exact HI.out.low); (case aS => exact HI.out.low.size); (case aL => have := HLN.out; omega); intro v1 w19 ho hb hg hat; have HO5 := Aside0.mk ho; have HG5 := Aside0.mk hg; have HB5 := Aside0.mk hb; clear ho hb hg hat)
  rw [Exit.noGoto_ret]
  have hKD : w19.heap[D]? = some (.deferred (some [])) := (HG5.out.block D (Array.getElem?_eq_some_iff.1 HKD.out).1 (fun e => by
   obtain ⟨_, _, cs, t, hc⟩ := R_block RO.out D e.symm
   have := HKD.out
   rw [hc] at this
   cases this)).trans HKD.out
  refine ⟨by simp, .inl ⟨_, _, rfl, run_takeDeferred hKD, ?_⟩⟩
  refine ⟨_, results_tmp2 rfl _ _ _, v1, rfl, ?_, ?_⟩
  ·rw [HM.out]
   exact R_turn HO5.out (grownBy_putObj' w19 D _) (fun r e => by cases e; exact ⟨_, hKD, rfl⟩)
  ·have h10 := P10.out.2.2.2.2.1.size
   have hD := HD.out
   exact HB5.out.grown (grownBy_putObj' w19 D _) HB5.out.size (fun k e => by cases e; omega)
 case stop =>
  rintro D c pre W _ _ h _
  exact h.elim
def Learn2.f (k : Nat) (l0 : List (S35)) (a1 : Int) (a2 : Int) (l3 : List (S35)) (a4 : Int) : Option ((List (S35)) × Int) :=
 (down_valid.f k l0).bind fun v => if v = false ∨ ndb a1 = false ∨ a2 < 0 ∨ a2 > 1000000000 ∨ a4 < 0 ∨ a4 > 999999997 then some ([], 1) else
  (down_told.f k l3).bind fun t => if t = false ∨ 0 ≤ fidx (slf35 a1) l3 0 then some ([], 1) else
   if l0.length + (2 * l3.length + 1) < 4398046511104 then some (mergeL a1 (wrap64 (a4 + 3)) (newsL a1 a2 none l3) l0, 0) else none
theorem Learn2.calls (k : Nat) (A0 : Option Addr) (c0 : Nat) (l0 : List (S35)) (a1 : Int) (a2 : Int) (A3 : Option Addr) (c3 : Nat) (l3 : List (S35)) (a4 : Int) (r1 : List (S35)) (r2 : Int) (w : World) (hr0 : Kd.C k35 w A0 l0.length l0) (hc0 : l0.length ≤ c0) (hr3 : Kd.C k35 w A3 l3.length l3) (hc3 : l3.length ≤ c3) (h : Learn2.f k l0 a1 a2 l3 a4 = some (r1, r2)) :
  Calls Try.prog 12 #[.slice A0 l0.length c0, .int .i64 a1, .int .i64 a2, .slice A3 l3.length c3, .int .i64 a4] w fun e w' => ∃ v0_ : Value, e = .returned (.tuple #[v0_, .int .i64 r2]) ∧ Kd.R k35 35 w' w.heap.size (fun _ => True) v0_ r1 ∧ Below w.heap.size w w' := by
 unfold Learn2.f at h
 obtain ⟨v, hv, h⟩ := Option.bind_eq_some_iff.1 h
 have HV : ∀ w', Below w.heap.size w w' → Calls Try.prog 25 #[.slice A0 l0.length c0] w' fun e w'' => e = .returned (.bool v) ∧ Below w'.heap.size w' w'' := fun w' hw => down_valid.calls k A0 c0 l0 v w' (Kd.C_below hr0 hw) hc0 hv
 have NE := node_eq a1
 have eg : ∀ args w, (callFunc 24 args).run Try.prog w = .ok (.enter 24 args) w := enters_of Try.func24 (by kernel_rfl) rfl
 have HCT : ∀ w' g, Below w.heap.size w w' → w'.heap[g]? = some (.cells #[.int .i64 a1] 3 (0, 0)) → Calls Try.prog 28 #[.slice A3 l3.length c3, .func (.func 24) #[] #[.pointer (some ⟨g, 0, none⟩)]] w' fun e w'' => e = .returned (.bool (decide (0 ≤ fidx (slf35 a1) l3 0))) ∧ Below w'.heap.size w' w'' :=
  fun w' g hw hg => ctf35 24 #[.pointer (some ⟨g, 0, none⟩)] (slf35 a1) A3 c3 l3 w' (Kd.C_below hr3 hw) eg (fun W x hW => (slf24.calls a1 x g W (blk_below hg hW)).mono fun e w'' hq => ⟨hq.1, below_step hW hq.2⟩)
 have bad : (r1, r2) = (([] : List S35), (1 : Int)) → (∀ {e : Ending} {w' : World}, e = .returned (.tuple #[.slice none 0 0, .int .i64 1]) ∧ Below w.heap.size w w' → ∃ v0_ : Value, e = .returned (.tuple #[v0_, .int .i64 r2]) ∧ Kd.R k35 35 w' w.heap.size (fun _ => True) v0_ r1 ∧ Below w.heap.size w w') := fun he {e w'} hq => by
  injection he with h1 h2
  subst h1 h2
  exact ⟨_, hq.1, Kd.R_nil _ _ _ _ _, hq.2⟩
 by_cases hc : v = false ∨ ndb a1 = false ∨ a2 < 0 ∨ a2 > 1000000000 ∨ a4 < 0 ∨ a4 > 999999997
 ·rw [if_pos hc] at h
  refine (learn_bad A0 c0 l0.length a1 a2 A3 c3 l3.length a4 w v (ndb a1) _ _ _ _ true _ HV NE rfl rfl rfl rfl (fun hx => ?_) HCT ?_).mono fun e w' hq => bad (Option.some.inj h).symm hq
  ·obtain ⟨x1, x2, x3, x4, x5, x6⟩ := hx
   rw [x1, x2] at hc
   have := of_decide_eq_false x3
   have := of_decide_eq_false x4
   have := of_decide_eq_false x5
   have := of_decide_eq_false x6
   rcases hc with hc | hc | hc | hc | hc | hc <;> first | cases hc | omega
  ·cases v
   ·exact .inl rfl
   refine .inr ?_
   cases hnb : ndb a1
   ·exact .inl ⟨rfl, rfl⟩
   refine .inr ?_
   rw [hnb] at hc
   by_cases h1 : a2 < 0
   ·exact .inl ⟨rfl, rfl, decide_eq_true h1⟩
   refine .inr ?_
   by_cases h2 : a2 > 1000000000
   ·exact .inl ⟨rfl, rfl, decide_eq_false h1, decide_eq_true h2⟩
   refine .inr ?_
   by_cases h3 : a4 < 0
   ·exact .inl ⟨rfl, rfl, decide_eq_false h1, decide_eq_false h2, decide_eq_true h3⟩
   refine .inr ?_
   by_cases h4 : a4 > 999999997
   ·exact .inl ⟨rfl, rfl, decide_eq_false h1, decide_eq_false h2, decide_eq_false h3, decide_eq_true h4⟩
   rcases hc with hc | hc | hc | hc | hc | hc <;> first | cases hc | omega
 ·rw [if_neg hc] at h
  obtain ⟨t, ht, h⟩ := Option.bind_eq_some_iff.1 h
  have HT : ∀ w', Below w.heap.size w w' → Calls Try.prog 27 #[.slice A3 l3.length c3] w' fun e w'' => e = .returned (.bool t) ∧ Below w'.heap.size w' w'' := fun w' hw => down_told.calls k A3 c3 l3 t w' (Kd.C_below hr3 hw) hc3 ht
  have hv1 : v = true := by cases v; exact absurd (.inl rfl) hc; rfl
  have hn1 : ndb a1 = true := by cases hh : ndb a1; exact absurd (.inr (.inl hh)) hc; rfl
  have h1 : decide (a2 < 0) = false := decide_eq_false fun h => hc (.inr (.inr (.inl h)))
  have h2 : decide (a2 > 1000000000) = false := decide_eq_false fun h => hc (.inr (.inr (.inr (.inl h))))
  have h3 : decide (a4 < 0) = false := decide_eq_false fun h => hc (.inr (.inr (.inr (.inr (.inl h)))))
  have h4 : decide (a4 > 999999997) = false := decide_eq_false fun h => hc (.inr (.inr (.inr (.inr (.inr h)))))
  subst hv1
  rw [hn1] at NE
  by_cases hc2 : t = false ∨ 0 ≤ fidx (slf35 a1) l3 0
  ·rw [if_pos hc2] at h
   refine (learn_bad A0 c0 l0.length a1 a2 A3 c3 l3.length a4 w true true false false false false t _ HV NE h1 h2 h3 h4 (fun _ => HT) HCT ?_).mono fun e w' hq => bad (Option.some.inj h).symm hq
   refine .inr (.inr (.inr (.inr (.inr (.inr ?_)))))
   cases t
   ·exact .inl ⟨rfl, rfl, rfl, rfl, rfl, rfl, rfl⟩
   ·rcases hc2 with hc2 | hc2
    ·cases hc2
    ·exact .inr ⟨rfl, rfl, rfl, rfl, rfl, rfl, rfl, decide_eq_true hc2⟩
  ·rw [if_neg hc2] at h
   have ht1 : t = true := by cases t; exact absurd (.inl rfl) hc2; rfl
   subst ht1
   by_cases hl : l0.length + (2 * l3.length + 1) < 4398046511104
   ·rw [if_pos hl] at h
    obtain ⟨rfl, rfl⟩ := Prod.mk.inj (Option.some.inj h)
    refine learn_good A0 c0 l0 a1 a2 A3 c3 l3 a4 w hr0 hc0 hr3 hc3 hl HV NE h1 h2 h3 h4 HT (fun w' g hw hg => (HCT w' g hw hg).mono fun e w'' hq => ⟨?_, hq.2⟩)
    rw [hq.1, decide_eq_false fun h => hc2 (.inr h)]
   ·rw [if_neg hl] at h
    cases h
end Go.Proofs.Ythobfempjekhdaa.Px
