/- The function value that down.news hands back, walked: it gives the child and what it tells in order of the targets, for every loop's body that keeps what it reads. -/
import Derived.RangeFuncNested
import Derived.RangeFuncBound
import Derived.RangeFuncCalls
import Derived.RangeFuncLeaves
import Derived.Shelf.Abstract
import Derived.WalkKit
import Derived.OwnWalkIn
import Derived.TacticsInMore
import Derived.LoopNIn
import Derived.LoopIn
import Derived.IntWalk
import Derived.Test.YthobfempjekhdaaPx0
import Derived.Test.YthobfempjekhdaaPx2
namespace Go.Proofs.Ythobfempjekhdaa.Px
open Go.RowKit Go.Proofs.YthobfempjekhdaaW.PrintWords Go.Proofs.YthobfempjekhdaaW.PrintLast Go.Proofs.YthobfempjekhdaaW.PrintMore
attribute [local go_sem] max2_int min2_int max_two min_two max_three min_three max_four min_four
attribute [local go_sem] Oper.semAt_some
set_option linter.unusedVariables false
set_option linter.unusedSimpArgs false
def newsL (child seq : Int) : Option Int → List S35 → List S35
 | p, [] => if p.all (fun q => decide (q < child)) = true then [⟨child, 0, seq, 0⟩] else []
 | p, d :: t => (if d.f0 > child ∧ p.all (fun q => decide (q < child)) = true then [⟨child, 0, seq, 0⟩] else []) ++ d :: newsL child seq (some d.f0) t
/-- One round: what has been put out, and what is left of the old routes. -/
def stepL (child stays : Int) (d : S35) (s : List S35 × List S35) : List S35 × List S35 :=
 match s.2.dropWhile (fun x => decide (x.f0 < d.f0)) with
 | [] => (s.1 ++ s.2.takeWhile (fun x => decide (x.f0 < d.f0)) ++ [⟨d.f0, child, d.f2, stays⟩], [])
 | old :: r => if old.f0 = d.f0 then (if old.f1 ≠ child ∧ old.f2 ≥ d.f2 then (s.1 ++ s.2.takeWhile (fun x => decide (x.f0 < d.f0)) ++ [old], r) else (s.1 ++ s.2.takeWhile (fun x => decide (x.f0 < d.f0)) ++ [⟨d.f0, child, d.f2, stays⟩], r)) else (s.1 ++ s.2.takeWhile (fun x => decide (x.f0 < d.f0)) ++ [⟨d.f0, child, d.f2, stays⟩], old :: r)
def mergeL (child stays : Int) (news l : List S35) : List S35 := let s := news.foldl (fun s d => stepL child stays d s) ([], l); s.1 ++ s.2
def slf35 (child : Int) (x : S35) : Bool := x.f0 == child
/-! A region's walk by the plain laws serves under the wide fence, in a round too, where no operation of it is a defer statement. -/
def fence (r : Option Nat) : Fence := { Fence.wide with round := r }
def noDefer (o : Oper) : Bool := match o.op with | .defer _ => false | _ => true
theorem noDefer_sem {r : Option Nat} {ρ : Operand → Value} {o : Oper} (h : noDefer o = true) : o.semAt r ρ = execOp ρ o := by
 cases r with
 | none => exact Oper.semAt_none ρ o
 | some l => exact Oper.semAt_some l ρ o (fun c hc => by unfold noDefer at h; rw [hc] at h; cases h)
theorem rowsIn_fence {r : Option Nat} {n : Nat} {P : Program} {row : String} {args : Array Value} {w : World} {R : Value → World → Prop} (h : Rows P row args w R) : RowsIn (fence r) n P row args w R :=
 fun c cs _ => let ⟨v, w', q, s⟩ := h c cs; ⟨v, w', q, stepsIn_wide.2 s⟩
theorem callsIn_fence {r : Option Nat} {n : Nat} {P : Program} {f : FuncId} {args : Array Value} {w : World} {R : Ending → World → Prop} (h : Calls P f args w R) : CallsIn (fence r) n P f args w R :=
 (callsIn_wide (n := n)).2 h
theorem uponIn_fence {r : Option Nat} {n : Nat} {P : Program} {o : Oper} {a : Act} {K : Act → World → Prop} {Q : Exit → Act → World → Prop} {x : Result Next} (h : o.upon P a K Q x) : o.uponIn (fence r) n P a K Q x := by
 cases x with
 | ok v w' =>
  cases v with
  | enter f args => exact ⟨(fun hd => (by cases hd)), (callsIn_fence (Calls.mono h (fun e w'' he => by cases e <;> exact he)))⟩
  | row row args => exact ⟨(fun hd => (by cases hd)), rowsIn_fence h⟩
  | round => exact False.elim h
  | _ => exact h
 | halt v w' => cases v <;> exact h
theorem wpInO_fence {r : Option Nat} {n : Nat} {P : Program} {o : Oper} {a : Act} {w : World} {K : Act → World → Prop} {Q : Exit → Act → World → Prop} (hd : noDefer o = true) (h : o.wp P a w K Q) : o.wpIn (fence r) n P a w K Q := by
 refine ⟨fun _ _ => trivial, ?_⟩
 show o.uponIn (fence r) n P a K Q ((o.semAt r a.eval).run P w)
 rw [noDefer_sem hd]
 exact uponIn_fence h
theorem wpListIn_fence {r : Option Nat} {n : Nat} {P : Program} {ops : Array Oper} {Q : Exit → Act → World → Prop} (hQ : ¬ LetsOut Q) : ∀ (l : List Oper) (a : Act) (w : World), l.all noDefer = true → wpList P ops Q l a w → wpListIn (fence r) n P ops Q l a w
 | [], _, _, _, h => h
 | o :: l, a, w, hd, h => by
  rw [List.all_cons, Bool.and_eq_true] at hd
  unfold wpList at h
  unfold wpListIn
  split
  ·rename_i hw
   rw [if_pos hw] at h
   rcases h with h | h
   ·exact Oper.wpIn_mono (fun a w h => wpListIn_fence hQ l a w hd.2 h) (wpInO_fence hd.1 h)
   ·exact absurd h.2 hQ
  ·rename_i hw
   rw [if_neg hw] at h
   exact ⟨fun _ _ => trivial, wpListIn_fence hQ l _ w hd.2 h⟩
theorem region_fence {r : Option Nat} {n id : Nat} {P : Program} {l : List Oper} {Q : Exit → Act → World → Prop} {a : Act} {w : World} (hQ : ¬ LetsOut Q) (hd : l.all noDefer = true) (h : wpList P l.toArray Q l a w) : (Code.region id l.toArray false).wpIn (fence r) n P Q a w :=
 wpIn_region_lit (wpListIn_fence hQ l a w hd h)
/-! ### A drawing region with a round's call in it, under the wide fence: PrintLast's steps once more, each operation by 'uponIn'. -/
def wpOpF (r : Option Nat) (n : Nat) (P : Program) (ops : Array Oper) (Q : Exit → Act → World → Prop) (i : Nat) (K : Act → World → Prop) (a : Act) (w : World) : Prop :=
 match ops[i]? with
 | none => K a w
 | some o => if Region.wanted o (yielded ops a.tmps) then o.uponIn (fence r) n P a K Q ((execOp a.eval o).run P w) else K (a.put o.dst undef) w
section
variable {r : Option Nat} {n : Nat} {P : Program} {ops : Array Oper} {Q : Exit → Act → World → Prop} {md : Region.Mode} {S : Bool → World → Prop} {ds : Bool → List Nat}
theorem uponIn_mono {o : Oper} {a : Act} {K K' : Act → World → Prop} {x : Result Next} (h : ∀ a w, K a w → K' a w) (hh : o.uponIn (fence r) n P a K Q x) : o.uponIn (fence r) n P a K' Q x := by
 cases x with
 | ok x w' =>
  cases x <;> simp only [Oper.uponIn] at hh ⊢ <;>
   first
    | exact h _ _ hh
    | exact ⟨hh.1, CallsIn.mono hh.2 (fun e w'' he => by cases e <;> first | exact h _ _ he | exact he)⟩
    | exact ⟨hh.1, RowsIn.mono hh.2 (fun _ _ he => h _ _ he)⟩
    | exact ⟨hh.1, RoundIn.mono hh.2 (fun e w'' he => by cases e <;> first | exact h _ _ he | exact he)⟩
 | halt x w' => cases x <;> simp only [Oper.uponIn] at hh ⊢ <;> exact hh
theorem wpOpF_mono {i : Nat} {a : Act} {w : World} {K K' : Act → World → Prop} (h : ∀ a w, K a w → K' a w) (hh : wpOpF r n P ops Q i K a w) : wpOpF r n P ops Q i K' a w := by
 unfold wpOpF at *
 split
 ·exact h _ _ (by simpa [*] using hh)
 ·rename_i o ho
  simp only [ho] at hh
  split
  ·rename_i hw; simp only [hw, if_true] at hh; exact uponIn_mono h hh
  ·rename_i hw; simp only [hw] at hh; exact h _ _ hh
theorem wpOpIn_of_F (hd : ops.toList.all noDefer = true) {i : Nat} {K : Act → World → Prop} {a : Act} {w : World} (h : wpOpF r n P ops Q i K a w) : wpOpIn (fence r) n P ops Q i K a w := by
 unfold wpOpF at h
 unfold wpOpIn
 cases ho : ops[i]? with
 | none => rw [ho] at h; exact h
 | some o =>
  rw [ho] at h
  have hdo : noDefer o = true := List.all_eq_true.1 hd o (Array.mem_toList_iff.2 (Array.mem_of_getElem? ho))
  simp only at h ⊢
  split
  ·rename_i hw
   rw [if_pos hw] at h
   refine ⟨fun _ _ => trivial, ?_⟩
   show o.uponIn (fence r) n P a K Q ((o.semAt r a.eval).run P w)
   rw [noDefer_sem hdo]
   exact h
  ·rename_i hw
   rw [if_neg hw] at h
   exact ⟨fun _ _ => trivial, h⟩
theorem yieldsIf_F {S : World → Prop} {i : Nat} {o : Oper} {v : Value} {a : Act} (hi : ops[i]? = some o) (hy : YieldsIf P ops S o v a) {K : Act → World → Prop} {w : World} (hS : S w) (h : K (a.put o.dst v) w) : wpOpF r n P ops Q i K a w := by
 unfold wpOpF
 simp only [hi]
 rcases hy with ⟨hw, hv⟩ | ⟨hw, rfl⟩
 ·simp only [hw, if_true, hv w hS, Oper.uponIn]; exact h
 ·simp only [hw, Bool.false_eq_true, if_false]; exact h
theorem wpOpF_putIf {S : World → Prop} {j : Nat} {oi oj : Oper} {v : Value} (hj : ops[j]? = some oj) (hap : oi.apart ops oj = true)
  (hsi : ∀ cs b, oi.op ≠ .select cs b) (hsj : ∀ cs b, oj.op ≠ .select cs b)
  (hQ : ∀ c a w, Q (.panic c) (a.put oi.dst v) w → Q (.panic c) a w) {K : Act → World → Prop} {a : Act} {w : World}
  (hy : YieldsIf P ops S oi v a) (h : wpOpF r n P ops Q j K (a.put oi.dst v) w) :
  wpOpF r n P ops Q j (fun a' w' => YieldsIf P ops S oi v a' ∧ K (a'.put oi.dst v) w') a w := by
 obtain ⟨h1, h2, h3⟩ := Oper.apart_spec hap
 have keep : ∀ (a : Act), YieldsIf P ops S oi v a → ∀ u, YieldsIf P ops S oi v (a.put oj.dst u) := fun a hy u =>
  hy.of_same (execOp_put oi hsi a oj.dst u h3) (wanted_put oi a oj.dst u h3)
 have keepD : ∀ d, YieldsIf P ops S oi v { a with defers := d :: a.defers } := fun d => hy.of_same rfl rfl
 unfold wpOpF at *
 simp only [hj] at *
 rw [wanted_put oj a oi.dst v h1] at h
 split
 ·rename_i hw
  simp only [hw, if_true] at h
  rw [execOp_put oj hsj a oi.dst v h1] at h
  generalize (execOp a.eval oj).run P w = x at *
  cases x with
  | ok x w' =>
   cases x <;> simp only [Oper.uponIn] at h ⊢
   case value u => exact ⟨keep a hy u, by rw [← Act.put_comm a v u h2]; exact h⟩
   case skip => exact ⟨keep a hy _, by rw [← Act.put_comm a v undef h2]; exact h⟩
   case defer d =>
    refine ⟨keep _ (keepD d) _, ?_⟩
    rw [← Act.put_comm _ v undef h2, ← Act.put_defers]
    exact h
   case enter f args =>
    refine ⟨h.1, CallsIn.mono h.2 fun e w'' he => ?_⟩
    cases e with
    | returned u => exact ⟨keep a hy u, by rw [← Act.put_comm a v u h2]; exact he⟩
    | panicked c => exact hQ _ _ _ he
    | outgrown => exact he
   case row row args => exact ⟨h.1, RowsIn.mono h.2 fun u w'' he => ⟨keep a hy u, by rw [← Act.put_comm a v u h2]; exact he⟩⟩
   case round l f tmps assign body =>
    refine ⟨h.1, RoundIn.mono h.2 fun e w'' he => ?_⟩
    cases e with
    | returned u => exact ⟨keep a hy u, by rw [← Act.put_comm a v u h2]; exact he⟩
    | panicked c => exact hQ _ _ _ he
    | outgrown => exact he
  | halt x w' =>
   cases x <;> simp only [Oper.uponIn] at h ⊢
   case panic u => exact hQ _ _ _ h
 ·rename_i hw
  simp only [hw] at h
  exact ⟨keep a hy _, by rw [← Act.put_comm a v undef h2]; exact h⟩
def wpAnyF (r : Option Nat) (n : Nat) (P : Program) (md : Region.Mode) (ops : Array Oper) (Q : Exit → Act → World → Prop) (S : Bool → World → Prop) (ds : Bool → List Nat) : Nat → Array Bool → Act → World → Prop
 | 0, listed, a, w => Region.ready md ops listed = [] ∧ Q .normal a w
 | fuel + 1, listed, a, w =>
  (Region.ready md ops listed = [] → Q .normal a w) ∧
  ∀ i ∈ Region.ready md ops listed, wpOpF r n P ops Q i (fun a' w' => (∀ b, i ∉ ds b → S b w → S b w') ∧ wpAnyF r n P md ops Q S ds fuel (listed.setIfInBounds i true) a' w') a w
theorem wpAnyIn_of_F (hd : ops.toList.all noDefer = true) : ∀ (fuel : Nat) (listed : Array Bool) (a : Act) (w : World), wpAnyF r n P md ops Q S ds fuel listed a w → wpAnyIn (fence r) n P md ops Q fuel listed a w
 | 0, _, _, _, h => h
 | fuel + 1, _, _, _, h => ⟨h.1, fun i hi => wpOpIn_of_F hd (wpOpF_mono (fun a' w' h' => wpAnyIn_of_F hd fuel _ a' w' h'.2) (h.2 i hi))⟩
theorem wpAnyF_first (b : Bool) {i : Nat} {oi : Oper} {v : Value} (hi : ops[i]? = some oi) (hsel : ∀ (j : Nat) (o : Oper) cs b, ops[j]? = some o → o.op ≠ .select cs b)
  (hQ : ∀ c a w, Q (.panic c) (a.put oi.dst v) w → Q (.panic c) a w) (m : Nat) :
  ∀ (fuel : Nat) (listed : Array Bool) (a : Act) (w : World),
   (∀ j oj, ops[j]? = some oj → j ≠ i → listed.getD j true = false → (∀ e ∈ oj.after, Region.binds md e = true → e.on ≠ i) → oi.apart ops oj = true) →
   ListedClosed md ops listed → (∀ d ∈ ds b, listed.getD d true = false → Region.reachB md ops i m d = true) →
   i ∈ Region.ready md ops listed → YieldsIf P ops (S b) oi v a → S b w →
   wpAnyF r n P md ops Q S ds fuel (listed.setIfInBounds i true) (a.put oi.dst v) w → wpAnyF r n P md ops Q S ds (fuel + 1) listed a w := by
 intro fuel
 induction fuel with
 | zero =>
  intro listed a w _ _ _ hr hy hS H
  refine ⟨fun h => (by rw [h] at hr; cases hr), fun j hj => ?_⟩
  by_cases hji : j = i
  ·subst hji; exact yieldsIf_F hi hy hS ⟨fun _ _ h => h, H⟩
  ·have := ready_mono hj hji
   rw [H.1] at this
   cases this
 | succ fuel ih =>
  intro listed a w hfree hc hd hr hy hS H
  refine ⟨fun h => (by rw [h] at hr; cases hr), fun j hj => ?_⟩
  by_cases hji : j = i
  ·subst hji; exact yieldsIf_F hi hy hS ⟨fun _ _ h => h, H⟩
  ·have h1 := H.2 j (ready_mono hj hji)
   obtain ⟨hjun, oj, hoj, hall⟩ := mem_ready.1 hj
   have hiun := (mem_ready.1 hr).1
   have hnot : ∀ e ∈ oj.after, Region.binds md e = true → e.on ≠ i := fun e he hb heq => by
    have h1 := hall e he hb
    rw [heq] at h1
    rcases Nat.lt_or_ge i listed.size with h' | h'
    ·simp [h'] at hiun h1; rw [hiun] at h1; cases h1
    ·simp [Array.getElem?_eq_none h'] at h1
   have hjd : j ∉ ds b := fun hm => Region.reach_not_ready hc (hd j hm hjun) hiun hj
   have h2 := wpOpF_putIf hoj (hfree j oj hoj hji hjun hnot) (fun cs b => hsel i oi cs b hi) (fun cs b => hsel j oj cs b hoj) hQ hy h1
   have hfree' : ∀ k ok, ops[k]? = some ok → k ≠ i → (listed.setIfInBounds j true).getD k true = false →
     (∀ e ∈ ok.after, Region.binds md e = true → e.on ≠ i) → oi.apart ops ok = true := fun k ok hk hki hun hno => by
    refine hfree k ok hk hki ?_ hno
    by_cases hjk : j = k
    ·subst hjk; exact hjun
    ·rw [getD_set_ne true hjk] at hun; exact hun
   have hd' : ∀ d ∈ ds b, (listed.setIfInBounds j true).getD d true = false → Region.reachB md ops i m d = true := fun d hm hun => by
    refine hd d hm ?_
    by_cases hjk : j = d
    ·subst hjk; exact hjun
    ·rw [getD_set_ne true hjk] at hun; exact hun
   refine wpOpF_mono (fun a' w' h3 => ⟨h3.2.1, ih (listed.setIfInBounds j true) a' w' hfree' (hc.set hj) hd' (ready_mono hr (Ne.symm hji)) h3.1 (h3.2.1 b hjd hS) ?_⟩) h2
   rw [Array.setIfInBounds_comm _ _ hji]
   exact h3.2.2
theorem startF {id k : Nat} {a : Act} {w : World} (l : Array Bool) (hd : ops.toList.all noDefer = true) (hm : P.follows .mixedOrders = true) (hn : ops.size = k) (hl : Array.replicate k false = l) (S : Bool → World → Prop) (ds : Bool → List Nat) (hS : ∀ b, S b w.drew)
  (h : (∀ b, S b w.drew) → wpAnyF r n P .any ops Q S ds k l a w.drew) : (Code.region id ops true).wpIn (fence r) n P Q a w := by
 subst hn
 subst hl
 exact wpIn_region_any hm (wpAnyIn_of_F hd _ _ _ _ (h hS))
theorem takeF (b : Bool) {i : Nat} {N : Option Tmp} {oi : Oper} {v : Value} {fuel : Nat} {l : Array Bool} {a : Act} {w : World} (l' : Array Bool) (hi : ops[i]? = some oi) (hN : oi.dst = N) (hc : takeB md ops (ds b) l l' i = true)
  (hQ : ∀ c a w, Q (.panic c) (a.put oi.dst v) w → Q (.panic c) a w) (hy : YieldsIf P ops (S b) oi v a) (hS : S b w) {a' : Act} (ha : a.put N v = a')
  (h : wpAnyF r n P md ops Q S ds fuel l' a' w) : wpAnyF r n P md ops Q S ds (fuel + 1) l a w := by
 subst ha
 subst hN
 simp only [takeB, Bool.and_eq_true, beq_iff_eq] at hc
 obtain ⟨⟨⟨⟨⟨h1, h2⟩, h3⟩, h4⟩, h5⟩, h6⟩ := hc
 subst h6
 exact wpAnyF_first b hi (Region.noSelect_spec h1) hQ ops.size fuel l a w (Region.free_spec hi h2) (Region.closedB_spec h4)
  (fun d hm hun => by have := List.all_eq_true.1 h5 d hm; rw [hun] at this; simpa using this) (by simpa using h3) hy hS h
theorem lastF {i : Nat} {N : Option Tmp} {oi : Oper} {fuel : Nat} {l : Array Bool} {a : Act} {w : World} (l' : Array Bool) (hi : ops[i]? = some oi) (hN : oi.dst = N) (hc : readyB md ops l l' i = true) (hw : Region.wanted oi (yielded ops a.tmps) = true)
  (h : oi.uponIn (fence r) n P a (fun a' w' => (∀ b, i ∉ ds b → S b w → S b w') ∧ wpAnyF r n P md ops Q S ds fuel l' a' w') Q ((execOp a.eval oi).run P w)) :
  wpAnyF r n P md ops Q S ds (fuel + 1) l a w := by
 subst hN
 simp only [readyB, Bool.and_eq_true, beq_iff_eq] at hc
 obtain ⟨h1, h2⟩ := hc
 subst h2
 refine ⟨fun h0 => (by rw [h1] at h0; cases h0), fun j hj => ?_⟩
 rw [h1] at hj
 obtain rfl := List.mem_singleton.1 hj
 unfold wpOpF
 simp only [hi]
 rw [if_pos hw]
 exact h
/-- .. by a plain step (an append, a literal, a store). -/
theorem oneF {i : Nat} {N : Option Tmp} {oi : Oper} {fuel : Nat} {l : Array Bool} {a : Act} {w : World} (l' : Array Bool) (hi : ops[i]? = some oi) (hN : oi.dst = N) (hc : readyB md ops l l' i = true) (hw : Region.wanted oi (yielded ops a.tmps) = true)
  (h : ∀ K : Act → World → Prop, Shut (∀ a' w', (∀ b, i ∉ ds b → S b w → S b w') → wpAnyF r n P md ops Q S ds fuel l' a' w' → K a' w') → if Region.wanted oi (yielded ops a.tmps) = true then Oper.wp P oi a w K Q else K (a.put N undef) w) :
  wpAnyF r n P md ops Q S ds (fuel + 1) l a w := by
 have h2 := h (fun a' w' => (∀ b, i ∉ ds b → S b w → S b w') ∧ wpAnyF r n P md ops Q S ds fuel l' a' w') (fun a' w' h1 h2 => ⟨h1, h2⟩)
 rw [if_pos hw] at h2
 exact lastF l' hi hN hc hw (uponIn_fence h2)
/-- One that alone may come up, and yields in every world. -/
theorem nextF {i : Nat} {N : Option Tmp} {oi : Oper} {v : Value} {fuel : Nat} {l : Array Bool} {a : Act} {w : World} (l' : Array Bool) (hi : ops[i]? = some oi) (hN : oi.dst = N) (hc : readyB md ops l l' i = true)
  (hy : Yields P ops oi v a) {a' : Act} (ha : a.put N v = a') (h : wpAnyF r n P md ops Q S ds fuel l' a' w) : wpAnyF r n P md ops Q S ds (fuel + 1) l a w := by
 subst ha
 subst hN
 simp only [readyB, Bool.and_eq_true, beq_iff_eq] at hc
 obtain ⟨h1, h2⟩ := hc
 subst h2
 refine ⟨fun h0 => (by rw [h1] at h0; cases h0), fun j hj => ?_⟩
 rw [h1] at hj
 obtain rfl := List.mem_singleton.1 hj
 exact yieldsIf_F (S := fun _ => True) hi hy.yieldsIf trivial ⟨fun _ _ hS => hS, h⟩
theorem doneF {l : Array Bool} {a : Act} {w : World} {m : Nat} (hr : (Region.ready md ops l == []) = true) (h : Q .normal a w) : wpAnyF r n P md ops Q S ds m l a w := by
 have hr' : Region.ready md ops l = [] := by simpa using hr
 cases m with
 | zero => exact ⟨hr', h⟩
 | succ m => exact ⟨fun _ => h, by rw [hr']; simp⟩
theorem normF {fuel : Nat} {l : Array Bool} {a a' : Act} {w : World} (ha : a = a') (h : wpAnyF r n P md ops Q S ds fuel l a' w) : wpAnyF r n P md ops Q S ds fuel l a w := by
 subst ha
 exact h
end
def two {α : Type} (x y : α) : Bool → α
 | true => x
 | false => y
section
variable {r : Option Nat} {n : Nat} {P : Program} {ops : Array Oper} {Q : Exit → Act → World → Prop} {md : Region.Mode} {S1 S2 : World → Prop} {d1 d2 : List Nat}
theorem start2 {id k : Nat} {a : Act} {w : World} (S1 S2 : World → Prop) (d1 d2 : List Nat) (l : Array Bool) (hd : ops.toList.all noDefer = true) (hm : P.follows .mixedOrders = true) (hn : ops.size = k) (hl : Array.replicate k false = l) (h1 : S1 w.drew) (h2 : S2 w.drew)
  (h : S1 w.drew → S2 w.drew → wpAnyF r n P .any ops Q (two S1 S2) (two d1 d2) k l a w.drew) : (Code.region id ops true).wpIn (fence r) n P Q a w :=
 startF l hd hm hn hl (two S1 S2) (two d1 d2) (fun b => by cases b <;> assumption) (fun _ => h h1 h2)
theorem takeA {i : Nat} {N : Option Tmp} {oi : Oper} {v : Value} {fuel : Nat} {l : Array Bool} {a : Act} {w : World} (l' : Array Bool) (hi : ops[i]? = some oi) (hN : oi.dst = N) (hc : takeB md ops d1 l l' i = true)
  (hQ : ∀ c a w, Q (.panic c) (a.put oi.dst v) w → Q (.panic c) a w) (hy : YieldsIf P ops S1 oi v a) (hS : S1 w) {a' : Act} (ha : a.put N v = a')
  (h : wpAnyF r n P md ops Q (two S1 S2) (two d1 d2) fuel l' a' w) : wpAnyF r n P md ops Q (two S1 S2) (two d1 d2) (fuel + 1) l a w :=
 takeF (S := two S1 S2) (ds := two d1 d2) true l' hi hN hc hQ hy hS ha h
theorem takeC {i : Nat} {N : Option Tmp} {oi : Oper} {v : Value} {fuel : Nat} {l : Array Bool} {a : Act} {w : World} (l' : Array Bool) (hi : ops[i]? = some oi) (hN : oi.dst = N) (hc : takeB md ops d2 l l' i = true)
  (hQ : ∀ c a w, Q (.panic c) (a.put oi.dst v) w → Q (.panic c) a w) (hy : YieldsIf P ops S2 oi v a) (hS : S2 w) {a' : Act} (ha : a.put N v = a')
  (h : wpAnyF r n P md ops Q (two S1 S2) (two d1 d2) fuel l' a' w) : wpAnyF r n P md ops Q (two S1 S2) (two d1 d2) (fuel + 1) l a w :=
 takeF (S := two S1 S2) (ds := two d1 d2) false l' hi hN hc hQ hy hS ha h
theorem two_step {i : Nat} {w w' : World} (h1 : i ∉ d1 → S1 w') (h2 : i ∉ d2 → S2 w') : ∀ b, i ∉ two d1 d2 b → two S1 S2 b w → two S1 S2 b w'
 | true => fun h _ => h1 h
 | false => fun h _ => h2 h
end
section
variable {r : Option Nat} {n : Nat} {P : Program} {ops : Array Oper} {Q : Exit → Act → World → Prop} {md : Region.Mode} {S1 S2 : World → Prop} {d1 d2 : List Nat}
theorem oneP {i : Nat} {N : Option Tmp} {oi : Oper} {fuel : Nat} {l : Array Bool} {a : Act} {w : World} (l' : Array Bool) (hi : ops[i]? = some oi) (hN : oi.dst = N) (hc : readyB md ops l l' i = true) (hw : Region.wanted oi (yielded ops a.tmps) = true)
  (h : ∀ K : Act → World → Prop, Shut (∀ a' w', S1 w' → S2 w' → (S1 w' → S2 w' → wpAnyF r n P md ops Q (two S1 S2) (two d1 d2) fuel l' a' w') → K a' w') → if Region.wanted oi (yielded ops a.tmps) = true then Oper.wp P oi a w K Q else K (a.put N undef) w) :
  wpAnyF r n P md ops Q (two S1 S2) (two d1 d2) (fuel + 1) l a w :=
 oneF (S := two S1 S2) (ds := two d1 d2) l' hi hN hc hw (fun K hK => h K (fun a' w' h1 h2 h3 => hK a' w' (two_step (fun _ => h1) (fun _ => h2)) (h3 h1 h2)))
theorem oneQ {i : Nat} {N : Option Tmp} {oi : Oper} {fuel : Nat} {l : Array Bool} {a : Act} {w : World} (l' : Array Bool) (hi : ops[i]? = some oi) (hN : oi.dst = N) (hc : readyB md ops l l' i = true) (hw : Region.wanted oi (yielded ops a.tmps) = true) (hd : i ∈ d1)
  (h : ∀ K : Act → World → Prop, Shut (∀ a' w', S2 w' → (S2 w' → wpAnyF r n P md ops Q (two S1 S2) (two d1 d2) fuel l' a' w') → K a' w') → if Region.wanted oi (yielded ops a.tmps) = true then Oper.wp P oi a w K Q else K (a.put N undef) w) :
  wpAnyF r n P md ops Q (two S1 S2) (two d1 d2) (fuel + 1) l a w :=
 oneF (S := two S1 S2) (ds := two d1 d2) l' hi hN hc hw (fun K hK => h K (fun a' w' h2 h3 => hK a' w' (two_step (fun hn => absurd hd hn) (fun _ => h2)) (h3 h2)))
theorem oneR {i : Nat} {N : Option Tmp} {oi : Oper} {fuel : Nat} {l : Array Bool} {a : Act} {w : World} (l' : Array Bool) (hi : ops[i]? = some oi) (hN : oi.dst = N) (hc : readyB md ops l l' i = true) (hw : Region.wanted oi (yielded ops a.tmps) = true) (hd1 : i ∈ d1) (hd2 : i ∈ d2)
  (h : ∀ K : Act → World → Prop, Shut (∀ a' w', wpAnyF r n P md ops Q (two S1 S2) (two d1 d2) fuel l' a' w' → K a' w') → if Region.wanted oi (yielded ops a.tmps) = true then Oper.wp P oi a w K Q else K (a.put N undef) w) :
  wpAnyF r n P md ops Q (two S1 S2) (two d1 d2) (fuel + 1) l a w :=
 oneF (S := two S1 S2) (ds := two d1 d2) l' hi hN hc hw (fun K hK => h K (fun a' w' h3 => hK a' w' (two_step (fun hn => absurd hd1 hn) (fun hn => absurd hd2 hn)) h3))
end
/-! What a round of Learn's loop keeps: all cells but the two variables' boxes and the row that the slice in the first of them owns. -/
def rowAt (Bo : Nat) (W : World) : Option Nat := (W.cell? ⟨Bo, 0, none⟩).bind Value.ownBlock
structure Kq (n0 Bo Br : Nat) (W W' : World) : Prop where
 below : Below n0 W W'
 keep : ∀ k o, W.heap[k]? = some o → o.isCells = true → k ≠ Bo → k ≠ Br → some k ≠ rowAt Bo W → W'.heap[k]? = some o
 row : rowAt Bo W' = rowAt Bo W ∨ ∀ b, rowAt Bo W' = some b → W.heap.size ≤ b
 lt : (∀ b, rowAt Bo W = some b → b < W.heap.size) → ∀ b, rowAt Bo W' = some b → b < W'.heap.size
theorem Kq.trans {n0 Bo Br : Nat} {A B C : World} (h : Kq n0 Bo Br A B) (k : Kq n0 Bo Br B C) : Kq n0 Bo Br A C := by
 refine ⟨h.below.trans k.below, fun i o hi ho h1 h2 h3 => ?_, ?_, fun hl => k.lt (h.lt hl)⟩
 ·have hB := h.keep i o hi ho h1 h2 h3
  refine k.keep i o hB ho h1 h2 (fun e => ?_)
  rcases h.row with hr | hr
  ·exact h3 (e.trans hr)
  ·have := hr i e.symm
   have := (Array.getElem?_eq_some_iff.1 hi).1
   omega
 ·rcases k.row with hk | hk
  ·rcases h.row with hr | hr
   ·exact .inl (hk.trans hr)
   ·exact .inr (fun b hb => hr b (hk ▸ hb))
  ·exact .inr (fun b hb => Nat.le_trans h.below.size (hk b hb))
/-- A block of cells that is none of those stays, and stays none of those. -/
theorem Kq.blk {n0 Bo Br : Nat} {W W' : World} (h : Kq n0 Bo Br W W') {k : Nat} {cs : Array Value} {t : TypeId} (hk : W.heap[k]? = some (.cells cs t (0, 0))) (h1 : k ≠ Bo) (h2 : k ≠ Br) (h3 : some k ≠ rowAt Bo W) : W'.heap[k]? = some (.cells cs t (0, 0)) ∧ some k ≠ rowAt Bo W' := by
 refine ⟨h.keep k _ hk rfl h1 h2 h3, fun e => ?_⟩
 rcases h.row with hr | hr
 ·exact h3 (e.trans hr)
 ·have := hr k e.symm
  have := (Array.getElem?_eq_some_iff.1 hk).1
  omega
theorem rowAt_of {Bo : Nat} {W W' : World} (h : W'.heap[Bo]? = W.heap[Bo]?) : rowAt Bo W' = rowAt Bo W := by
 unfold rowAt
 rw [World.cell?_of_block (a := ⟨Bo, 0, none⟩) h]
theorem Kq.putObj {n0 Bo Br B : Nat} (hn : n0 ≤ B) (hB : Bo < B) (W : World) (l : Nat) (o o' : Obj) (hl : B ≤ l) (h : W.heap[l]? = some o) (hc : o.isCells = false) (_ : o.isWalk = false) : Kq n0 Bo Br W (W.putObj l o') := by
 have hg := grownBy_putObj' W l o'
 have hbo : ∀ (W : World) (l : Nat) (o o' : Obj), B ≤ l → W.heap[l]? = some o → (W.putObj l o').heap[Bo]? = W.heap[Bo]? := fun W l o o' hl h => by
  have hlt := (Array.getElem?_eq_some_iff.1 h).1
  exact (grownBy_putObj' W l o').block Bo (by omega) (fun e => by cases e; omega)
 refine ⟨(Below.refl n0 W).grown hg (by have := (Array.getElem?_eq_some_iff.1 h).1; omega) (fun k e => by cases e; omega), fun k o2 hk ho _ _ _ => ?_, .inl (rowAt_of (hbo W l o o' hl h)), fun hlt b hb => ?_⟩
 ·refine (hg.block k (Array.getElem?_eq_some_iff.1 hk).1 (fun e => ?_)).trans hk
  cases e
  rw [h] at hk
  cases hk
  rw [hc] at ho
  cases ho
 ·rw [rowAt_of (hbo W l o o' hl h)] at hb
  exact Nat.lt_of_lt_of_le (hlt b hb) hg.size
set_option maxHeartbeats 2000000 in
theorem down_news.calls (a b : Int) (A : Option Addr) (n c : Nat) (w : World) :
  Calls Try.prog 29 #[.int .i64 a, .int .i64 b, .slice A n c] w fun e w' => ∃ g, e = .returned (.func (.func 38) #[] #[.pointer (some ⟨g, 0, none⟩), .pointer (some ⟨g + 1, 0, none⟩), .pointer (some ⟨g + 2, 0, none⟩)]) ∧ w.heap.size ≤ g ∧
   w'.heap[g]? = some (.cells #[.int .i64 a] 3 (0, 0)) ∧ w'.heap[g + 1]? = some (.cells #[.int .i64 b] 3 (0, 0)) ∧ w'.heap[g + 2]? = some (.cells #[.slice A n c] 22 (0, 0)) ∧ Below w.heap.size w w' := by
 go_enter Try.func29, Try.ntmps29
 go_wp2
 go_ret
 have h1 := World.alloc_heap_new w (.cells #[.int .i64 a] 3)
 have h2 := World.alloc_heap_new (w.alloc (.cells #[.int .i64 a] 3)) (.cells #[.int .i64 b] 3)
 have h3 := World.alloc_heap_new ((w.alloc (.cells #[.int .i64 a] 3)).alloc (.cells #[.int .i64 b] 3)) (.cells #[.slice A n c] 22)
 simp only [World.size_alloc] at h2 h3
 refine ⟨_, rfl, Nat.le_refl _, ?_, ?_, h3, below_alloc (below_alloc (below_alloc (Below.refl _ _) _) _) _⟩
 ·exact blk_alloc (blk_alloc h1 _) _
 ·exact blk_alloc h2 _
def enc35 (x : S35) : Array Value := #[.agg #[.int .i64 x.f0, .int .i64 x.f1, .int .i64 x.f2, .int .i64 x.f3]]
/-- What the iterator knows of the world between two rounds. -/
structure NS (n0 Bo Br B1 B2 B3 B4 : Nat) (child seq : Int) (A3 : Option Addr) (n3 c3 : Nat) (w0 wr : World) : Prop where
 b1 : wr.heap[B1]? = some (.cells #[.int .i64 child] 3 (0, 0))
 b2 : wr.heap[B2]? = some (.cells #[.int .i64 seq] 3 (0, 0))
 b3 : wr.heap[B3]? = some (.cells #[.slice A3 n3 c3] 22 (0, 0))
 b4 : wr.heap[B4]? = some (.cells #[.int .i64 child, .int .i64 0, .int .i64 seq, .int .i64 0] 35 (0, 0))
 r1 : some B1 ≠ rowAt Bo wr
 r2 : some B2 ≠ rowAt Bo wr
 r3 : some B3 ≠ rowAt Bo wr
 r4 : some B4 ≠ rowAt Bo wr
 d1 : B1 ≠ Bo ∧ B1 ≠ Br
 d2 : B2 ≠ Bo ∧ B2 ≠ Br
 d3 : B3 ≠ Bo ∧ B3 ≠ Br
 d4 : B4 ≠ Bo ∧ B4 ≠ Br
 lo : Bo < wr.heap.size
 lr : Br < wr.heap.size
 ro : ∀ b, rowAt Bo wr = some b → b < wr.heap.size
 low : Below n0 w0 wr
theorem NS.grow {n0 Bo Br B1 B2 B3 B4 : Nat} {child seq : Int} {A3 : Option Addr} {n3 c3 : Nat} {w0 wr W : World} (h : NS n0 Bo Br B1 B2 B3 B4 child seq A3 n3 c3 w0 wr) (hn : n0 ≤ wr.heap.size) (hg : wr.grownBy W none) : NS n0 Bo Br B1 B2 B3 B4 child seq A3 n3 c3 w0 W := by
 have mv : ∀ {k : Nat} {cs : Array Value} {t : TypeId}, wr.heap[k]? = some (.cells cs t (0, 0)) → W.heap[k]? = some (.cells cs t (0, 0)) := fun {k cs t} hk => (hg.block k (blk_lt hk) (by simp)).trans hk
 have hr : rowAt Bo W = rowAt Bo wr := rowAt_of (hg.block Bo h.lo (by simp))
 refine ⟨mv h.b1, mv h.b2, mv h.b3, mv h.b4, by rw [hr]; exact h.r1, by rw [hr]; exact h.r2, by rw [hr]; exact h.r3, by rw [hr]; exact h.r4, h.d1, h.d2, h.d3, h.d4, Nat.lt_of_lt_of_le h.lo hg.size, Nat.lt_of_lt_of_le h.lr hg.size, fun b hb => Nat.lt_of_lt_of_le (h.ro b (by rw [← hr]; exact hb)) hg.size, h.low.trans ((Below.refl n0 wr).grown hg hn (by simp))⟩
theorem NS.step {n0 Bo Br B1 B2 B3 B4 : Nat} {child seq : Int} {A3 : Option Addr} {n3 c3 : Nat} {w0 wr W : World} (h : NS n0 Bo Br B1 B2 B3 B4 child seq A3 n3 c3 w0 wr) (hk : Kq n0 Bo Br wr W) : NS n0 Bo Br B1 B2 B3 B4 child seq A3 n3 c3 w0 W := by
 obtain ⟨a1, a2⟩ := hk.blk h.b1 h.d1.1 h.d1.2 h.r1
 obtain ⟨a3, a4⟩ := hk.blk h.b2 h.d2.1 h.d2.2 h.r2
 obtain ⟨a5, a6⟩ := hk.blk h.b3 h.d3.1 h.d3.2 h.r3
 obtain ⟨a7, a8⟩ := hk.blk h.b4 h.d4.1 h.d4.2 h.r4
 exact ⟨a1, a3, a5, a7, a2, a4, a6, a8, h.d1, h.d2, h.d3, h.d4, Nat.lt_of_lt_of_le h.lo hk.below.size, Nat.lt_of_lt_of_le h.lr hk.below.size, hk.lt h.ro, h.low.trans hk.below⟩
def prv (l : List S35) (k : Nat) : Option Int := if k = 0 then none else some (l.getD (k - 1) z35).f0
def ownS (child seq : Int) : S35 := ⟨child, 0, seq, 0⟩
theorem newsL_end (child seq : Int) (p : Option Int) : newsL child seq p [] = if p.all (fun q => decide (q < child)) = true then [ownS child seq] else [] := rfl
theorem newsL_at {child seq : Int} {l : List S35} {k : Nat} (h : k < l.length) : newsL child seq (prv l k) (l.drop k) = (if (l.getD k z35).f0 > child ∧ (prv l k).all (fun q => decide (q < child)) = true then [ownS child seq] else []) ++ l.getD k z35 :: newsL child seq (prv l (k + 1)) (l.drop (k + 1)) := by
 have hd : l.drop k = l.getD k z35 :: l.drop (k + 1) := by rw [List.drop_eq_getElem_cons h]; simp [List.getD_eq_getElem?_getD, h]
 rw [hd]
 have hp : prv l (k + 1) = some (l.getD k z35).f0 := by unfold prv; rw [if_neg (by omega), Nat.add_sub_cancel]
 rw [hp]
 rfl
/-- A new box of four numbers, filled. -/
theorem box35_set {W w3 : World} {gx : Nat} (hgx : gx = W.heap.size) (hb3 : Below W.heap.size W w3) (hbx : w3.heap[gx]? = some (.cells #[.int .i64 0, .int .i64 0, .int .i64 0, .int .i64 0] 35 (0, 0))) (y : S35) {wc : World}
  (hw : (((w3.setCell ⟨gx, 0, none⟩ (.int .i64 y.f0)).setCell ⟨gx, 1, none⟩ (.int .i64 y.f1)).setCell ⟨gx, 2, none⟩ (.int .i64 y.f2)).setCell ⟨gx, 3, none⟩ (.int .i64 y.f3) = wc) :
  wc.heap[gx]? = some (.cells #[.int .i64 y.f0, .int .i64 y.f1, .int .i64 y.f2, .int .i64 y.f3] 35 (0, 0)) ∧ W.grownBy wc none ∧ gx < wc.heap.size := by
 have hwc : wc = w3.setCells gx 0 [.int .i64 y.f0, .int .i64 y.f1, .int .i64 y.f2, .int .i64 y.f3] := hw.symm
 have hbx2 : wc.heap[gx]? = some (.cells #[.int .i64 y.f0, .int .i64 y.f1, .int .i64 y.f2, .int .i64 y.f3] 35 (0, 0)) := by
  obtain ⟨cur', h3, h4, h5⟩ := setCells_row [.int .i64 y.f0, .int .i64 y.f1, .int .i64 y.f2, .int .i64 y.f3] 0 w3 _ hbx (by simp)
  rw [hwc, h3]
  have : cur' = #[.int .i64 y.f0, .int .i64 y.f1, .int .i64 y.f2, .int .i64 y.f3] := Array.toList_inj.1 (by rw [h5]; rfl)
  rw [this]
 obtain ⟨s1, s2, s3, s4⟩ := setCells_same gx [.int .i64 y.f0, .int .i64 y.f1, .int .i64 y.f2, .int .i64 y.f3] 0 w3
 refine ⟨hbx2, ⟨by rw [hwc, s1]; exact hb3.os, by rw [hwc, s2]; exact hb3.tape, by rw [hwc, s3]; exact hb3.output, by rw [hwc, s4]; exact hb3.size, fun k hk _ => ?_⟩, blk_lt hbx2⟩
 rw [hwc]
 exact (setCells_far _ _ k (by omega)).trans (hb3.block k hk)
set_option maxRecDepth 100000 in
set_option maxHeartbeats 4000000 in
theorem news_in (n l n0 Bo Br B1 B2 B3 : Nat) (child seq : Int) (A3 : Option Addr) (c3 : Nat) (l3 : List S35) (w0 : World) (hn0 : n0 = w0.heap.size) (hl3 : Kd.C k35 w0 A3 l3.length l3) (J Jx : List S35 → World → Prop)
  (hY : ∀ pre x W, J pre W → pre.length < (newsL child seq none l3).length → YieldAt Fence.wide (n - 1) Try.prog l (enc35 x) W fun e W' =>
   (e = .returned (.bool true) ∧ J (pre ++ [x]) W' ∧ Kq n0 Bo Br W W') ∨ (e = .returned (.bool false) ∧ Jx (pre ++ [x]) W'))
  (hJ : ∀ s W W', J s W → W.grownBy W' none → J s W')
  (W : World) (hb1 : W.heap[B1]? = some (.cells #[.int .i64 child] 3 (0, 0))) (hb2 : W.heap[B2]? = some (.cells #[.int .i64 seq] 3 (0, 0))) (hb3 : W.heap[B3]? = some (.cells #[.slice A3 l3.length c3] 22 (0, 0)))
  (d1 : B1 ≠ Bo ∧ B1 ≠ Br) (d2 : B2 ≠ Bo ∧ B2 ≠ Br) (d3 : B3 ≠ Bo ∧ B3 ≠ Br) (hrow : rowAt Bo W = none) (hBo : Bo < W.heap.size) (hBr : Br < W.heap.size) (hw0 : Below n0 w0 W) (h0 : J [] W) :
  CallsIn Fence.wide n Try.prog 38 #[.func (.yield l) #[] #[], .pointer (some ⟨B1, 0, none⟩), .pointer (some ⟨B2, 0, none⟩), .pointer (some ⟨B3, 0, none⟩)] W fun e W' => (∃ v, e = .returned v) ∧
   ((∃ xs, xs = newsL child seq none l3 ∧ J xs W') ∨ (∃ pre, True ∧ Jx pre W')) := by
 have c1 : W.cell? ⟨B1, 0, none⟩ = some (.int .i64 child) := blk_cell' hb1 0 _ rfl
 have c2 : W.cell? ⟨B2, 0, none⟩ = some (.int .i64 seq) := blk_cell' hb2 0 _ rfl
 have hn : Aside0 (n0 ≤ W.heap.size) := ⟨by rw [hn0]; exact hw0.size⟩
 have NS1 : ∀ W1, W1.heap[W.heap.size]? = some (.cells #[.int .i64 child, .int .i64 0, .int .i64 seq, .int .i64 0] 35 (0, 0)) → W.grownBy W1 none → NS n0 Bo Br B1 B2 B3 W.heap.size child seq A3 l3.length c3 w0 W1 := fun W1 hb hg => by
  have mv : ∀ {k : Nat} {cs : Array Value} {t : TypeId}, W.heap[k]? = some (.cells cs t (0, 0)) → W1.heap[k]? = some (.cells cs t (0, 0)) := fun {k cs t} hk => (hg.block k (blk_lt hk) (by simp)).trans hk
  have hr : rowAt Bo W1 = none := (rowAt_of (hg.block Bo hBo (by simp))).trans hrow
  have hs := hg.size
  exact ⟨mv hb1, mv hb2, mv hb3, hb, by rw [hr]; simp, by rw [hr]; simp, by rw [hr]; simp, by rw [hr]; simp, d1, d2, d3, ⟨by omega, by omega⟩, by omega, by omega, by rw [hr]; simp, hw0.trans ((Below.refl n0 W).grown hg hn.out (by simp))⟩
 have NS0 := Aside0.mk NS1
 have HJ0 := Aside0.mk (hJ [] W)
 have H00 := Aside0.mk h0
 have HJ := Aside0.mk hJ
 have HY := Aside0.mk hY
 have HN0 := Aside0.mk hn0
 have HL3 := Aside0.mk hl3
 clear hJ hY hn0 hl3 hrow hw0 h0 hb1 hb2 hb3 NS1 d1 d2 d3
 refine callsIn_of_wp Try.func38 rfl trivial ?_ rfl
 simp only [Try.ntmps38, List.size_toArray, List.length_cons, List.length_nil, Nat.reduceAdd, Nat.reduceSub, Array.replicate_succ, Array.replicate_zero, List.push_toArray, List.append_toArray, List.nil_append, List.cons_append]
 refine wpIn_seq ?_
 refine region_fence (r := none) (by rintro ⟨a, w, h⟩; exact absurd h.1 (by simp)) (by decide) ?_
 go_wp2_with ((with_reducible refine gate_dst (N := 5) rfl ?_); refine box_event ?hg (N := 5) ?hd (cs := #[.int .i64 0, .int .i64 0, .int .i64 0, .int .i64 0]) (t := 35) ?hr ?_; (case hd => rfl); (case hg => rfl); (case hr => first | (go_simp; done) | (go_simp; rfl)); intro gx hgx w3 hbox hb3; have BX := Aside0.mk hbox; have HB3 := Aside0.mk hb3; have GX := Aside0.mk hgx; have s0 : w3.cell? ⟨gx, 0, none⟩ = some (.int .i64 0) := blk_cell' BX.out 0 _ rfl; have s1 : w3.cell? ⟨gx, 1, none⟩ = some (.int .i64 0) := blk_cell' BX.out 1 _ rfl; have s2 : w3.cell? ⟨gx, 2, none⟩ = some (.int .i64 0) := blk_cell' BX.out 2 _ rfl; have s3 : w3.cell? ⟨gx, 3, none⟩ = some (.int .i64 0) := blk_cell' BX.out 3 _ rfl; have f0 := blk_frozen BX.out 0; have f1 := blk_frozen BX.out 1; have f2 := blk_frozen BX.out 2; have f3 := blk_frozen BX.out 3; clear hb3 hbox hgx)
 generalize hw1 : (((w3.setCell ⟨gx, 0, none⟩ _).setCell ⟨gx, 1, none⟩ _).setCell ⟨gx, 2, none⟩ _).setCell ⟨gx, 3, none⟩ _ = W1
 obtain ⟨hx, hgr, hlt⟩ := box35_set GX.out HB3.out BX.out (ownS child seq) hw1
 have NSI := Aside0.mk (NS0.out W1 (by rw [← GX.out]; exact hx) hgr)
 have HJI := Aside0.mk (HJ0.out W1 H00.out hgr)
 clear hx hgr hlt hw1 s0 s1 s2 s3 f0 f1 f2 f3 BX HB3
 obtain rfl := GX.out
 clear GX NS0 HJ0 H00
 have c3' : W1.cell? ⟨B3, 0, none⟩ = some (.slice A3 l3.length c3) := blk_cell' NSI.out.b3 0 _ rfl
 clear c1 c2
 generalize hB4 : W.heap.size = B4 at NSI hn hBo hBr ⊢
 clear hB4
 gi_wp2
 have hbig : l3.length ≤ 9223372036854775807 := by
  have := HL3.out.2.1
  omega
 gi_loopw [13] (fun i wr => ∃ (k : Nat) (pre : List S35), k ≤ l3.length ∧ i = .int .i64 k ∧ Aside0 (J pre wr) ∧ Aside0 (pre ++ newsL child seq (prv l3 k) (l3.drop k) = newsL child seq none l3) ∧ Aside0 (NS n0 Bo Br B1 B2 B3 B4 child seq A3 l3.length c3 w0 wr))
  (fun i _ => l3.length - (intOf i).toNat)
 case atStart => exact ⟨0, [], Nat.zero_le _, rfl, HJI, ⟨rfl⟩, NSI⟩
 case round =>
  obtain ⟨k, pre, hk, rfl, JP, PR, NI⟩ := hrel
  have HN : Aside0 (n0 ≤ wr.heap.size) := ⟨by rw [HN0.out]; exact NI.out.low.size⟩
  by_cases hlt : k < l3.length
  ·have hltz : (k : Int) < (l3.length : Int) := by omega
   obtain ⟨ad, hA, h0, h1, h2, h3⟩ := at_T35 HL3.out k (by omega) hltz
   subst hA
   have bl : ∀ {p : Addr} {v : Value}, w0.cell? p = some v → wr.cell? p = some v := fun {p v} h => (NI.out.low.cell (by rw [HN0.out]; exact World.block_lt_of_cell? w0 _ h)).trans h
   replace h0 := bl h0
   replace h1 := bl h1
   replace h2 := bl h2
   replace h3 := bl h3
   have hel : rd_T35 l3 k = l3.getD k z35 := by simp [rd_T35]
   simp only [Int.toNat_natCast] at h0 h1 h2 h3
   generalize hy : rd_T35 l3 k = d at h0 h1 h2 h3 hel
   have EY := Aside0.mk hel
   have PX : Aside0 (k ≠ 0 → wr.cell? (ad.add ((k - 1) * 4)) = some (.int .i64 (l3.getD (k - 1) z35).f0)) := ⟨fun hk0 => by
    obtain ⟨ad', hA, g0, _⟩ := at_T35 HL3.out ((k - 1 : Nat) : Int) (by omega) (by omega)
    cases hA
    have := bl g0
    simpa [rd_T35] using this⟩
   clear hel hy bl
   refine wpIn_seq ?_
   refine region_fence (r := none) (by rintro ⟨a, w, h⟩; exact absurd h.1 (by simp)) (by decide) ?_
   go_wp2
   refine wpIn_seq ?_
   refine wpIn_cond_true rfl ?_
   refine wpIn_skip ?_
   refine wpIn_seq ?_
   refine wpIn_block ?_
   refine wpIn_seq ?_
   refine region_fence (r := none) (by rintro ⟨a, w, h⟩; exact absurd h.1 (by simp)) (by decide) ?_
   go_wp2_with ((with_reducible refine gate_dst (N := 7) rfl ?_); refine box_event ?hg (N := 7) ?hd (cs := #[.int .i64 0, .int .i64 0, .int .i64 0, .int .i64 0]) (t := 35) ?hr ?_; (case hd => rfl); (case hg => rfl); (case hr => first | (go_simp; done) | (go_simp; rfl)); intro gx hgx w3 hbox hb3; have BX := Aside0.mk hbox; have HB3 := Aside0.mk hb3; have GX := Aside0.mk hgx; have s0 : w3.cell? ⟨gx, 0, none⟩ = some (.int .i64 0) := blk_cell' BX.out 0 _ rfl; have s1 : w3.cell? ⟨gx, 1, none⟩ = some (.int .i64 0) := blk_cell' BX.out 1 _ rfl; have s2 : w3.cell? ⟨gx, 2, none⟩ = some (.int .i64 0) := blk_cell' BX.out 2 _ rfl; have s3 : w3.cell? ⟨gx, 3, none⟩ = some (.int .i64 0) := blk_cell' BX.out 3 _ rfl; have f0 := blk_frozen BX.out 0; have f1 := blk_frozen BX.out 1; have f2 := blk_frozen BX.out 2; have f3 := blk_frozen BX.out 3; clear hb3 hbox hgx)
   generalize hw1 : (((w3.setCell ⟨gx, 0, none⟩ _).setCell ⟨gx, 1, none⟩ _).setCell ⟨gx, 2, none⟩ _).setCell ⟨gx, 3, none⟩ _ = W2
   obtain ⟨hx, hgr, hl2⟩ := box35_set GX.out HB3.out BX.out d hw1
   have NI2 := Aside0.mk (NI.out.grow HN.out hgr)
   have JP2 := Aside0.mk (HJ.out _ _ _ JP.out hgr)
   have X2 := Aside0.mk hx
   have XR : Aside0 (some gx ≠ rowAt Bo W2 ∧ gx ≠ Bo ∧ gx ≠ Br) := ⟨by
    have h1 := NI.out.lo
    have h2 := NI.out.lr
    have h3 := GX.out
    refine ⟨fun e => ?_, by omega, by omega⟩
    rw [rowAt_of (hgr.block Bo h1 (by simp))] at e
    have := NI.out.ro gx e.symm
    omega⟩
   have PX2 : Aside0 (k ≠ 0 → W2.cell? (ad.add ((k - 1) * 4)) = some (.int .i64 (l3.getD (k - 1) z35).f0)) := ⟨fun hk0 => by
    have h := PX.out hk0
    rw [← h]
    exact World.cell?_of_block (hgr.block _ (World.block_lt_of_cell? wr _ h) (by simp))⟩
   have GX2 := Aside0.mk (show n0 ≤ W2.heap.size from Nat.le_trans HN.out hgr.size)
   clear hx hgr hl2 hw1 s0 s1 s2 s3 f0 f1 f2 f3 BX HB3 h0 h1 h2 h3 PX GX HN
   have x0 : W2.cell? ⟨gx, 0, none⟩ = some (.int .i64 d.f0) := blk_cell' X2.out 0 _ rfl
   have q1 : W2.cell? ⟨B1, 0, none⟩ = some (.int .i64 child) := blk_cell' NI2.out.b1 0 _ rfl
   have q3 : W2.cell? ⟨B3, 0, none⟩ = some (.slice (some ad) l3.length c3) := blk_cell' NI2.out.b3 0 _ rfl
   refine wpIn_seq ?_
   refine wpIn_seq ?_
   by_cases hc : d.f0 > child
   ·have hcd := decide_eq_true hc
    by_cases hk0 : k = 0
    ·have hkz : ((k : Int) == 0) = true := by simp [hk0]
     have JP3 := Aside0.mk (HJ.out _ _ W2.drew JP2.out ⟨rfl, rfl, rfl, Nat.le_refl _, fun _ _ _ => rfl⟩)
     have NI3 := Aside0.mk (NI2.out.grow GX2.out ⟨rfl, rfl, rfl, Nat.le_refl _, fun _ _ _ => rfl⟩ : NS n0 Bo Br B1 B2 B3 B4 child seq (some ad) l3.length c3 w0 W2.drew)
     have X3 : Aside0 (W2.drew.heap[gx]? = some (.cells #[.int .i64 d.f0, .int .i64 d.f1, .int .i64 d.f2, .int .i64 d.f3] 35 (0, 0))) := ⟨X2.out⟩
     have PRo : Aside0 ((pre ++ [ownS child seq]) ++ d :: newsL child seq (prv l3 (k + 1)) (l3.drop (k + 1)) = newsL child seq none l3) := ⟨by
      have h := PR.out
      rw [newsL_at hlt, ← EY.out, if_pos (⟨hc, by rw [hk0]; rfl⟩)] at h
      rw [List.append_assoc]
      exact h⟩
     obtain ⟨fno, tmo, aso, bdo, hyo, hRo⟩ := HY.out pre (ownS child seq) W2.drew JP3.out (by have h := congrArg List.length PRo.out; simp only [List.length_append, List.length_cons] at h; omega)
     dsimp only [enc35, ownS] at hyo
     have y0 : W2.cell? ⟨B4, 0, none⟩ = some (.int .i64 child) := blk_cell' NI2.out.b4 0 _ rfl
     have y1 : W2.cell? ⟨B4, 1, none⟩ = some (.int .i64 0) := blk_cell' NI2.out.b4 1 _ rfl
     have y2 : W2.cell? ⟨B4, 2, none⟩ = some (.int .i64 seq) := blk_cell' NI2.out.b4 2 _ rfl
     have y3 : W2.cell? ⟨B4, 3, none⟩ = some (.int .i64 0) := blk_cell' NI2.out.b4 3 _ rfl
     clear hk0 JP NI PR JP2 NI2 X2 GX2
     refine start2 (r := none) (k := 24) (fun w' => w'.cell? ⟨gx, 0, none⟩ = some (.int .i64 d.f0) ∧ w'.cell? ⟨B1, 0, none⟩ = some (.int .i64 child) ∧ w'.cell? ⟨B4, 0, none⟩ = some (.int .i64 child) ∧ w'.cell? ⟨B4, 1, none⟩ = some (.int .i64 0) ∧ w'.cell? ⟨B4, 2, none⟩ = some (.int .i64 seq) ∧ w'.cell? ⟨B4, 3, none⟩ = some (.int .i64 0)) (fun w' => True) [21] [21] #[false, false, false, false, false, false, false, false, false, false, false, false, false, false, false, false, false, false, false, false, false, false, false, false] (by decide) (by kernel_rfl) rfl rfl ⟨x0, q1, y0, y1, y2, y3⟩ trivial (fun hHeld hHeld2 => ?_)
     refine takeA (i := 0) (N := some 18) (v := ?_) (a' := ?_) #[true, false, false, false, false, false, false, false, false, false, false, false, false, false, false, false, false, false, false, false, false, false, false, false] rfl rfl (by kernel_rfl) (fun _ _ _ h => h) (Or.inl ⟨by rfl, ?_⟩) hHeld ?_ ?_
     rotate_left
     ·rintro w' ⟨s0, s1, s2, s3, s4, s5⟩
      go_simp
      with_reducible rfl
     rotate_left
     ·simp only [Act.put, List.setIfInBounds_toArray, List.set_cons_zero, List.set_cons_succ, i64_w, i32_w]
      rfl
     refine takeA (i := 1) (N := some 19) (v := ?_) (a' := ?_) #[true, true, false, false, false, false, false, false, false, false, false, false, false, false, false, false, false, false, false, false, false, false, false, false] rfl rfl (by kernel_rfl) (fun _ _ _ h => h) (Or.inl ⟨by rfl, ?_⟩) hHeld ?_ ?_
     rotate_left
     ·rintro w' ⟨s0, s1, s2, s3, s4, s5⟩
      go_simp
      with_reducible rfl
     rotate_left
     ·simp only [Act.put, List.setIfInBounds_toArray, List.set_cons_zero, List.set_cons_succ, i64_w, i32_w]
      rfl
     refine takeA (i := 2) (N := some 20) (v := ?_) (a' := ?_) #[true, true, true, false, false, false, false, false, false, false, false, false, false, false, false, false, false, false, false, false, false, false, false, false] rfl rfl (by kernel_rfl) (fun _ _ _ h => h) (Or.inl ⟨by rfl, ?_⟩) hHeld ?_ ?_
     rotate_left
     ·rintro w' ⟨s0, s1, s2, s3, s4, s5⟩
      go_simp
      with_reducible rfl
     rotate_left
     ·simp only [Act.put, List.setIfInBounds_toArray, List.set_cons_zero, List.set_cons_succ, i64_w, i32_w]
      rfl
     refine takeA (i := 3) (N := some 21) (v := ?_) (a' := ?_) #[true, true, true, true, false, false, false, false, false, false, false, false, false, false, false, false, false, false, false, false, false, false, false, false] rfl rfl (by kernel_rfl) (fun _ _ _ h => h) (Or.inl ⟨by rfl, ?_⟩) hHeld ?_ ?_
     rotate_left
     ·rintro w' ⟨s0, s1, s2, s3, s4, s5⟩
      go_simp
      with_reducible rfl
     rotate_left
     ·simp only [Act.put, List.setIfInBounds_toArray, List.set_cons_zero, List.set_cons_succ, i64_w, i32_w]
      rfl
     refine takeA (i := 4) (N := some 22) (v := ?_) (a' := ?_) #[true, true, true, true, true, false, false, false, false, false, false, false, false, false, false, false, false, false, false, false, false, false, false, false] rfl rfl (by kernel_rfl) (fun _ _ _ h => h) (Or.inl ⟨by rfl, ?_⟩) hHeld ?_ ?_
     rotate_left
     ·rintro w' ⟨s0, s1, s2, s3, s4, s5⟩
      go_simp
      with_reducible rfl
     rotate_left
     ·simp only [Act.put, List.setIfInBounds_toArray, List.set_cons_zero, List.set_cons_succ, i64_w, i32_w]
      rfl
     refine takeA (i := 5) (N := some 23) (v := ?_) (a' := ?_) #[true, true, true, true, true, true, false, false, false, false, false, false, false, false, false, false, false, false, false, false, false, false, false, false] rfl rfl (by kernel_rfl) (fun _ _ _ h => h) (Or.inl ⟨by rfl, ?_⟩) hHeld ?_ ?_
     rotate_left
     ·rintro w' ⟨s0, s1, s2, s3, s4, s5⟩
      go_simp
      with_reducible rfl
     rotate_left
     ·simp only [Act.put, List.setIfInBounds_toArray, List.set_cons_zero, List.set_cons_succ, i64_w, i32_w]
      rfl
     refine takeA (i := 6) (N := some 24) (v := ?_) (a' := ?_) #[true, true, true, true, true, true, true, false, false, false, false, false, false, false, false, false, false, false, false, false, false, false, false, false] rfl rfl (by kernel_rfl) (fun _ _ _ h => h) (Or.inl ⟨by rfl, ?_⟩) hHeld ?_ ?_
     rotate_left
     ·rintro w' ⟨s0, s1, s2, s3, s4, s5⟩
      go_simp
      with_reducible rfl
     rotate_left
     ·simp only [Act.put, List.setIfInBounds_toArray, List.set_cons_zero, List.set_cons_succ, i64_w, i32_w]
      rfl
     refine takeA (i := 7) (N := some 25) (v := ?_) (a' := ?_) #[true, true, true, true, true, true, true, true, false, false, false, false, false, false, false, false, false, false, false, false, false, false, false, false] rfl rfl (by kernel_rfl) (fun _ _ _ h => h) (Or.inl ⟨by rfl, ?_⟩) hHeld ?_ ?_
     rotate_left
     ·rintro w' ⟨s0, s1, s2, s3, s4, s5⟩
      go_simp
      with_reducible rfl
     rotate_left
     ·simp only [Act.put, List.setIfInBounds_toArray, List.set_cons_zero, List.set_cons_succ, i64_w, i32_w]
      rfl
     refine takeA (i := 8) (N := some 26) (v := undef) (a' := ?_) #[true, true, true, true, true, true, true, true, true, false, false, false, false, false, false, false, false, false, false, false, false, false, false, false] rfl rfl (by kernel_rfl) (fun _ _ _ h => h) (Or.inr ⟨by rfl, rfl⟩) hHeld ?_ ?_
     rotate_left
     ·simp only [Act.put, List.setIfInBounds_toArray, List.set_cons_zero, List.set_cons_succ, i64_w, i32_w]
      rfl
     refine takeA (i := 9) (N := some 27) (v := undef) (a' := ?_) #[true, true, true, true, true, true, true, true, true, true, false, false, false, false, false, false, false, false, false, false, false, false, false, false] rfl rfl (by kernel_rfl) (fun _ _ _ h => h) (Or.inr ⟨by rfl, rfl⟩) hHeld ?_ ?_
     rotate_left
     ·simp only [Act.put, List.setIfInBounds_toArray, List.set_cons_zero, List.set_cons_succ, i64_w, i32_w]
      rfl
     refine takeA (i := 10) (N := some 28) (v := undef) (a' := ?_) #[true, true, true, true, true, true, true, true, true, true, true, false, false, false, false, false, false, false, false, false, false, false, false, false] rfl rfl (by kernel_rfl) (fun _ _ _ h => h) (Or.inr ⟨by rfl, rfl⟩) hHeld ?_ ?_
     rotate_left
     ·simp only [Act.put, List.setIfInBounds_toArray, List.set_cons_zero, List.set_cons_succ, i64_w, i32_w]
      rfl
     refine takeA (i := 11) (N := some 29) (v := undef) (a' := ?_) #[true, true, true, true, true, true, true, true, true, true, true, true, false, false, false, false, false, false, false, false, false, false, false, false] rfl rfl (by kernel_rfl) (fun _ _ _ h => h) (Or.inr ⟨by rfl, rfl⟩) hHeld ?_ ?_
     rotate_left
     ·simp only [Act.put, List.setIfInBounds_toArray, List.set_cons_zero, List.set_cons_succ, i64_w, i32_w]
      rfl
     refine takeA (i := 12) (N := some 30) (v := undef) (a' := ?_) #[true, true, true, true, true, true, true, true, true, true, true, true, true, false, false, false, false, false, false, false, false, false, false, false] rfl rfl (by kernel_rfl) (fun _ _ _ h => h) (Or.inr ⟨by rfl, rfl⟩) hHeld ?_ ?_
     rotate_left
     ·simp only [Act.put, List.setIfInBounds_toArray, List.set_cons_zero, List.set_cons_succ, i64_w, i32_w]
      rfl
     refine takeA (i := 13) (N := some 31) (v := undef) (a' := ?_) #[true, true, true, true, true, true, true, true, true, true, true, true, true, true, false, false, false, false, false, false, false, false, false, false] rfl rfl (by kernel_rfl) (fun _ _ _ h => h) (Or.inr ⟨by rfl, rfl⟩) hHeld ?_ ?_
     rotate_left
     ·simp only [Act.put, List.setIfInBounds_toArray, List.set_cons_zero, List.set_cons_succ, i64_w, i32_w]
      rfl
     refine takeA (i := 14) (N := some 32) (v := undef) (a' := ?_) #[true, true, true, true, true, true, true, true, true, true, true, true, true, true, true, false, false, false, false, false, false, false, false, false] rfl rfl (by kernel_rfl) (fun _ _ _ h => h) (Or.inr ⟨by rfl, rfl⟩) hHeld ?_ ?_
     rotate_left
     ·simp only [Act.put, List.setIfInBounds_toArray, List.set_cons_zero, List.set_cons_succ, i64_w, i32_w]
      rfl
     refine takeA (i := 15) (N := some 33) (v := undef) (a' := ?_) #[true, true, true, true, true, true, true, true, true, true, true, true, true, true, true, true, false, false, false, false, false, false, false, false] rfl rfl (by kernel_rfl) (fun _ _ _ h => h) (Or.inr ⟨by rfl, rfl⟩) hHeld ?_ ?_
     rotate_left
     ·simp only [Act.put, List.setIfInBounds_toArray, List.set_cons_zero, List.set_cons_succ, i64_w, i32_w]
      rfl
     refine takeA (i := 16) (N := some 34) (v := ?_) (a' := ?_) #[true, true, true, true, true, true, true, true, true, true, true, true, true, true, true, true, true, false, false, false, false, false, false, false] rfl rfl (by kernel_rfl) (fun _ _ _ h => h) (Or.inl ⟨by rfl, ?_⟩) hHeld ?_ ?_
     rotate_left
     ·rintro w' ⟨s0, s1, s2, s3, s4, s5⟩
      go_simp
      with_reducible rfl
     rotate_left
     ·simp only [Act.put, List.setIfInBounds_toArray, List.set_cons_zero, List.set_cons_succ, i64_w, i32_w]
      rfl
     refine takeA (i := 17) (N := some 35) (v := ?_) (a' := ?_) #[true, true, true, true, true, true, true, true, true, true, true, true, true, true, true, true, true, true, false, false, false, false, false, false] rfl rfl (by kernel_rfl) (fun _ _ _ h => h) (Or.inl ⟨by rfl, ?_⟩) hHeld ?_ ?_
     rotate_left
     ·rintro w' ⟨s0, s1, s2, s3, s4, s5⟩
      go_simp
      with_reducible rfl
     rotate_left
     ·simp only [Act.put, List.setIfInBounds_toArray, List.set_cons_zero, List.set_cons_succ, i64_w, i32_w]
      rfl
     refine takeA (i := 18) (N := some 36) (v := ?_) (a' := ?_) #[true, true, true, true, true, true, true, true, true, true, true, true, true, true, true, true, true, true, true, false, false, false, false, false] rfl rfl (by kernel_rfl) (fun _ _ _ h => h) (Or.inl ⟨by rfl, ?_⟩) hHeld ?_ ?_
     rotate_left
     ·rintro w' ⟨s0, s1, s2, s3, s4, s5⟩
      go_simp
      with_reducible rfl
     rotate_left
     ·simp only [Act.put, List.setIfInBounds_toArray, List.set_cons_zero, List.set_cons_succ, i64_w, i32_w]
      rfl
     refine takeA (i := 19) (N := some 37) (v := ?_) (a' := ?_) #[true, true, true, true, true, true, true, true, true, true, true, true, true, true, true, true, true, true, true, true, false, false, false, false] rfl rfl (by kernel_rfl) (fun _ _ _ h => h) (Or.inl ⟨by rfl, ?_⟩) hHeld ?_ ?_
     rotate_left
     ·rintro w' ⟨s0, s1, s2, s3, s4, s5⟩
      go_simp
      with_reducible rfl
     rotate_left
     ·simp only [Act.put, List.setIfInBounds_toArray, List.set_cons_zero, List.set_cons_succ, i64_w, i32_w]
      rfl
     refine takeA (i := 20) (N := some 38) (v := ?_) (a' := ?_) #[true, true, true, true, true, true, true, true, true, true, true, true, true, true, true, true, true, true, true, true, true, false, false, false] rfl rfl (by kernel_rfl) (fun _ _ _ h => h) (Or.inl ⟨by rfl, ?_⟩) hHeld ?_ ?_
     rotate_left
     ·rintro w' ⟨s0, s1, s2, s3, s4, s5⟩
      go_simp
      with_reducible rfl
     rotate_left
     ·simp only [Act.put, List.setIfInBounds_toArray, List.set_cons_zero, List.set_cons_succ, i64_w, i32_w]
      rfl
     refine lastF (i := 21) (N := some 39) #[true, true, true, true, true, true, true, true, true, true, true, true, true, true, true, true, true, true, true, true, true, true, false, false] rfl rfl (by kernel_rfl) (by rfl) ?_
     go_simp
     refine ⟨(fun h => (by cases h)), hRo.mono ?_⟩
     clear hRo hyo
     rintro e W4 hc4
     obtain ⟨b4, rfl, hb4⟩ : ∃ b : Bool, e = .returned (.bool b) ∧ ((b = true ∧ J (pre ++ [ownS child seq]) W4 ∧ Kq n0 Bo Br W2.drew W4) ∨ (b = false ∧ Jx (pre ++ [ownS child seq]) W4)) := by
      rcases hc4 with ⟨rfl, h1, h2⟩ | ⟨rfl, h1⟩
      ·exact ⟨true, rfl, .inl ⟨rfl, h1, h2⟩⟩
      ·exact ⟨false, rfl, .inr ⟨rfl, h1⟩⟩
     clear hc4
     have HB4 := Aside0.mk hb4
     clear hb4
     refine ⟨⟨fun h => absurd (show 21 ∈ [21] by decide) h, fun h => absurd (show 21 ∈ [21] by decide) h⟩, ?_⟩
     refine nextF (i := 22) (N := some 40) (v := ?_) (a' := ?_) #[true, true, true, true, true, true, true, true, true, true, true, true, true, true, true, true, true, true, true, true, true, true, true, false] rfl rfl (by kernel_rfl) (Or.inl ⟨by rfl, ?_⟩) ?_ ?_
     rotate_left
     ·intro w'
      go_simp
      with_reducible rfl
     rotate_left
     ·simp only [Act.put, List.setIfInBounds_toArray, List.set_cons_zero, List.set_cons_succ, i64_w, i32_w]
      rfl
     refine nextF (i := 23) (N := some 41) (v := ?_) (a' := ?_) #[true, true, true, true, true, true, true, true, true, true, true, true, true, true, true, true, true, true, true, true, true, true, true, true] rfl rfl (by kernel_rfl) (Or.inl ⟨by rfl, ?_⟩) ?_ ?_
     rotate_left
     ·intro w'
      go_simp
      with_reducible rfl
     rotate_left
     ·simp only [Act.put, List.setIfInBounds_toArray, List.set_cons_zero, List.set_cons_succ, i64_w, i32_w]
      rfl
     refine doneF (by kernel_rfl) ?_
     clear x0 q1 q3 y0 y1 y2 y3 hkz
     rcases HB4.out with ⟨rfl, hj4, hk4⟩ | ⟨rfl, hx4⟩
     ·have JP4 := Aside0.mk hj4
      have NI4 := Aside0.mk (NI3.out.step hk4)
      have X4 := Aside0.mk (hk4.blk X3.out XR.out.2.1 XR.out.2.2 XR.out.1).1
      clear hj4 hk4 HB4
      refine wpIn_cond_false rfl ?_
      refine wpIn_skip ?_
      have z0 : W4.cell? ⟨gx, 0, none⟩ = some (.int .i64 d.f0) := blk_cell' X4.out 0 _ rfl
      have z1 : W4.cell? ⟨gx, 1, none⟩ = some (.int .i64 d.f1) := blk_cell' X4.out 1 _ rfl
      have z2 : W4.cell? ⟨gx, 2, none⟩ = some (.int .i64 d.f2) := blk_cell' X4.out 2 _ rfl
      have z3 : W4.cell? ⟨gx, 3, none⟩ = some (.int .i64 d.f3) := blk_cell' X4.out 3 _ rfl
      obtain ⟨fn, tmps, assign, bdy, hy, hR⟩ := HY.out (pre ++ [ownS child seq]) d W4 JP4.out (by have h := congrArg List.length PRo.out; simp only [List.length_append, List.length_cons, List.length_nil] at h ⊢; omega)
      dsimp only [enc35] at hy
      show Code.wpIn _ _ _ _ _ _ _
      gi_wp2
      refine ⟨(fun h => (by cases h)), hR.mono ?_⟩
      clear hR hy z0 z1 z2 z3
      rintro e W5 (⟨rfl, hJ3, hk3⟩ | ⟨rfl, hJx3⟩)
      ·have hJ5 := Aside0.mk hJ3
       have NI5 := Aside0.mk (NI4.out.step hk3)
       clear hJ3 hk3
       gi_wp2
       go_roundw
       case rel => first | exact ⟨k + 1, (pre ++ [ownS child seq]) ++ [d], by omega, by go_num, hJ5, ⟨by rw [List.append_assoc]; exact PRo.out⟩, NI5⟩ | (refine ⟨.int .i64 k, .pointer (some ⟨gx, 0, none⟩), .int .i64 ((k : Int) + 1), ⟨k + 1, by omega, by go_num, (pre ++ [ownS child seq]) ++ [d], hJ5, ⟨by rw [List.append_assoc]; exact PRo.out⟩, NI5⟩, ?_⟩; (repeat apply Exists.intro); rfl)
       case measure => simp [intOf]; omega
      ·have hJ5 := Aside0.mk hJx3
       clear hJx3
       gi_wp2
       refine bodyPost_ret (results_none rfl _ _ _) rfl ?_
       exact ⟨⟨_, rfl⟩, .inr ⟨_, trivial, hJ5.out⟩⟩
     ·have HX4 := Aside0.mk hx4
      clear hx4 HB4
      show Code.wpIn _ _ _ _ _ _ _
      gi_wp2
      refine bodyPost_ret (results_none rfl _ _ _) rfl ?_
      exact ⟨⟨_, rfl⟩, .inr ⟨_, trivial, HX4.out⟩⟩
    ·have hkz : ((k : Int) == 0) = false := beq_eq_false_iff_ne.mpr (by omega)
     have px := PX2.out hk0
     have j0 : 0 ≤ (k : Int) - 1 := by omega
     have j1 : (k : Int) - 1 < (l3.length : Int) := by omega
     have j3 : 1 ≤ (k : Int) := by omega
     have j2 : IntKind.i64.wrap ((k : Int) - 1) = (k : Int) - 1 := IntWalk.i64_in _ (by omega)
     have hpv : prv l3 k = some (l3.getD (k - 1) z35).f0 := by unfold prv; rw [if_neg hk0]
     generalize (l3.getD (k - 1) z35).f0 = pv at px hpv
     have PV := Aside0.mk hpv
     have HK0 := Aside0.mk hk0
     clear hpv hk0
     by_cases hp : pv < child
     ·have hpd := decide_eq_true hp
      have JP3 := Aside0.mk (HJ.out _ _ W2.drew JP2.out ⟨rfl, rfl, rfl, Nat.le_refl _, fun _ _ _ => rfl⟩)
      have NI3 := Aside0.mk (NI2.out.grow GX2.out ⟨rfl, rfl, rfl, Nat.le_refl _, fun _ _ _ => rfl⟩ : NS n0 Bo Br B1 B2 B3 B4 child seq (some ad) l3.length c3 w0 W2.drew)
      have X3 : Aside0 (W2.drew.heap[gx]? = some (.cells #[.int .i64 d.f0, .int .i64 d.f1, .int .i64 d.f2, .int .i64 d.f3] 35 (0, 0))) := ⟨X2.out⟩
      have PRo : Aside0 ((pre ++ [ownS child seq]) ++ d :: newsL child seq (prv l3 (k + 1)) (l3.drop (k + 1)) = newsL child seq none l3) := ⟨by
       have h := PR.out
       rw [newsL_at hlt, ← EY.out, if_pos (⟨hc, by rw [PV.out]; simpa using hp⟩)] at h
       rw [List.append_assoc]
       exact h⟩
      obtain ⟨fno, tmo, aso, bdo, hyo, hRo⟩ := HY.out pre (ownS child seq) W2.drew JP3.out (by have h := congrArg List.length PRo.out; simp only [List.length_append, List.length_cons] at h; omega)
      dsimp only [enc35, ownS] at hyo
      have y0 : W2.cell? ⟨B4, 0, none⟩ = some (.int .i64 child) := blk_cell' NI2.out.b4 0 _ rfl
      have y1 : W2.cell? ⟨B4, 1, none⟩ = some (.int .i64 0) := blk_cell' NI2.out.b4 1 _ rfl
      have y2 : W2.cell? ⟨B4, 2, none⟩ = some (.int .i64 seq) := blk_cell' NI2.out.b4 2 _ rfl
      have y3 : W2.cell? ⟨B4, 3, none⟩ = some (.int .i64 0) := blk_cell' NI2.out.b4 3 _ rfl
      clear JP NI PR JP2 NI2 X2 GX2
      refine start2 (r := none) (k := 24) (fun w' => w'.cell? ⟨gx, 0, none⟩ = some (.int .i64 d.f0) ∧ w'.cell? ⟨B1, 0, none⟩ = some (.int .i64 child) ∧ w'.cell? ⟨B3, 0, none⟩ = some (.slice (some ad) l3.length c3) ∧ w'.cell? (ad.add ((k - 1) * 4)) = some (.int .i64 pv) ∧ w'.cell? ⟨B4, 0, none⟩ = some (.int .i64 child) ∧ w'.cell? ⟨B4, 1, none⟩ = some (.int .i64 0) ∧ w'.cell? ⟨B4, 2, none⟩ = some (.int .i64 seq) ∧ w'.cell? ⟨B4, 3, none⟩ = some (.int .i64 0)) (fun w' => True) [21] [21] #[false, false, false, false, false, false, false, false, false, false, false, false, false, false, false, false, false, false, false, false, false, false, false, false] (by decide) (by kernel_rfl) rfl rfl ⟨x0, q1, q3, px, y0, y1, y2, y3⟩ trivial (fun hHeld hHeld2 => ?_)
      refine takeA (i := 0) (N := some 18) (v := ?_) (a' := ?_) #[true, false, false, false, false, false, false, false, false, false, false, false, false, false, false, false, false, false, false, false, false, false, false, false] rfl rfl (by kernel_rfl) (fun _ _ _ h => h) (Or.inl ⟨by rfl, ?_⟩) hHeld ?_ ?_
      rotate_left
      ·rintro w' ⟨s0, s1, s2, s3, s4, s5, s6, s7⟩
       go_simp
       with_reducible rfl
      rotate_left
      ·simp only [Act.put, List.setIfInBounds_toArray, List.set_cons_zero, List.set_cons_succ, i64_w, i32_w]
       rfl
      refine takeA (i := 1) (N := some 19) (v := ?_) (a' := ?_) #[true, true, false, false, false, false, false, false, false, false, false, false, false, false, false, false, false, false, false, false, false, false, false, false] rfl rfl (by kernel_rfl) (fun _ _ _ h => h) (Or.inl ⟨by rfl, ?_⟩) hHeld ?_ ?_
      rotate_left
      ·rintro w' ⟨s0, s1, s2, s3, s4, s5, s6, s7⟩
       go_simp
       with_reducible rfl
      rotate_left
      ·simp only [Act.put, List.setIfInBounds_toArray, List.set_cons_zero, List.set_cons_succ, i64_w, i32_w]
       rfl
      refine takeA (i := 2) (N := some 20) (v := ?_) (a' := ?_) #[true, true, true, false, false, false, false, false, false, false, false, false, false, false, false, false, false, false, false, false, false, false, false, false] rfl rfl (by kernel_rfl) (fun _ _ _ h => h) (Or.inl ⟨by rfl, ?_⟩) hHeld ?_ ?_
      rotate_left
      ·rintro w' ⟨s0, s1, s2, s3, s4, s5, s6, s7⟩
       go_simp
       with_reducible rfl
      rotate_left
      ·simp only [Act.put, List.setIfInBounds_toArray, List.set_cons_zero, List.set_cons_succ, i64_w, i32_w]
       rfl
      refine takeA (i := 3) (N := some 21) (v := ?_) (a' := ?_) #[true, true, true, true, false, false, false, false, false, false, false, false, false, false, false, false, false, false, false, false, false, false, false, false] rfl rfl (by kernel_rfl) (fun _ _ _ h => h) (Or.inl ⟨by rfl, ?_⟩) hHeld ?_ ?_
      rotate_left
      ·rintro w' ⟨s0, s1, s2, s3, s4, s5, s6, s7⟩
       go_simp
       with_reducible rfl
      rotate_left
      ·simp only [Act.put, List.setIfInBounds_toArray, List.set_cons_zero, List.set_cons_succ, i64_w, i32_w]
       rfl
      refine takeA (i := 4) (N := some 22) (v := ?_) (a' := ?_) #[true, true, true, true, true, false, false, false, false, false, false, false, false, false, false, false, false, false, false, false, false, false, false, false] rfl rfl (by kernel_rfl) (fun _ _ _ h => h) (Or.inl ⟨by rfl, ?_⟩) hHeld ?_ ?_
      rotate_left
      ·rintro w' ⟨s0, s1, s2, s3, s4, s5, s6, s7⟩
       go_simp
       with_reducible rfl
      rotate_left
      ·simp only [Act.put, List.setIfInBounds_toArray, List.set_cons_zero, List.set_cons_succ, i64_w, i32_w]
       rfl
      refine takeA (i := 5) (N := some 23) (v := ?_) (a' := ?_) #[true, true, true, true, true, true, false, false, false, false, false, false, false, false, false, false, false, false, false, false, false, false, false, false] rfl rfl (by kernel_rfl) (fun _ _ _ h => h) (Or.inl ⟨by rfl, ?_⟩) hHeld ?_ ?_
      rotate_left
      ·rintro w' ⟨s0, s1, s2, s3, s4, s5, s6, s7⟩
       go_simp
       with_reducible rfl
      rotate_left
      ·simp only [Act.put, List.setIfInBounds_toArray, List.set_cons_zero, List.set_cons_succ, i64_w, i32_w]
       rfl
      refine takeA (i := 6) (N := some 24) (v := ?_) (a' := ?_) #[true, true, true, true, true, true, true, false, false, false, false, false, false, false, false, false, false, false, false, false, false, false, false, false] rfl rfl (by kernel_rfl) (fun _ _ _ h => h) (Or.inl ⟨by rfl, ?_⟩) hHeld ?_ ?_
      rotate_left
      ·rintro w' ⟨s0, s1, s2, s3, s4, s5, s6, s7⟩
       go_simp
       with_reducible rfl
      rotate_left
      ·simp only [Act.put, List.setIfInBounds_toArray, List.set_cons_zero, List.set_cons_succ, i64_w, i32_w]
       rfl
      refine takeA (i := 7) (N := some 25) (v := ?_) (a' := ?_) #[true, true, true, true, true, true, true, true, false, false, false, false, false, false, false, false, false, false, false, false, false, false, false, false] rfl rfl (by kernel_rfl) (fun _ _ _ h => h) (Or.inl ⟨by rfl, ?_⟩) hHeld ?_ ?_
      rotate_left
      ·rintro w' ⟨s0, s1, s2, s3, s4, s5, s6, s7⟩
       go_simp
       with_reducible rfl
      rotate_left
      ·simp only [Act.put, List.setIfInBounds_toArray, List.set_cons_zero, List.set_cons_succ, i64_w, i32_w]
       rfl
      refine takeA (i := 8) (N := some 26) (v := ?_) (a' := ?_) #[true, true, true, true, true, true, true, true, true, false, false, false, false, false, false, false, false, false, false, false, false, false, false, false] rfl rfl (by kernel_rfl) (fun _ _ _ h => h) (Or.inl ⟨by rfl, ?_⟩) hHeld ?_ ?_
      rotate_left
      ·rintro w' ⟨s0, s1, s2, s3, s4, s5, s6, s7⟩
       go_simp
       with_reducible rfl
      rotate_left
      ·simp only [Act.put, List.setIfInBounds_toArray, List.set_cons_zero, List.set_cons_succ, i64_w, i32_w]
       rfl
      refine takeA (i := 9) (N := some 27) (v := ?_) (a' := ?_) #[true, true, true, true, true, true, true, true, true, true, false, false, false, false, false, false, false, false, false, false, false, false, false, false] rfl rfl (by kernel_rfl) (fun _ _ _ h => h) (Or.inl ⟨by rfl, ?_⟩) hHeld ?_ ?_
      rotate_left
      ·rintro w' ⟨s0, s1, s2, s3, s4, s5, s6, s7⟩
       go_simp
       with_reducible rfl
      rotate_left
      ·simp only [Act.put, List.setIfInBounds_toArray, List.set_cons_zero, List.set_cons_succ, i64_w, i32_w]
       rfl
      refine takeA (i := 10) (N := some 28) (v := ?_) (a' := ?_) #[true, true, true, true, true, true, true, true, true, true, true, false, false, false, false, false, false, false, false, false, false, false, false, false] rfl rfl (by kernel_rfl) (fun _ _ _ h => h) (Or.inl ⟨by rfl, ?_⟩) hHeld ?_ ?_
      rotate_left
      ·rintro w' ⟨s0, s1, s2, s3, s4, s5, s6, s7⟩
       go_simp
       with_reducible rfl
      rotate_left
      ·simp only [Act.put, List.setIfInBounds_toArray, List.set_cons_zero, List.set_cons_succ, i64_w, i32_w]
       rfl
      refine takeA (i := 11) (N := some 29) (v := ?_) (a' := ?_) #[true, true, true, true, true, true, true, true, true, true, true, true, false, false, false, false, false, false, false, false, false, false, false, false] rfl rfl (by kernel_rfl) (fun _ _ _ h => h) (Or.inl ⟨by rfl, ?_⟩) hHeld ?_ ?_
      rotate_left
      ·rintro w' ⟨s0, s1, s2, s3, s4, s5, s6, s7⟩
       go_simp
       with_reducible rfl
      rotate_left
      ·simp only [Act.put, List.setIfInBounds_toArray, List.set_cons_zero, List.set_cons_succ, i64_w, i32_w]
       rfl
      refine takeA (i := 12) (N := some 30) (v := ?_) (a' := ?_) #[true, true, true, true, true, true, true, true, true, true, true, true, true, false, false, false, false, false, false, false, false, false, false, false] rfl rfl (by kernel_rfl) (fun _ _ _ h => h) (Or.inl ⟨by rfl, ?_⟩) hHeld ?_ ?_
      rotate_left
      ·rintro w' ⟨s0, s1, s2, s3, s4, s5, s6, s7⟩
       go_simp
       with_reducible rfl
      rotate_left
      ·simp only [Act.put, List.setIfInBounds_toArray, List.set_cons_zero, List.set_cons_succ, i64_w, i32_w]
       rfl
      refine takeA (i := 13) (N := some 31) (v := ?_) (a' := ?_) #[true, true, true, true, true, true, true, true, true, true, true, true, true, true, false, false, false, false, false, false, false, false, false, false] rfl rfl (by kernel_rfl) (fun _ _ _ h => h) (Or.inl ⟨by rfl, ?_⟩) hHeld ?_ ?_
      rotate_left
      ·rintro w' ⟨s0, s1, s2, s3, s4, s5, s6, s7⟩
       go_simp
       with_reducible rfl
      rotate_left
      ·simp only [Act.put, List.setIfInBounds_toArray, List.set_cons_zero, List.set_cons_succ, i64_w, i32_w]
       rfl
      refine takeA (i := 14) (N := some 32) (v := ?_) (a' := ?_) #[true, true, true, true, true, true, true, true, true, true, true, true, true, true, true, false, false, false, false, false, false, false, false, false] rfl rfl (by kernel_rfl) (fun _ _ _ h => h) (Or.inl ⟨by rfl, ?_⟩) hHeld ?_ ?_
      rotate_left
      ·rintro w' ⟨s0, s1, s2, s3, s4, s5, s6, s7⟩
       go_simp
       with_reducible rfl
      rotate_left
      ·simp only [Act.put, List.setIfInBounds_toArray, List.set_cons_zero, List.set_cons_succ, i64_w, i32_w]
       rfl
      refine takeA (i := 15) (N := some 33) (v := ?_) (a' := ?_) #[true, true, true, true, true, true, true, true, true, true, true, true, true, true, true, true, false, false, false, false, false, false, false, false] rfl rfl (by kernel_rfl) (fun _ _ _ h => h) (Or.inl ⟨by rfl, ?_⟩) hHeld ?_ ?_
      rotate_left
      ·rintro w' ⟨s0, s1, s2, s3, s4, s5, s6, s7⟩
       go_simp
       with_reducible rfl
      rotate_left
      ·simp only [Act.put, List.setIfInBounds_toArray, List.set_cons_zero, List.set_cons_succ, i64_w, i32_w]
       rfl
      refine takeA (i := 16) (N := some 34) (v := ?_) (a' := ?_) #[true, true, true, true, true, true, true, true, true, true, true, true, true, true, true, true, true, false, false, false, false, false, false, false] rfl rfl (by kernel_rfl) (fun _ _ _ h => h) (Or.inl ⟨by rfl, ?_⟩) hHeld ?_ ?_
      rotate_left
      ·rintro w' ⟨s0, s1, s2, s3, s4, s5, s6, s7⟩
       go_simp
       with_reducible rfl
      rotate_left
      ·simp only [Act.put, List.setIfInBounds_toArray, List.set_cons_zero, List.set_cons_succ, i64_w, i32_w]
       rfl
      refine takeA (i := 17) (N := some 35) (v := ?_) (a' := ?_) #[true, true, true, true, true, true, true, true, true, true, true, true, true, true, true, true, true, true, false, false, false, false, false, false] rfl rfl (by kernel_rfl) (fun _ _ _ h => h) (Or.inl ⟨by rfl, ?_⟩) hHeld ?_ ?_
      rotate_left
      ·rintro w' ⟨s0, s1, s2, s3, s4, s5, s6, s7⟩
       go_simp
       with_reducible rfl
      rotate_left
      ·simp only [Act.put, List.setIfInBounds_toArray, List.set_cons_zero, List.set_cons_succ, i64_w, i32_w]
       rfl
      refine takeA (i := 18) (N := some 36) (v := ?_) (a' := ?_) #[true, true, true, true, true, true, true, true, true, true, true, true, true, true, true, true, true, true, true, false, false, false, false, false] rfl rfl (by kernel_rfl) (fun _ _ _ h => h) (Or.inl ⟨by rfl, ?_⟩) hHeld ?_ ?_
      rotate_left
      ·rintro w' ⟨s0, s1, s2, s3, s4, s5, s6, s7⟩
       go_simp
       with_reducible rfl
      rotate_left
      ·simp only [Act.put, List.setIfInBounds_toArray, List.set_cons_zero, List.set_cons_succ, i64_w, i32_w]
       rfl
      refine takeA (i := 19) (N := some 37) (v := ?_) (a' := ?_) #[true, true, true, true, true, true, true, true, true, true, true, true, true, true, true, true, true, true, true, true, false, false, false, false] rfl rfl (by kernel_rfl) (fun _ _ _ h => h) (Or.inl ⟨by rfl, ?_⟩) hHeld ?_ ?_
      rotate_left
      ·rintro w' ⟨s0, s1, s2, s3, s4, s5, s6, s7⟩
       go_simp
       with_reducible rfl
      rotate_left
      ·simp only [Act.put, List.setIfInBounds_toArray, List.set_cons_zero, List.set_cons_succ, i64_w, i32_w]
       rfl
      refine takeA (i := 20) (N := some 38) (v := ?_) (a' := ?_) #[true, true, true, true, true, true, true, true, true, true, true, true, true, true, true, true, true, true, true, true, true, false, false, false] rfl rfl (by kernel_rfl) (fun _ _ _ h => h) (Or.inl ⟨by rfl, ?_⟩) hHeld ?_ ?_
      rotate_left
      ·rintro w' ⟨s0, s1, s2, s3, s4, s5, s6, s7⟩
       go_simp
       with_reducible rfl
      rotate_left
      ·simp only [Act.put, List.setIfInBounds_toArray, List.set_cons_zero, List.set_cons_succ, i64_w, i32_w]
       rfl
      refine lastF (i := 21) (N := some 39) #[true, true, true, true, true, true, true, true, true, true, true, true, true, true, true, true, true, true, true, true, true, true, false, false] rfl rfl (by kernel_rfl) (by rfl) ?_
      go_simp
      refine ⟨(fun h => (by cases h)), hRo.mono ?_⟩
      clear hRo hyo
      rintro e W4 hc4
      obtain ⟨b4, rfl, hb4⟩ : ∃ b : Bool, e = .returned (.bool b) ∧ ((b = true ∧ J (pre ++ [ownS child seq]) W4 ∧ Kq n0 Bo Br W2.drew W4) ∨ (b = false ∧ Jx (pre ++ [ownS child seq]) W4)) := by
       rcases hc4 with ⟨rfl, h1, h2⟩ | ⟨rfl, h1⟩
       ·exact ⟨true, rfl, .inl ⟨rfl, h1, h2⟩⟩
       ·exact ⟨false, rfl, .inr ⟨rfl, h1⟩⟩
      clear hc4
      have HB4 := Aside0.mk hb4
      clear hb4
      refine ⟨⟨fun h => absurd (show 21 ∈ [21] by decide) h, fun h => absurd (show 21 ∈ [21] by decide) h⟩, ?_⟩
      refine nextF (i := 22) (N := some 40) (v := ?_) (a' := ?_) #[true, true, true, true, true, true, true, true, true, true, true, true, true, true, true, true, true, true, true, true, true, true, true, false] rfl rfl (by kernel_rfl) (Or.inl ⟨by rfl, ?_⟩) ?_ ?_
      rotate_left
      ·intro w'
       go_simp
       with_reducible rfl
      rotate_left
      ·simp only [Act.put, List.setIfInBounds_toArray, List.set_cons_zero, List.set_cons_succ, i64_w, i32_w]
       rfl
      refine nextF (i := 23) (N := some 41) (v := ?_) (a' := ?_) #[true, true, true, true, true, true, true, true, true, true, true, true, true, true, true, true, true, true, true, true, true, true, true, true] rfl rfl (by kernel_rfl) (Or.inl ⟨by rfl, ?_⟩) ?_ ?_
      rotate_left
      ·intro w'
       go_simp
       with_reducible rfl
      rotate_left
      ·simp only [Act.put, List.setIfInBounds_toArray, List.set_cons_zero, List.set_cons_succ, i64_w, i32_w]
       rfl
      refine doneF (by kernel_rfl) ?_
      clear x0 q1 q3 px y0 y1 y2 y3 hkz j0 j1 j2 j3
      rcases HB4.out with ⟨rfl, hj4, hk4⟩ | ⟨rfl, hx4⟩
      ·have JP4 := Aside0.mk hj4
       have NI4 := Aside0.mk (NI3.out.step hk4)
       have X4 := Aside0.mk (hk4.blk X3.out XR.out.2.1 XR.out.2.2 XR.out.1).1
       clear hj4 hk4 HB4
       refine wpIn_cond_false rfl ?_
       refine wpIn_skip ?_
       have z0 : W4.cell? ⟨gx, 0, none⟩ = some (.int .i64 d.f0) := blk_cell' X4.out 0 _ rfl
       have z1 : W4.cell? ⟨gx, 1, none⟩ = some (.int .i64 d.f1) := blk_cell' X4.out 1 _ rfl
       have z2 : W4.cell? ⟨gx, 2, none⟩ = some (.int .i64 d.f2) := blk_cell' X4.out 2 _ rfl
       have z3 : W4.cell? ⟨gx, 3, none⟩ = some (.int .i64 d.f3) := blk_cell' X4.out 3 _ rfl
       obtain ⟨fn, tmps, assign, bdy, hy, hR⟩ := HY.out (pre ++ [ownS child seq]) d W4 JP4.out (by have h := congrArg List.length PRo.out; simp only [List.length_append, List.length_cons, List.length_nil] at h ⊢; omega)
       dsimp only [enc35] at hy
       show Code.wpIn _ _ _ _ _ _ _
       gi_wp2
       refine ⟨(fun h => (by cases h)), hR.mono ?_⟩
       clear hR hy z0 z1 z2 z3
       rintro e W5 (⟨rfl, hJ3, hk3⟩ | ⟨rfl, hJx3⟩)
       ·have hJ5 := Aside0.mk hJ3
        have NI5 := Aside0.mk (NI4.out.step hk3)
        clear hJ3 hk3
        gi_wp2
        go_roundw
        case rel => first | exact ⟨k + 1, (pre ++ [ownS child seq]) ++ [d], by omega, by go_num, hJ5, ⟨by rw [List.append_assoc]; exact PRo.out⟩, NI5⟩ | (refine ⟨.int .i64 k, .pointer (some ⟨gx, 0, none⟩), .int .i64 ((k : Int) + 1), ⟨k + 1, by omega, by go_num, (pre ++ [ownS child seq]) ++ [d], hJ5, ⟨by rw [List.append_assoc]; exact PRo.out⟩, NI5⟩, ?_⟩; (repeat apply Exists.intro); rfl)
        case measure => simp [intOf]; omega
       ·have hJ5 := Aside0.mk hJx3
        clear hJx3
        gi_wp2
        refine bodyPost_ret (results_none rfl _ _ _) rfl ?_
        exact ⟨⟨_, rfl⟩, .inr ⟨_, trivial, hJ5.out⟩⟩
      ·have HX4 := Aside0.mk hx4
       clear hx4 HB4
       show Code.wpIn _ _ _ _ _ _ _
       gi_wp2
       refine bodyPost_ret (results_none rfl _ _ _) rfl ?_
       exact ⟨⟨_, rfl⟩, .inr ⟨_, trivial, HX4.out⟩⟩
     ·have hpd := decide_eq_false hp
      refine start2 (r := none) (k := 24) (fun w' => w'.cell? ⟨gx, 0, none⟩ = some (.int .i64 d.f0) ∧ w'.cell? ⟨B1, 0, none⟩ = some (.int .i64 child) ∧ w'.cell? ⟨B3, 0, none⟩ = some (.slice (some ad) l3.length c3) ∧ w'.cell? (ad.add ((k - 1) * 4)) = some (.int .i64 pv)) (fun w' => True) [] [] #[false, false, false, false, false, false, false, false, false, false, false, false, false, false, false, false, false, false, false, false, false, false, false, false] (by decide) (by kernel_rfl) rfl rfl ⟨x0, q1, q3, px⟩ trivial (fun hHeld hHeld2 => ?_)
      refine takeA (i := 0) (N := some 18) (v := ?_) (a' := ?_) #[true, false, false, false, false, false, false, false, false, false, false, false, false, false, false, false, false, false, false, false, false, false, false, false] rfl rfl (by kernel_rfl) (fun _ _ _ h => h) (Or.inl ⟨by rfl, ?_⟩) hHeld ?_ ?_
      rotate_left
      ·rintro w' ⟨s0, s1, s2, s3⟩
       go_simp
       with_reducible rfl
      rotate_left
      ·simp only [Act.put, List.setIfInBounds_toArray, List.set_cons_zero, List.set_cons_succ, i64_w, i32_w]
       rfl
      refine takeA (i := 1) (N := some 19) (v := ?_) (a' := ?_) #[true, true, false, false, false, false, false, false, false, false, false, false, false, false, false, false, false, false, false, false, false, false, false, false] rfl rfl (by kernel_rfl) (fun _ _ _ h => h) (Or.inl ⟨by rfl, ?_⟩) hHeld ?_ ?_
      rotate_left
      ·rintro w' ⟨s0, s1, s2, s3⟩
       go_simp
       with_reducible rfl
      rotate_left
      ·simp only [Act.put, List.setIfInBounds_toArray, List.set_cons_zero, List.set_cons_succ, i64_w, i32_w]
       rfl
      refine takeA (i := 2) (N := some 20) (v := ?_) (a' := ?_) #[true, true, true, false, false, false, false, false, false, false, false, false, false, false, false, false, false, false, false, false, false, false, false, false] rfl rfl (by kernel_rfl) (fun _ _ _ h => h) (Or.inl ⟨by rfl, ?_⟩) hHeld ?_ ?_
      rotate_left
      ·rintro w' ⟨s0, s1, s2, s3⟩
       go_simp
       with_reducible rfl
      rotate_left
      ·simp only [Act.put, List.setIfInBounds_toArray, List.set_cons_zero, List.set_cons_succ, i64_w, i32_w]
       rfl
      refine takeA (i := 3) (N := some 21) (v := ?_) (a' := ?_) #[true, true, true, true, false, false, false, false, false, false, false, false, false, false, false, false, false, false, false, false, false, false, false, false] rfl rfl (by kernel_rfl) (fun _ _ _ h => h) (Or.inl ⟨by rfl, ?_⟩) hHeld ?_ ?_
      rotate_left
      ·rintro w' ⟨s0, s1, s2, s3⟩
       go_simp
       with_reducible rfl
      rotate_left
      ·simp only [Act.put, List.setIfInBounds_toArray, List.set_cons_zero, List.set_cons_succ, i64_w, i32_w]
       rfl
      refine takeA (i := 4) (N := some 22) (v := ?_) (a' := ?_) #[true, true, true, true, true, false, false, false, false, false, false, false, false, false, false, false, false, false, false, false, false, false, false, false] rfl rfl (by kernel_rfl) (fun _ _ _ h => h) (Or.inl ⟨by rfl, ?_⟩) hHeld ?_ ?_
      rotate_left
      ·rintro w' ⟨s0, s1, s2, s3⟩
       go_simp
       with_reducible rfl
      rotate_left
      ·simp only [Act.put, List.setIfInBounds_toArray, List.set_cons_zero, List.set_cons_succ, i64_w, i32_w]
       rfl
      refine takeA (i := 5) (N := some 23) (v := ?_) (a' := ?_) #[true, true, true, true, true, true, false, false, false, false, false, false, false, false, false, false, false, false, false, false, false, false, false, false] rfl rfl (by kernel_rfl) (fun _ _ _ h => h) (Or.inl ⟨by rfl, ?_⟩) hHeld ?_ ?_
      rotate_left
      ·rintro w' ⟨s0, s1, s2, s3⟩
       go_simp
       with_reducible rfl
      rotate_left
      ·simp only [Act.put, List.setIfInBounds_toArray, List.set_cons_zero, List.set_cons_succ, i64_w, i32_w]
       rfl
      refine takeA (i := 6) (N := some 24) (v := ?_) (a' := ?_) #[true, true, true, true, true, true, true, false, false, false, false, false, false, false, false, false, false, false, false, false, false, false, false, false] rfl rfl (by kernel_rfl) (fun _ _ _ h => h) (Or.inl ⟨by rfl, ?_⟩) hHeld ?_ ?_
      rotate_left
      ·rintro w' ⟨s0, s1, s2, s3⟩
       go_simp
       with_reducible rfl
      rotate_left
      ·simp only [Act.put, List.setIfInBounds_toArray, List.set_cons_zero, List.set_cons_succ, i64_w, i32_w]
       rfl
      refine takeA (i := 7) (N := some 25) (v := ?_) (a' := ?_) #[true, true, true, true, true, true, true, true, false, false, false, false, false, false, false, false, false, false, false, false, false, false, false, false] rfl rfl (by kernel_rfl) (fun _ _ _ h => h) (Or.inl ⟨by rfl, ?_⟩) hHeld ?_ ?_
      rotate_left
      ·rintro w' ⟨s0, s1, s2, s3⟩
       go_simp
       with_reducible rfl
      rotate_left
      ·simp only [Act.put, List.setIfInBounds_toArray, List.set_cons_zero, List.set_cons_succ, i64_w, i32_w]
       rfl
      refine takeA (i := 8) (N := some 26) (v := ?_) (a' := ?_) #[true, true, true, true, true, true, true, true, true, false, false, false, false, false, false, false, false, false, false, false, false, false, false, false] rfl rfl (by kernel_rfl) (fun _ _ _ h => h) (Or.inl ⟨by rfl, ?_⟩) hHeld ?_ ?_
      rotate_left
      ·rintro w' ⟨s0, s1, s2, s3⟩
       go_simp
       with_reducible rfl
      rotate_left
      ·simp only [Act.put, List.setIfInBounds_toArray, List.set_cons_zero, List.set_cons_succ, i64_w, i32_w]
       rfl
      refine takeA (i := 9) (N := some 27) (v := ?_) (a' := ?_) #[true, true, true, true, true, true, true, true, true, true, false, false, false, false, false, false, false, false, false, false, false, false, false, false] rfl rfl (by kernel_rfl) (fun _ _ _ h => h) (Or.inl ⟨by rfl, ?_⟩) hHeld ?_ ?_
      rotate_left
      ·rintro w' ⟨s0, s1, s2, s3⟩
       go_simp
       with_reducible rfl
      rotate_left
      ·simp only [Act.put, List.setIfInBounds_toArray, List.set_cons_zero, List.set_cons_succ, i64_w, i32_w]
       rfl
      refine takeA (i := 10) (N := some 28) (v := ?_) (a' := ?_) #[true, true, true, true, true, true, true, true, true, true, true, false, false, false, false, false, false, false, false, false, false, false, false, false] rfl rfl (by kernel_rfl) (fun _ _ _ h => h) (Or.inl ⟨by rfl, ?_⟩) hHeld ?_ ?_
      rotate_left
      ·rintro w' ⟨s0, s1, s2, s3⟩
       go_simp
       with_reducible rfl
      rotate_left
      ·simp only [Act.put, List.setIfInBounds_toArray, List.set_cons_zero, List.set_cons_succ, i64_w, i32_w]
       rfl
      refine takeA (i := 11) (N := some 29) (v := ?_) (a' := ?_) #[true, true, true, true, true, true, true, true, true, true, true, true, false, false, false, false, false, false, false, false, false, false, false, false] rfl rfl (by kernel_rfl) (fun _ _ _ h => h) (Or.inl ⟨by rfl, ?_⟩) hHeld ?_ ?_
      rotate_left
      ·rintro w' ⟨s0, s1, s2, s3⟩
       go_simp
       with_reducible rfl
      rotate_left
      ·simp only [Act.put, List.setIfInBounds_toArray, List.set_cons_zero, List.set_cons_succ, i64_w, i32_w]
       rfl
      refine takeA (i := 12) (N := some 30) (v := ?_) (a' := ?_) #[true, true, true, true, true, true, true, true, true, true, true, true, true, false, false, false, false, false, false, false, false, false, false, false] rfl rfl (by kernel_rfl) (fun _ _ _ h => h) (Or.inl ⟨by rfl, ?_⟩) hHeld ?_ ?_
      rotate_left
      ·rintro w' ⟨s0, s1, s2, s3⟩
       go_simp
       with_reducible rfl
      rotate_left
      ·simp only [Act.put, List.setIfInBounds_toArray, List.set_cons_zero, List.set_cons_succ, i64_w, i32_w]
       rfl
      refine takeA (i := 13) (N := some 31) (v := ?_) (a' := ?_) #[true, true, true, true, true, true, true, true, true, true, true, true, true, true, false, false, false, false, false, false, false, false, false, false] rfl rfl (by kernel_rfl) (fun _ _ _ h => h) (Or.inl ⟨by rfl, ?_⟩) hHeld ?_ ?_
      rotate_left
      ·rintro w' ⟨s0, s1, s2, s3⟩
       go_simp
       with_reducible rfl
      rotate_left
      ·simp only [Act.put, List.setIfInBounds_toArray, List.set_cons_zero, List.set_cons_succ, i64_w, i32_w]
       rfl
      refine takeA (i := 14) (N := some 32) (v := ?_) (a' := ?_) #[true, true, true, true, true, true, true, true, true, true, true, true, true, true, true, false, false, false, false, false, false, false, false, false] rfl rfl (by kernel_rfl) (fun _ _ _ h => h) (Or.inl ⟨by rfl, ?_⟩) hHeld ?_ ?_
      rotate_left
      ·rintro w' ⟨s0, s1, s2, s3⟩
       go_simp
       with_reducible rfl
      rotate_left
      ·simp only [Act.put, List.setIfInBounds_toArray, List.set_cons_zero, List.set_cons_succ, i64_w, i32_w]
       rfl
      refine takeA (i := 15) (N := some 33) (v := ?_) (a' := ?_) #[true, true, true, true, true, true, true, true, true, true, true, true, true, true, true, true, false, false, false, false, false, false, false, false] rfl rfl (by kernel_rfl) (fun _ _ _ h => h) (Or.inl ⟨by rfl, ?_⟩) hHeld ?_ ?_
      rotate_left
      ·rintro w' ⟨s0, s1, s2, s3⟩
       go_simp
       with_reducible rfl
      rotate_left
      ·simp only [Act.put, List.setIfInBounds_toArray, List.set_cons_zero, List.set_cons_succ, i64_w, i32_w]
       rfl
      refine takeA (i := 16) (N := some 34) (v := ?_) (a' := ?_) #[true, true, true, true, true, true, true, true, true, true, true, true, true, true, true, true, true, false, false, false, false, false, false, false] rfl rfl (by kernel_rfl) (fun _ _ _ h => h) (Or.inl ⟨by rfl, ?_⟩) hHeld ?_ ?_
      rotate_left
      ·rintro w' ⟨s0, s1, s2, s3⟩
       go_simp
       with_reducible rfl
      rotate_left
      ·simp only [Act.put, List.setIfInBounds_toArray, List.set_cons_zero, List.set_cons_succ, i64_w, i32_w]
       rfl
      refine takeA (i := 17) (N := some 35) (v := ?_) (a' := ?_) #[true, true, true, true, true, true, true, true, true, true, true, true, true, true, true, true, true, true, false, false, false, false, false, false] rfl rfl (by kernel_rfl) (fun _ _ _ h => h) (Or.inl ⟨by rfl, ?_⟩) hHeld ?_ ?_
      rotate_left
      ·rintro w' ⟨s0, s1, s2, s3⟩
       go_simp
       with_reducible rfl
      rotate_left
      ·simp only [Act.put, List.setIfInBounds_toArray, List.set_cons_zero, List.set_cons_succ, i64_w, i32_w]
       rfl
      refine takeA (i := 18) (N := some 36) (v := ?_) (a' := ?_) #[true, true, true, true, true, true, true, true, true, true, true, true, true, true, true, true, true, true, true, false, false, false, false, false] rfl rfl (by kernel_rfl) (fun _ _ _ h => h) (Or.inl ⟨by rfl, ?_⟩) hHeld ?_ ?_
      rotate_left
      ·rintro w' ⟨s0, s1, s2, s3⟩
       go_simp
       with_reducible rfl
      rotate_left
      ·simp only [Act.put, List.setIfInBounds_toArray, List.set_cons_zero, List.set_cons_succ, i64_w, i32_w]
       rfl
      refine takeA (i := 19) (N := some 37) (v := undef) (a' := ?_) #[true, true, true, true, true, true, true, true, true, true, true, true, true, true, true, true, true, true, true, true, false, false, false, false] rfl rfl (by kernel_rfl) (fun _ _ _ h => h) (Or.inr ⟨by rfl, rfl⟩) hHeld ?_ ?_
      rotate_left
      ·simp only [Act.put, List.setIfInBounds_toArray, List.set_cons_zero, List.set_cons_succ, i64_w, i32_w]
       rfl
      refine takeA (i := 20) (N := some 38) (v := undef) (a' := ?_) #[true, true, true, true, true, true, true, true, true, true, true, true, true, true, true, true, true, true, true, true, true, false, false, false] rfl rfl (by kernel_rfl) (fun _ _ _ h => h) (Or.inr ⟨by rfl, rfl⟩) hHeld ?_ ?_
      rotate_left
      ·simp only [Act.put, List.setIfInBounds_toArray, List.set_cons_zero, List.set_cons_succ, i64_w, i32_w]
       rfl
      refine takeA (i := 21) (N := some 39) (v := undef) (a' := ?_) #[true, true, true, true, true, true, true, true, true, true, true, true, true, true, true, true, true, true, true, true, true, true, false, false] rfl rfl (by kernel_rfl) (fun _ _ _ h => h) (Or.inr ⟨by rfl, rfl⟩) hHeld ?_ ?_
      rotate_left
      ·simp only [Act.put, List.setIfInBounds_toArray, List.set_cons_zero, List.set_cons_succ, i64_w, i32_w]
       rfl
      refine takeA (i := 22) (N := some 40) (v := undef) (a' := ?_) #[true, true, true, true, true, true, true, true, true, true, true, true, true, true, true, true, true, true, true, true, true, true, true, false] rfl rfl (by kernel_rfl) (fun _ _ _ h => h) (Or.inr ⟨by rfl, rfl⟩) hHeld ?_ ?_
      rotate_left
      ·simp only [Act.put, List.setIfInBounds_toArray, List.set_cons_zero, List.set_cons_succ, i64_w, i32_w]
       rfl
      refine takeA (i := 23) (N := some 41) (v := ?_) (a' := ?_) #[true, true, true, true, true, true, true, true, true, true, true, true, true, true, true, true, true, true, true, true, true, true, true, true] rfl rfl (by kernel_rfl) (fun _ _ _ h => h) (Or.inl ⟨by rfl, ?_⟩) hHeld ?_ ?_
      rotate_left
      ·rintro w' ⟨s0, s1, s2, s3⟩
       go_simp
       with_reducible rfl
      rotate_left
      ·simp only [Act.put, List.setIfInBounds_toArray, List.set_cons_zero, List.set_cons_succ, i64_w, i32_w]
       rfl
      refine doneF (by kernel_rfl) ?_
      have JP3 := Aside0.mk (HJ.out _ _ W2.drew JP2.out ⟨rfl, rfl, rfl, Nat.le_refl _, fun _ _ _ => rfl⟩)
      have NI3 := Aside0.mk (NI2.out.grow GX2.out ⟨rfl, rfl, rfl, Nat.le_refl _, fun _ _ _ => rfl⟩ : NS n0 Bo Br B1 B2 B3 B4 child seq (some ad) l3.length c3 w0 W2.drew)
      have X3 : Aside0 (W2.drew.heap[gx]? = some (.cells #[.int .i64 d.f0, .int .i64 d.f1, .int .i64 d.f2, .int .i64 d.f3] 35 (0, 0))) := ⟨X2.out⟩
      have PRd : Aside0 (pre ++ d :: newsL child seq (prv l3 (k + 1)) (l3.drop (k + 1)) = newsL child seq none l3) := ⟨by
       have h := PR.out
       rw [newsL_at hlt, ← EY.out, if_neg (fun hx => hp (by have := hx.2; rw [PV.out] at this; simpa using this)), List.nil_append] at h
       exact h⟩
      clear JP NI PR JP2 NI2 X2 GX2 x0 q1 q3 px hkz j0 j1 j2 j3
      refine wpIn_cond_false rfl ?_
      refine wpIn_skip ?_
      have z0 : W2.drew.cell? ⟨gx, 0, none⟩ = some (.int .i64 d.f0) := blk_cell' X3.out 0 _ rfl
      have z1 : W2.drew.cell? ⟨gx, 1, none⟩ = some (.int .i64 d.f1) := blk_cell' X3.out 1 _ rfl
      have z2 : W2.drew.cell? ⟨gx, 2, none⟩ = some (.int .i64 d.f2) := blk_cell' X3.out 2 _ rfl
      have z3 : W2.drew.cell? ⟨gx, 3, none⟩ = some (.int .i64 d.f3) := blk_cell' X3.out 3 _ rfl
      obtain ⟨fn, tmps, assign, bdy, hy, hR⟩ := HY.out pre d W2.drew JP3.out (by have h := congrArg List.length PRd.out; simp only [List.length_append, List.length_cons, List.length_nil] at h ⊢; omega)
      dsimp only [enc35] at hy
      show Code.wpIn _ _ _ _ _ _ _
      gi_wp2
      refine ⟨(fun h => (by cases h)), hR.mono ?_⟩
      clear hR hy z0 z1 z2 z3
      rintro e W5 (⟨rfl, hJ3, hk3⟩ | ⟨rfl, hJx3⟩)
      ·have hJ5 := Aside0.mk hJ3
       have NI5 := Aside0.mk (NI3.out.step hk3)
       clear hJ3 hk3
       gi_wp2
       go_roundw
       case rel => first | exact ⟨k + 1, pre ++ [d], by omega, by go_num, hJ5, ⟨by rw [List.append_assoc]; exact PRd.out⟩, NI5⟩ | (refine ⟨.int .i64 k, .pointer (some ⟨gx, 0, none⟩), .int .i64 ((k : Int) + 1), ⟨k + 1, by omega, by go_num, pre ++ [d], hJ5, ⟨by rw [List.append_assoc]; exact PRd.out⟩, NI5⟩, ?_⟩; (repeat apply Exists.intro); rfl)
       case measure => simp [intOf]; omega
      ·have hJ5 := Aside0.mk hJx3
       clear hJx3
       gi_wp2
       refine bodyPost_ret (results_none rfl _ _ _) rfl ?_
       exact ⟨⟨_, rfl⟩, .inr ⟨_, trivial, hJ5.out⟩⟩
   ·have hcd := decide_eq_false hc
    refine start2 (r := none) (k := 24) (fun w' => w'.cell? ⟨gx, 0, none⟩ = some (.int .i64 d.f0) ∧ w'.cell? ⟨B1, 0, none⟩ = some (.int .i64 child)) (fun w' => True) [] [] #[false, false, false, false, false, false, false, false, false, false, false, false, false, false, false, false, false, false, false, false, false, false, false, false] (by decide) (by kernel_rfl) rfl rfl ⟨x0, q1⟩ trivial (fun hHeld hHeld2 => ?_)
    refine takeA (i := 0) (N := some 18) (v := ?_) (a' := ?_) #[true, false, false, false, false, false, false, false, false, false, false, false, false, false, false, false, false, false, false, false, false, false, false, false] rfl rfl (by kernel_rfl) (fun _ _ _ h => h) (Or.inl ⟨by rfl, ?_⟩) hHeld ?_ ?_
    rotate_left
    ·rintro w' ⟨s0, s1⟩
     go_simp
     with_reducible rfl
    rotate_left
    ·simp only [Act.put, List.setIfInBounds_toArray, List.set_cons_zero, List.set_cons_succ, i64_w, i32_w]
     rfl
    refine takeA (i := 1) (N := some 19) (v := ?_) (a' := ?_) #[true, true, false, false, false, false, false, false, false, false, false, false, false, false, false, false, false, false, false, false, false, false, false, false] rfl rfl (by kernel_rfl) (fun _ _ _ h => h) (Or.inl ⟨by rfl, ?_⟩) hHeld ?_ ?_
    rotate_left
    ·rintro w' ⟨s0, s1⟩
     go_simp
     with_reducible rfl
    rotate_left
    ·simp only [Act.put, List.setIfInBounds_toArray, List.set_cons_zero, List.set_cons_succ, i64_w, i32_w]
     rfl
    refine takeA (i := 2) (N := some 20) (v := ?_) (a' := ?_) #[true, true, true, false, false, false, false, false, false, false, false, false, false, false, false, false, false, false, false, false, false, false, false, false] rfl rfl (by kernel_rfl) (fun _ _ _ h => h) (Or.inl ⟨by rfl, ?_⟩) hHeld ?_ ?_
    rotate_left
    ·rintro w' ⟨s0, s1⟩
     go_simp
     with_reducible rfl
    rotate_left
    ·simp only [Act.put, List.setIfInBounds_toArray, List.set_cons_zero, List.set_cons_succ, i64_w, i32_w]
     rfl
    refine takeA (i := 3) (N := some 21) (v := ?_) (a' := ?_) #[true, true, true, true, false, false, false, false, false, false, false, false, false, false, false, false, false, false, false, false, false, false, false, false] rfl rfl (by kernel_rfl) (fun _ _ _ h => h) (Or.inl ⟨by rfl, ?_⟩) hHeld ?_ ?_
    rotate_left
    ·rintro w' ⟨s0, s1⟩
     go_simp
     with_reducible rfl
    rotate_left
    ·simp only [Act.put, List.setIfInBounds_toArray, List.set_cons_zero, List.set_cons_succ, i64_w, i32_w]
     rfl
    refine takeA (i := 4) (N := some 22) (v := ?_) (a' := ?_) #[true, true, true, true, true, false, false, false, false, false, false, false, false, false, false, false, false, false, false, false, false, false, false, false] rfl rfl (by kernel_rfl) (fun _ _ _ h => h) (Or.inl ⟨by rfl, ?_⟩) hHeld ?_ ?_
    rotate_left
    ·rintro w' ⟨s0, s1⟩
     go_simp
     with_reducible rfl
    rotate_left
    ·simp only [Act.put, List.setIfInBounds_toArray, List.set_cons_zero, List.set_cons_succ, i64_w, i32_w]
     rfl
    refine takeA (i := 5) (N := some 23) (v := undef) (a' := ?_) #[true, true, true, true, true, true, false, false, false, false, false, false, false, false, false, false, false, false, false, false, false, false, false, false] rfl rfl (by kernel_rfl) (fun _ _ _ h => h) (Or.inr ⟨by rfl, rfl⟩) hHeld ?_ ?_
    rotate_left
    ·simp only [Act.put, List.setIfInBounds_toArray, List.set_cons_zero, List.set_cons_succ, i64_w, i32_w]
     rfl
    refine takeA (i := 6) (N := some 24) (v := undef) (a' := ?_) #[true, true, true, true, true, true, true, false, false, false, false, false, false, false, false, false, false, false, false, false, false, false, false, false] rfl rfl (by kernel_rfl) (fun _ _ _ h => h) (Or.inr ⟨by rfl, rfl⟩) hHeld ?_ ?_
    rotate_left
    ·simp only [Act.put, List.setIfInBounds_toArray, List.set_cons_zero, List.set_cons_succ, i64_w, i32_w]
     rfl
    refine takeA (i := 7) (N := some 25) (v := undef) (a' := ?_) #[true, true, true, true, true, true, true, true, false, false, false, false, false, false, false, false, false, false, false, false, false, false, false, false] rfl rfl (by kernel_rfl) (fun _ _ _ h => h) (Or.inr ⟨by rfl, rfl⟩) hHeld ?_ ?_
    rotate_left
    ·simp only [Act.put, List.setIfInBounds_toArray, List.set_cons_zero, List.set_cons_succ, i64_w, i32_w]
     rfl
    refine takeA (i := 8) (N := some 26) (v := undef) (a' := ?_) #[true, true, true, true, true, true, true, true, true, false, false, false, false, false, false, false, false, false, false, false, false, false, false, false] rfl rfl (by kernel_rfl) (fun _ _ _ h => h) (Or.inr ⟨by rfl, rfl⟩) hHeld ?_ ?_
    rotate_left
    ·simp only [Act.put, List.setIfInBounds_toArray, List.set_cons_zero, List.set_cons_succ, i64_w, i32_w]
     rfl
    refine takeA (i := 9) (N := some 27) (v := undef) (a' := ?_) #[true, true, true, true, true, true, true, true, true, true, false, false, false, false, false, false, false, false, false, false, false, false, false, false] rfl rfl (by kernel_rfl) (fun _ _ _ h => h) (Or.inr ⟨by rfl, rfl⟩) hHeld ?_ ?_
    rotate_left
    ·simp only [Act.put, List.setIfInBounds_toArray, List.set_cons_zero, List.set_cons_succ, i64_w, i32_w]
     rfl
    refine takeA (i := 10) (N := some 28) (v := undef) (a' := ?_) #[true, true, true, true, true, true, true, true, true, true, true, false, false, false, false, false, false, false, false, false, false, false, false, false] rfl rfl (by kernel_rfl) (fun _ _ _ h => h) (Or.inr ⟨by rfl, rfl⟩) hHeld ?_ ?_
    rotate_left
    ·simp only [Act.put, List.setIfInBounds_toArray, List.set_cons_zero, List.set_cons_succ, i64_w, i32_w]
     rfl
    refine takeA (i := 11) (N := some 29) (v := undef) (a' := ?_) #[true, true, true, true, true, true, true, true, true, true, true, true, false, false, false, false, false, false, false, false, false, false, false, false] rfl rfl (by kernel_rfl) (fun _ _ _ h => h) (Or.inr ⟨by rfl, rfl⟩) hHeld ?_ ?_
    rotate_left
    ·simp only [Act.put, List.setIfInBounds_toArray, List.set_cons_zero, List.set_cons_succ, i64_w, i32_w]
     rfl
    refine takeA (i := 12) (N := some 30) (v := undef) (a' := ?_) #[true, true, true, true, true, true, true, true, true, true, true, true, true, false, false, false, false, false, false, false, false, false, false, false] rfl rfl (by kernel_rfl) (fun _ _ _ h => h) (Or.inr ⟨by rfl, rfl⟩) hHeld ?_ ?_
    rotate_left
    ·simp only [Act.put, List.setIfInBounds_toArray, List.set_cons_zero, List.set_cons_succ, i64_w, i32_w]
     rfl
    refine takeA (i := 13) (N := some 31) (v := undef) (a' := ?_) #[true, true, true, true, true, true, true, true, true, true, true, true, true, true, false, false, false, false, false, false, false, false, false, false] rfl rfl (by kernel_rfl) (fun _ _ _ h => h) (Or.inr ⟨by rfl, rfl⟩) hHeld ?_ ?_
    rotate_left
    ·simp only [Act.put, List.setIfInBounds_toArray, List.set_cons_zero, List.set_cons_succ, i64_w, i32_w]
     rfl
    refine takeA (i := 14) (N := some 32) (v := undef) (a' := ?_) #[true, true, true, true, true, true, true, true, true, true, true, true, true, true, true, false, false, false, false, false, false, false, false, false] rfl rfl (by kernel_rfl) (fun _ _ _ h => h) (Or.inr ⟨by rfl, rfl⟩) hHeld ?_ ?_
    rotate_left
    ·simp only [Act.put, List.setIfInBounds_toArray, List.set_cons_zero, List.set_cons_succ, i64_w, i32_w]
     rfl
    refine takeA (i := 15) (N := some 33) (v := undef) (a' := ?_) #[true, true, true, true, true, true, true, true, true, true, true, true, true, true, true, true, false, false, false, false, false, false, false, false] rfl rfl (by kernel_rfl) (fun _ _ _ h => h) (Or.inr ⟨by rfl, rfl⟩) hHeld ?_ ?_
    rotate_left
    ·simp only [Act.put, List.setIfInBounds_toArray, List.set_cons_zero, List.set_cons_succ, i64_w, i32_w]
     rfl
    refine takeA (i := 16) (N := some 34) (v := undef) (a' := ?_) #[true, true, true, true, true, true, true, true, true, true, true, true, true, true, true, true, true, false, false, false, false, false, false, false] rfl rfl (by kernel_rfl) (fun _ _ _ h => h) (Or.inr ⟨by rfl, rfl⟩) hHeld ?_ ?_
    rotate_left
    ·simp only [Act.put, List.setIfInBounds_toArray, List.set_cons_zero, List.set_cons_succ, i64_w, i32_w]
     rfl
    refine takeA (i := 17) (N := some 35) (v := ?_) (a' := ?_) #[true, true, true, true, true, true, true, true, true, true, true, true, true, true, true, true, true, true, false, false, false, false, false, false] rfl rfl (by kernel_rfl) (fun _ _ _ h => h) (Or.inl ⟨by rfl, ?_⟩) hHeld ?_ ?_
    rotate_left
    ·rintro w' ⟨s0, s1⟩
     go_simp
     with_reducible rfl
    rotate_left
    ·simp only [Act.put, List.setIfInBounds_toArray, List.set_cons_zero, List.set_cons_succ, i64_w, i32_w]
     rfl
    refine takeA (i := 18) (N := some 36) (v := ?_) (a' := ?_) #[true, true, true, true, true, true, true, true, true, true, true, true, true, true, true, true, true, true, true, false, false, false, false, false] rfl rfl (by kernel_rfl) (fun _ _ _ h => h) (Or.inl ⟨by rfl, ?_⟩) hHeld ?_ ?_
    rotate_left
    ·rintro w' ⟨s0, s1⟩
     go_simp
     with_reducible rfl
    rotate_left
    ·simp only [Act.put, List.setIfInBounds_toArray, List.set_cons_zero, List.set_cons_succ, i64_w, i32_w]
     rfl
    refine takeA (i := 19) (N := some 37) (v := undef) (a' := ?_) #[true, true, true, true, true, true, true, true, true, true, true, true, true, true, true, true, true, true, true, true, false, false, false, false] rfl rfl (by kernel_rfl) (fun _ _ _ h => h) (Or.inr ⟨by rfl, rfl⟩) hHeld ?_ ?_
    rotate_left
    ·simp only [Act.put, List.setIfInBounds_toArray, List.set_cons_zero, List.set_cons_succ, i64_w, i32_w]
     rfl
    refine takeA (i := 20) (N := some 38) (v := undef) (a' := ?_) #[true, true, true, true, true, true, true, true, true, true, true, true, true, true, true, true, true, true, true, true, true, false, false, false] rfl rfl (by kernel_rfl) (fun _ _ _ h => h) (Or.inr ⟨by rfl, rfl⟩) hHeld ?_ ?_
    rotate_left
    ·simp only [Act.put, List.setIfInBounds_toArray, List.set_cons_zero, List.set_cons_succ, i64_w, i32_w]
     rfl
    refine takeA (i := 21) (N := some 39) (v := undef) (a' := ?_) #[true, true, true, true, true, true, true, true, true, true, true, true, true, true, true, true, true, true, true, true, true, true, false, false] rfl rfl (by kernel_rfl) (fun _ _ _ h => h) (Or.inr ⟨by rfl, rfl⟩) hHeld ?_ ?_
    rotate_left
    ·simp only [Act.put, List.setIfInBounds_toArray, List.set_cons_zero, List.set_cons_succ, i64_w, i32_w]
     rfl
    refine takeA (i := 22) (N := some 40) (v := undef) (a' := ?_) #[true, true, true, true, true, true, true, true, true, true, true, true, true, true, true, true, true, true, true, true, true, true, true, false] rfl rfl (by kernel_rfl) (fun _ _ _ h => h) (Or.inr ⟨by rfl, rfl⟩) hHeld ?_ ?_
    rotate_left
    ·simp only [Act.put, List.setIfInBounds_toArray, List.set_cons_zero, List.set_cons_succ, i64_w, i32_w]
     rfl
    refine takeA (i := 23) (N := some 41) (v := ?_) (a' := ?_) #[true, true, true, true, true, true, true, true, true, true, true, true, true, true, true, true, true, true, true, true, true, true, true, true] rfl rfl (by kernel_rfl) (fun _ _ _ h => h) (Or.inl ⟨by rfl, ?_⟩) hHeld ?_ ?_
    rotate_left
    ·rintro w' ⟨s0, s1⟩
     go_simp
     with_reducible rfl
    rotate_left
    ·simp only [Act.put, List.setIfInBounds_toArray, List.set_cons_zero, List.set_cons_succ, i64_w, i32_w]
     rfl
    refine doneF (by kernel_rfl) ?_
    have JP3 := Aside0.mk (HJ.out _ _ W2.drew JP2.out ⟨rfl, rfl, rfl, Nat.le_refl _, fun _ _ _ => rfl⟩)
    have NI3 := Aside0.mk (NI2.out.grow GX2.out ⟨rfl, rfl, rfl, Nat.le_refl _, fun _ _ _ => rfl⟩ : NS n0 Bo Br B1 B2 B3 B4 child seq (some ad) l3.length c3 w0 W2.drew)
    have X3 : Aside0 (W2.drew.heap[gx]? = some (.cells #[.int .i64 d.f0, .int .i64 d.f1, .int .i64 d.f2, .int .i64 d.f3] 35 (0, 0))) := ⟨X2.out⟩
    have PRd : Aside0 (pre ++ d :: newsL child seq (prv l3 (k + 1)) (l3.drop (k + 1)) = newsL child seq none l3) := ⟨by
     have h := PR.out
     rw [newsL_at hlt, ← EY.out, if_neg (fun hx => hc hx.1), List.nil_append] at h
     exact h⟩
    clear JP NI PR JP2 NI2 X2 GX2 x0 q1 q3
    refine wpIn_cond_false rfl ?_
    refine wpIn_skip ?_
    have z0 : W2.drew.cell? ⟨gx, 0, none⟩ = some (.int .i64 d.f0) := blk_cell' X3.out 0 _ rfl
    have z1 : W2.drew.cell? ⟨gx, 1, none⟩ = some (.int .i64 d.f1) := blk_cell' X3.out 1 _ rfl
    have z2 : W2.drew.cell? ⟨gx, 2, none⟩ = some (.int .i64 d.f2) := blk_cell' X3.out 2 _ rfl
    have z3 : W2.drew.cell? ⟨gx, 3, none⟩ = some (.int .i64 d.f3) := blk_cell' X3.out 3 _ rfl
    obtain ⟨fn, tmps, assign, bdy, hy, hR⟩ := HY.out pre d W2.drew JP3.out (by have h := congrArg List.length PRd.out; simp only [List.length_append, List.length_cons, List.length_nil] at h ⊢; omega)
    dsimp only [enc35] at hy
    show Code.wpIn _ _ _ _ _ _ _
    gi_wp2
    refine ⟨(fun h => (by cases h)), hR.mono ?_⟩
    clear hR hy z0 z1 z2 z3
    rintro e W5 (⟨rfl, hJ3, hk3⟩ | ⟨rfl, hJx3⟩)
    ·have hJ5 := Aside0.mk hJ3
     have NI5 := Aside0.mk (NI3.out.step hk3)
     clear hJ3 hk3
     gi_wp2
     go_roundw
     case rel => first | exact ⟨k + 1, pre ++ [d], by omega, by go_num, hJ5, ⟨by rw [List.append_assoc]; exact PRd.out⟩, NI5⟩ | (refine ⟨.int .i64 k, .pointer (some ⟨gx, 0, none⟩), .int .i64 ((k : Int) + 1), ⟨k + 1, by omega, by go_num, pre ++ [d], hJ5, ⟨by rw [List.append_assoc]; exact PRd.out⟩, NI5⟩, ?_⟩; (repeat apply Exists.intro); rfl)
     case measure => simp [intOf]; omega
    ·have hJ5 := Aside0.mk hJx3
     clear hJx3
     gi_wp2
     refine bodyPost_ret (results_none rfl _ _ _) rfl ?_
     exact ⟨⟨_, rfl⟩, .inr ⟨_, trivial, hJ5.out⟩⟩
  ·have hltz : ¬ (k : Int) < (l3.length : Int) := by omega
   have hd := decide_eq_false hltz
   have hdn := decide_eq_false hlt
   have hkl : k = l3.length := by omega
   have PR2 : Aside0 (pre ++ newsL child seq (prv l3 l3.length) [] = newsL child seq none l3) := ⟨by have := PR.out; rw [hkl, List.drop_length] at this; exact this⟩
   have JP3 := Aside0.mk (HJ.out _ _ wr.drew JP.out ⟨rfl, rfl, rfl, Nat.le_refl _, fun _ _ _ => rfl⟩)
   clear hkl PR
   gi_wp2
   clear hd hdn hltz hlt
   have q1 : wr.cell? ⟨B1, 0, none⟩ = some (.int .i64 child) := blk_cell' NI.out.b1 0 _ rfl
   have q3 : wr.cell? ⟨B3, 0, none⟩ = some (.slice A3 l3.length c3) := blk_cell' NI.out.b3 0 _ rfl
   rcases Nat.eq_zero_or_pos l3.length with hz | hz
   ·have hz2 : ((l3.length : Int) == 0) = true := by simp [hz]
    have PRo : Aside0 (pre ++ [ownS child seq] = newsL child seq none l3) := ⟨by
     have h := PR2.out
     rw [hz] at h
     exact h⟩
    clear hz PR2
    refine start2 (r := none) (k := 14) (fun w' => w'.cell? ⟨B3, 0, none⟩ = some (.slice A3 l3.length c3)) (fun w' => True) [] [] #[false, false, false, false, false, false, false, false, false, false, false, false, false, false] (by decide) (by kernel_rfl) rfl rfl (q3) trivial (fun hHeld hHeld2 => ?_)
    refine takeA (i := 0) (N := some 47) (v := ?_) (a' := ?_) #[true, false, false, false, false, false, false, false, false, false, false, false, false, false] rfl rfl (by kernel_rfl) (fun _ _ _ h => h) (Or.inl ⟨by rfl, ?_⟩) hHeld ?_ ?_
    rotate_left
    ·intro w' s0
     go_simp
     with_reducible rfl
    rotate_left
    ·simp only [Act.put, List.setIfInBounds_toArray, List.set_cons_zero, List.set_cons_succ, i64_w, i32_w]
     rfl
    refine takeA (i := 1) (N := some 48) (v := ?_) (a' := ?_) #[true, true, false, false, false, false, false, false, false, false, false, false, false, false] rfl rfl (by kernel_rfl) (fun _ _ _ h => h) (Or.inl ⟨by rfl, ?_⟩) hHeld ?_ ?_
    rotate_left
    ·intro w' s0
     go_simp
     with_reducible rfl
    rotate_left
    ·simp only [Act.put, List.setIfInBounds_toArray, List.set_cons_zero, List.set_cons_succ, i64_w, i32_w]
     rfl
    refine takeA (i := 2) (N := some 49) (v := ?_) (a' := ?_) #[true, true, true, false, false, false, false, false, false, false, false, false, false, false] rfl rfl (by kernel_rfl) (fun _ _ _ h => h) (Or.inl ⟨by rfl, ?_⟩) hHeld ?_ ?_
    rotate_left
    ·intro w' s0
     go_simp
     with_reducible rfl
    rotate_left
    ·simp only [Act.put, List.setIfInBounds_toArray, List.set_cons_zero, List.set_cons_succ, i64_w, i32_w]
     rfl
    refine takeA (i := 3) (N := some 50) (v := ?_) (a' := ?_) #[true, true, true, true, false, false, false, false, false, false, false, false, false, false] rfl rfl (by kernel_rfl) (fun _ _ _ h => h) (Or.inl ⟨by rfl, ?_⟩) hHeld ?_ ?_
    rotate_left
    ·intro w' s0
     go_simp
     with_reducible rfl
    rotate_left
    ·simp only [Act.put, List.setIfInBounds_toArray, List.set_cons_zero, List.set_cons_succ, i64_w, i32_w]
     rfl
    refine takeA (i := 4) (N := some 51) (v := undef) (a' := ?_) #[true, true, true, true, true, false, false, false, false, false, false, false, false, false] rfl rfl (by kernel_rfl) (fun _ _ _ h => h) (Or.inr ⟨by rfl, rfl⟩) hHeld ?_ ?_
    rotate_left
    ·simp only [Act.put, List.setIfInBounds_toArray, List.set_cons_zero, List.set_cons_succ, i64_w, i32_w]
     rfl
    refine takeA (i := 5) (N := some 52) (v := undef) (a' := ?_) #[true, true, true, true, true, true, false, false, false, false, false, false, false, false] rfl rfl (by kernel_rfl) (fun _ _ _ h => h) (Or.inr ⟨by rfl, rfl⟩) hHeld ?_ ?_
    rotate_left
    ·simp only [Act.put, List.setIfInBounds_toArray, List.set_cons_zero, List.set_cons_succ, i64_w, i32_w]
     rfl
    refine takeA (i := 6) (N := some 53) (v := undef) (a' := ?_) #[true, true, true, true, true, true, true, false, false, false, false, false, false, false] rfl rfl (by kernel_rfl) (fun _ _ _ h => h) (Or.inr ⟨by rfl, rfl⟩) hHeld ?_ ?_
    rotate_left
    ·simp only [Act.put, List.setIfInBounds_toArray, List.set_cons_zero, List.set_cons_succ, i64_w, i32_w]
     rfl
    refine takeA (i := 7) (N := some 54) (v := undef) (a' := ?_) #[true, true, true, true, true, true, true, true, false, false, false, false, false, false] rfl rfl (by kernel_rfl) (fun _ _ _ h => h) (Or.inr ⟨by rfl, rfl⟩) hHeld ?_ ?_
    rotate_left
    ·simp only [Act.put, List.setIfInBounds_toArray, List.set_cons_zero, List.set_cons_succ, i64_w, i32_w]
     rfl
    refine takeA (i := 8) (N := some 55) (v := undef) (a' := ?_) #[true, true, true, true, true, true, true, true, true, false, false, false, false, false] rfl rfl (by kernel_rfl) (fun _ _ _ h => h) (Or.inr ⟨by rfl, rfl⟩) hHeld ?_ ?_
    rotate_left
    ·simp only [Act.put, List.setIfInBounds_toArray, List.set_cons_zero, List.set_cons_succ, i64_w, i32_w]
     rfl
    refine takeA (i := 9) (N := some 56) (v := undef) (a' := ?_) #[true, true, true, true, true, true, true, true, true, true, false, false, false, false] rfl rfl (by kernel_rfl) (fun _ _ _ h => h) (Or.inr ⟨by rfl, rfl⟩) hHeld ?_ ?_
    rotate_left
    ·simp only [Act.put, List.setIfInBounds_toArray, List.set_cons_zero, List.set_cons_succ, i64_w, i32_w]
     rfl
    refine takeA (i := 10) (N := some 57) (v := undef) (a' := ?_) #[true, true, true, true, true, true, true, true, true, true, true, false, false, false] rfl rfl (by kernel_rfl) (fun _ _ _ h => h) (Or.inr ⟨by rfl, rfl⟩) hHeld ?_ ?_
    rotate_left
    ·simp only [Act.put, List.setIfInBounds_toArray, List.set_cons_zero, List.set_cons_succ, i64_w, i32_w]
     rfl
    refine takeA (i := 11) (N := some 58) (v := undef) (a' := ?_) #[true, true, true, true, true, true, true, true, true, true, true, true, false, false] rfl rfl (by kernel_rfl) (fun _ _ _ h => h) (Or.inr ⟨by rfl, rfl⟩) hHeld ?_ ?_
    rotate_left
    ·simp only [Act.put, List.setIfInBounds_toArray, List.set_cons_zero, List.set_cons_succ, i64_w, i32_w]
     rfl
    refine takeA (i := 12) (N := some 59) (v := undef) (a' := ?_) #[true, true, true, true, true, true, true, true, true, true, true, true, true, false] rfl rfl (by kernel_rfl) (fun _ _ _ h => h) (Or.inr ⟨by rfl, rfl⟩) hHeld ?_ ?_
    rotate_left
    ·simp only [Act.put, List.setIfInBounds_toArray, List.set_cons_zero, List.set_cons_succ, i64_w, i32_w]
     rfl
    refine takeA (i := 13) (N := some 60) (v := ?_) (a' := ?_) #[true, true, true, true, true, true, true, true, true, true, true, true, true, true] rfl rfl (by kernel_rfl) (fun _ _ _ h => h) (Or.inl ⟨by rfl, ?_⟩) hHeld ?_ ?_
    rotate_left
    ·intro w' s0
     go_simp
     with_reducible rfl
    rotate_left
    ·simp only [Act.put, List.setIfInBounds_toArray, List.set_cons_zero, List.set_cons_succ, i64_w, i32_w]
     rfl
    refine doneF (by kernel_rfl) ?_
    clear q1 q3 hz2
    obtain ⟨fno, tmo, aso, bdo, hyo, hRo⟩ := HY.out pre (ownS child seq) wr.drew JP3.out (by have h := congrArg List.length PRo.out; simp only [List.length_append, List.length_cons, List.length_nil] at h ⊢; omega)
    dsimp only [enc35, ownS] at hyo
    have y0 : wr.cell? ⟨B4, 0, none⟩ = some (.int .i64 child) := blk_cell' NI.out.b4 0 _ rfl
    have y1 : wr.cell? ⟨B4, 1, none⟩ = some (.int .i64 0) := blk_cell' NI.out.b4 1 _ rfl
    have y2 : wr.cell? ⟨B4, 2, none⟩ = some (.int .i64 seq) := blk_cell' NI.out.b4 2 _ rfl
    have y3 : wr.cell? ⟨B4, 3, none⟩ = some (.int .i64 0) := blk_cell' NI.out.b4 3 _ rfl
    show Exit.then _ _ _ _ _
    gi_wp2
    refine ⟨(fun h => (by cases h)), hRo.mono ?_⟩
    clear hRo hyo y0 y1 y2 y3
    rintro e W4 (⟨rfl, hJ4, hk4⟩ | ⟨rfl, hJx4⟩)
    ·have JP4 := Aside0.mk hJ4
     clear hJ4 hk4
     gi_wp2
     go_end0
     exact ⟨⟨_, rfl⟩, .inl ⟨_, PRo.out, JP4.out⟩⟩
    ·have JP4 := Aside0.mk hJx4
     clear hJx4
     gi_wp2
     go_end0
     exact ⟨⟨_, rfl⟩, .inr ⟨_, trivial, JP4.out⟩⟩
   ·have hz2 : ((l3.length : Int) == 0) = false := beq_eq_false_iff_ne.mpr (by omega)
    have j0 : 0 ≤ (l3.length : Int) - 1 := by omega
    have j1 : (l3.length : Int) - 1 < (l3.length : Int) := by omega
    have j2 : IntKind.i64.wrap ((l3.length : Int) - 1) = (l3.length : Int) - 1 := IntWalk.i64_in _ (by omega)
    have j3 : 1 ≤ (l3.length : Int) := by omega
    have hpv : prv l3 l3.length = some (l3.getD (l3.length - 1) z35).f0 := by unfold prv; rw [if_neg (by omega)]
    obtain ⟨ad, hA, g0, _⟩ := at_T35 HL3.out ((l3.length - 1 : Nat) : Int) (by omega) (by omega)
    subst hA
    replace g0 := (NI.out.low.cell (by rw [HN0.out]; exact World.block_lt_of_cell? w0 _ g0)).trans g0
    have px : wr.cell? (ad.add ((l3.length - 1) * 4)) = some (.int .i64 (l3.getD (l3.length - 1) z35).f0) := by simpa [rd_T35] using g0
    clear g0
    generalize (l3.getD (l3.length - 1) z35).f0 = pv at px hpv
    have PV := Aside0.mk hpv
    clear hpv hz
    by_cases hp : pv < child
    ·have hpd := decide_eq_true hp
     have PRo : Aside0 (pre ++ [ownS child seq] = newsL child seq none l3) := ⟨by
      have h := PR2.out
      rw [PV.out] at h
      rw [newsL_end] at h
      rw [if_pos (by simpa using hp)] at h
      exact h⟩
     clear PR2
     refine start2 (r := none) (k := 14) (fun w' => w'.cell? ⟨B1, 0, none⟩ = some (.int .i64 child) ∧ w'.cell? ⟨B3, 0, none⟩ = some (.slice (some ad) l3.length c3) ∧ w'.cell? (ad.add ((l3.length - 1) * 4)) = some (.int .i64 pv)) (fun w' => True) [] [] #[false, false, false, false, false, false, false, false, false, false, false, false, false, false] (by decide) (by kernel_rfl) rfl rfl ⟨q1, q3, px⟩ trivial (fun hHeld hHeld2 => ?_)
     refine takeA (i := 0) (N := some 47) (v := ?_) (a' := ?_) #[true, false, false, false, false, false, false, false, false, false, false, false, false, false] rfl rfl (by kernel_rfl) (fun _ _ _ h => h) (Or.inl ⟨by rfl, ?_⟩) hHeld ?_ ?_
     rotate_left
     ·rintro w' ⟨s0, s1, s2⟩
      go_simp
      with_reducible rfl
     rotate_left
     ·simp only [Act.put, List.setIfInBounds_toArray, List.set_cons_zero, List.set_cons_succ, i64_w, i32_w]
      rfl
     refine takeA (i := 1) (N := some 48) (v := ?_) (a' := ?_) #[true, true, false, false, false, false, false, false, false, false, false, false, false, false] rfl rfl (by kernel_rfl) (fun _ _ _ h => h) (Or.inl ⟨by rfl, ?_⟩) hHeld ?_ ?_
     rotate_left
     ·rintro w' ⟨s0, s1, s2⟩
      go_simp
      with_reducible rfl
     rotate_left
     ·simp only [Act.put, List.setIfInBounds_toArray, List.set_cons_zero, List.set_cons_succ, i64_w, i32_w]
      rfl
     refine takeA (i := 2) (N := some 49) (v := ?_) (a' := ?_) #[true, true, true, false, false, false, false, false, false, false, false, false, false, false] rfl rfl (by kernel_rfl) (fun _ _ _ h => h) (Or.inl ⟨by rfl, ?_⟩) hHeld ?_ ?_
     rotate_left
     ·rintro w' ⟨s0, s1, s2⟩
      go_simp
      with_reducible rfl
     rotate_left
     ·simp only [Act.put, List.setIfInBounds_toArray, List.set_cons_zero, List.set_cons_succ, i64_w, i32_w]
      rfl
     refine takeA (i := 3) (N := some 50) (v := ?_) (a' := ?_) #[true, true, true, true, false, false, false, false, false, false, false, false, false, false] rfl rfl (by kernel_rfl) (fun _ _ _ h => h) (Or.inl ⟨by rfl, ?_⟩) hHeld ?_ ?_
     rotate_left
     ·rintro w' ⟨s0, s1, s2⟩
      go_simp
      with_reducible rfl
     rotate_left
     ·simp only [Act.put, List.setIfInBounds_toArray, List.set_cons_zero, List.set_cons_succ, i64_w, i32_w]
      rfl
     refine takeA (i := 4) (N := some 51) (v := ?_) (a' := ?_) #[true, true, true, true, true, false, false, false, false, false, false, false, false, false] rfl rfl (by kernel_rfl) (fun _ _ _ h => h) (Or.inl ⟨by rfl, ?_⟩) hHeld ?_ ?_
     rotate_left
     ·rintro w' ⟨s0, s1, s2⟩
      go_simp
      with_reducible rfl
     rotate_left
     ·simp only [Act.put, List.setIfInBounds_toArray, List.set_cons_zero, List.set_cons_succ, i64_w, i32_w]
      rfl
     refine takeA (i := 5) (N := some 52) (v := ?_) (a' := ?_) #[true, true, true, true, true, true, false, false, false, false, false, false, false, false] rfl rfl (by kernel_rfl) (fun _ _ _ h => h) (Or.inl ⟨by rfl, ?_⟩) hHeld ?_ ?_
     rotate_left
     ·rintro w' ⟨s0, s1, s2⟩
      go_simp
      with_reducible rfl
     rotate_left
     ·simp only [Act.put, List.setIfInBounds_toArray, List.set_cons_zero, List.set_cons_succ, i64_w, i32_w]
      rfl
     refine takeA (i := 6) (N := some 53) (v := ?_) (a' := ?_) #[true, true, true, true, true, true, true, false, false, false, false, false, false, false] rfl rfl (by kernel_rfl) (fun _ _ _ h => h) (Or.inl ⟨by rfl, ?_⟩) hHeld ?_ ?_
     rotate_left
     ·rintro w' ⟨s0, s1, s2⟩
      go_simp
      with_reducible rfl
     rotate_left
     ·simp only [Act.put, List.setIfInBounds_toArray, List.set_cons_zero, List.set_cons_succ, i64_w, i32_w]
      rfl
     refine takeA (i := 7) (N := some 54) (v := ?_) (a' := ?_) #[true, true, true, true, true, true, true, true, false, false, false, false, false, false] rfl rfl (by kernel_rfl) (fun _ _ _ h => h) (Or.inl ⟨by rfl, ?_⟩) hHeld ?_ ?_
     rotate_left
     ·rintro w' ⟨s0, s1, s2⟩
      go_simp
      with_reducible rfl
     rotate_left
     ·simp only [Act.put, List.setIfInBounds_toArray, List.set_cons_zero, List.set_cons_succ, i64_w, i32_w]
      rfl
     refine takeA (i := 8) (N := some 55) (v := ?_) (a' := ?_) #[true, true, true, true, true, true, true, true, true, false, false, false, false, false] rfl rfl (by kernel_rfl) (fun _ _ _ h => h) (Or.inl ⟨by rfl, ?_⟩) hHeld ?_ ?_
     rotate_left
     ·rintro w' ⟨s0, s1, s2⟩
      go_simp
      with_reducible rfl
     rotate_left
     ·simp only [Act.put, List.setIfInBounds_toArray, List.set_cons_zero, List.set_cons_succ, i64_w, i32_w]
      rfl
     refine takeA (i := 9) (N := some 56) (v := ?_) (a' := ?_) #[true, true, true, true, true, true, true, true, true, true, false, false, false, false] rfl rfl (by kernel_rfl) (fun _ _ _ h => h) (Or.inl ⟨by rfl, ?_⟩) hHeld ?_ ?_
     rotate_left
     ·rintro w' ⟨s0, s1, s2⟩
      go_simp
      with_reducible rfl
     rotate_left
     ·simp only [Act.put, List.setIfInBounds_toArray, List.set_cons_zero, List.set_cons_succ, i64_w, i32_w]
      rfl
     refine takeA (i := 10) (N := some 57) (v := ?_) (a' := ?_) #[true, true, true, true, true, true, true, true, true, true, true, false, false, false] rfl rfl (by kernel_rfl) (fun _ _ _ h => h) (Or.inl ⟨by rfl, ?_⟩) hHeld ?_ ?_
     rotate_left
     ·rintro w' ⟨s0, s1, s2⟩
      go_simp
      with_reducible rfl
     rotate_left
     ·simp only [Act.put, List.setIfInBounds_toArray, List.set_cons_zero, List.set_cons_succ, i64_w, i32_w]
      rfl
     refine takeA (i := 11) (N := some 58) (v := ?_) (a' := ?_) #[true, true, true, true, true, true, true, true, true, true, true, true, false, false] rfl rfl (by kernel_rfl) (fun _ _ _ h => h) (Or.inl ⟨by rfl, ?_⟩) hHeld ?_ ?_
     rotate_left
     ·rintro w' ⟨s0, s1, s2⟩
      go_simp
      with_reducible rfl
     rotate_left
     ·simp only [Act.put, List.setIfInBounds_toArray, List.set_cons_zero, List.set_cons_succ, i64_w, i32_w]
      rfl
     refine takeA (i := 12) (N := some 59) (v := ?_) (a' := ?_) #[true, true, true, true, true, true, true, true, true, true, true, true, true, false] rfl rfl (by kernel_rfl) (fun _ _ _ h => h) (Or.inl ⟨by rfl, ?_⟩) hHeld ?_ ?_
     rotate_left
     ·rintro w' ⟨s0, s1, s2⟩
      go_simp
      with_reducible rfl
     rotate_left
     ·simp only [Act.put, List.setIfInBounds_toArray, List.set_cons_zero, List.set_cons_succ, i64_w, i32_w]
      rfl
     refine takeA (i := 13) (N := some 60) (v := ?_) (a' := ?_) #[true, true, true, true, true, true, true, true, true, true, true, true, true, true] rfl rfl (by kernel_rfl) (fun _ _ _ h => h) (Or.inl ⟨by rfl, ?_⟩) hHeld ?_ ?_
     rotate_left
     ·rintro w' ⟨s0, s1, s2⟩
      go_simp
      with_reducible rfl
     rotate_left
     ·simp only [Act.put, List.setIfInBounds_toArray, List.set_cons_zero, List.set_cons_succ, i64_w, i32_w]
      rfl
     refine doneF (by kernel_rfl) ?_
     clear q1 q3 hz2 px j0 j1 j2 j3
     obtain ⟨fno, tmo, aso, bdo, hyo, hRo⟩ := HY.out pre (ownS child seq) wr.drew JP3.out (by have h := congrArg List.length PRo.out; simp only [List.length_append, List.length_cons, List.length_nil] at h ⊢; omega)
     dsimp only [enc35, ownS] at hyo
     have y0 : wr.cell? ⟨B4, 0, none⟩ = some (.int .i64 child) := blk_cell' NI.out.b4 0 _ rfl
     have y1 : wr.cell? ⟨B4, 1, none⟩ = some (.int .i64 0) := blk_cell' NI.out.b4 1 _ rfl
     have y2 : wr.cell? ⟨B4, 2, none⟩ = some (.int .i64 seq) := blk_cell' NI.out.b4 2 _ rfl
     have y3 : wr.cell? ⟨B4, 3, none⟩ = some (.int .i64 0) := blk_cell' NI.out.b4 3 _ rfl
     show Exit.then _ _ _ _ _
     gi_wp2
     refine ⟨(fun h => (by cases h)), hRo.mono ?_⟩
     clear hRo hyo y0 y1 y2 y3
     rintro e W4 (⟨rfl, hJ4, hk4⟩ | ⟨rfl, hJx4⟩)
     ·have JP4 := Aside0.mk hJ4
      clear hJ4 hk4
      gi_wp2
      go_end0
      exact ⟨⟨_, rfl⟩, .inl ⟨_, PRo.out, JP4.out⟩⟩
     ·have JP4 := Aside0.mk hJx4
      clear hJx4
      gi_wp2
      go_end0
      exact ⟨⟨_, rfl⟩, .inr ⟨_, trivial, JP4.out⟩⟩
    ·have hpd := decide_eq_false hp
     have PRo : Aside0 (pre = newsL child seq none l3) := ⟨by
      have h := PR2.out
      rw [PV.out] at h
      rw [newsL_end] at h
      rw [if_neg (by simpa using hp), List.append_nil] at h
      exact h⟩
     clear PR2
     refine start2 (r := none) (k := 14) (fun w' => w'.cell? ⟨B1, 0, none⟩ = some (.int .i64 child) ∧ w'.cell? ⟨B3, 0, none⟩ = some (.slice (some ad) l3.length c3) ∧ w'.cell? (ad.add ((l3.length - 1) * 4)) = some (.int .i64 pv)) (fun w' => True) [] [] #[false, false, false, false, false, false, false, false, false, false, false, false, false, false] (by decide) (by kernel_rfl) rfl rfl ⟨q1, q3, px⟩ trivial (fun hHeld hHeld2 => ?_)
     refine takeA (i := 0) (N := some 47) (v := ?_) (a' := ?_) #[true, false, false, false, false, false, false, false, false, false, false, false, false, false] rfl rfl (by kernel_rfl) (fun _ _ _ h => h) (Or.inl ⟨by rfl, ?_⟩) hHeld ?_ ?_
     rotate_left
     ·rintro w' ⟨s0, s1, s2⟩
      go_simp
      with_reducible rfl
     rotate_left
     ·simp only [Act.put, List.setIfInBounds_toArray, List.set_cons_zero, List.set_cons_succ, i64_w, i32_w]
      rfl
     refine takeA (i := 1) (N := some 48) (v := ?_) (a' := ?_) #[true, true, false, false, false, false, false, false, false, false, false, false, false, false] rfl rfl (by kernel_rfl) (fun _ _ _ h => h) (Or.inl ⟨by rfl, ?_⟩) hHeld ?_ ?_
     rotate_left
     ·rintro w' ⟨s0, s1, s2⟩
      go_simp
      with_reducible rfl
     rotate_left
     ·simp only [Act.put, List.setIfInBounds_toArray, List.set_cons_zero, List.set_cons_succ, i64_w, i32_w]
      rfl
     refine takeA (i := 2) (N := some 49) (v := ?_) (a' := ?_) #[true, true, true, false, false, false, false, false, false, false, false, false, false, false] rfl rfl (by kernel_rfl) (fun _ _ _ h => h) (Or.inl ⟨by rfl, ?_⟩) hHeld ?_ ?_
     rotate_left
     ·rintro w' ⟨s0, s1, s2⟩
      go_simp
      with_reducible rfl
     rotate_left
     ·simp only [Act.put, List.setIfInBounds_toArray, List.set_cons_zero, List.set_cons_succ, i64_w, i32_w]
      rfl
     refine takeA (i := 3) (N := some 50) (v := ?_) (a' := ?_) #[true, true, true, true, false, false, false, false, false, false, false, false, false, false] rfl rfl (by kernel_rfl) (fun _ _ _ h => h) (Or.inl ⟨by rfl, ?_⟩) hHeld ?_ ?_
     rotate_left
     ·rintro w' ⟨s0, s1, s2⟩
      go_simp
      with_reducible rfl
     rotate_left
     ·simp only [Act.put, List.setIfInBounds_toArray, List.set_cons_zero, List.set_cons_succ, i64_w, i32_w]
      rfl
     refine takeA (i := 4) (N := some 51) (v := ?_) (a' := ?_) #[true, true, true, true, true, false, false, false, false, false, false, false, false, false] rfl rfl (by kernel_rfl) (fun _ _ _ h => h) (Or.inl ⟨by rfl, ?_⟩) hHeld ?_ ?_
     rotate_left
     ·rintro w' ⟨s0, s1, s2⟩
      go_simp
      with_reducible rfl
     rotate_left
     ·simp only [Act.put, List.setIfInBounds_toArray, List.set_cons_zero, List.set_cons_succ, i64_w, i32_w]
      rfl
     refine takeA (i := 5) (N := some 52) (v := ?_) (a' := ?_) #[true, true, true, true, true, true, false, false, false, false, false, false, false, false] rfl rfl (by kernel_rfl) (fun _ _ _ h => h) (Or.inl ⟨by rfl, ?_⟩) hHeld ?_ ?_
     rotate_left
     ·rintro w' ⟨s0, s1, s2⟩
      go_simp
      with_reducible rfl
     rotate_left
     ·simp only [Act.put, List.setIfInBounds_toArray, List.set_cons_zero, List.set_cons_succ, i64_w, i32_w]
      rfl
     refine takeA (i := 6) (N := some 53) (v := ?_) (a' := ?_) #[true, true, true, true, true, true, true, false, false, false, false, false, false, false] rfl rfl (by kernel_rfl) (fun _ _ _ h => h) (Or.inl ⟨by rfl, ?_⟩) hHeld ?_ ?_
     rotate_left
     ·rintro w' ⟨s0, s1, s2⟩
      go_simp
      with_reducible rfl
     rotate_left
     ·simp only [Act.put, List.setIfInBounds_toArray, List.set_cons_zero, List.set_cons_succ, i64_w, i32_w]
      rfl
     refine takeA (i := 7) (N := some 54) (v := ?_) (a' := ?_) #[true, true, true, true, true, true, true, true, false, false, false, false, false, false] rfl rfl (by kernel_rfl) (fun _ _ _ h => h) (Or.inl ⟨by rfl, ?_⟩) hHeld ?_ ?_
     rotate_left
     ·rintro w' ⟨s0, s1, s2⟩
      go_simp
      with_reducible rfl
     rotate_left
     ·simp only [Act.put, List.setIfInBounds_toArray, List.set_cons_zero, List.set_cons_succ, i64_w, i32_w]
      rfl
     refine takeA (i := 8) (N := some 55) (v := ?_) (a' := ?_) #[true, true, true, true, true, true, true, true, true, false, false, false, false, false] rfl rfl (by kernel_rfl) (fun _ _ _ h => h) (Or.inl ⟨by rfl, ?_⟩) hHeld ?_ ?_
     rotate_left
     ·rintro w' ⟨s0, s1, s2⟩
      go_simp
      with_reducible rfl
     rotate_left
     ·simp only [Act.put, List.setIfInBounds_toArray, List.set_cons_zero, List.set_cons_succ, i64_w, i32_w]
      rfl
     refine takeA (i := 9) (N := some 56) (v := ?_) (a' := ?_) #[true, true, true, true, true, true, true, true, true, true, false, false, false, false] rfl rfl (by kernel_rfl) (fun _ _ _ h => h) (Or.inl ⟨by rfl, ?_⟩) hHeld ?_ ?_
     rotate_left
     ·rintro w' ⟨s0, s1, s2⟩
      go_simp
      with_reducible rfl
     rotate_left
     ·simp only [Act.put, List.setIfInBounds_toArray, List.set_cons_zero, List.set_cons_succ, i64_w, i32_w]
      rfl
     refine takeA (i := 10) (N := some 57) (v := ?_) (a' := ?_) #[true, true, true, true, true, true, true, true, true, true, true, false, false, false] rfl rfl (by kernel_rfl) (fun _ _ _ h => h) (Or.inl ⟨by rfl, ?_⟩) hHeld ?_ ?_
     rotate_left
     ·rintro w' ⟨s0, s1, s2⟩
      go_simp
      with_reducible rfl
     rotate_left
     ·simp only [Act.put, List.setIfInBounds_toArray, List.set_cons_zero, List.set_cons_succ, i64_w, i32_w]
      rfl
     refine takeA (i := 11) (N := some 58) (v := ?_) (a' := ?_) #[true, true, true, true, true, true, true, true, true, true, true, true, false, false] rfl rfl (by kernel_rfl) (fun _ _ _ h => h) (Or.inl ⟨by rfl, ?_⟩) hHeld ?_ ?_
     rotate_left
     ·rintro w' ⟨s0, s1, s2⟩
      go_simp
      with_reducible rfl
     rotate_left
     ·simp only [Act.put, List.setIfInBounds_toArray, List.set_cons_zero, List.set_cons_succ, i64_w, i32_w]
      rfl
     refine takeA (i := 12) (N := some 59) (v := ?_) (a' := ?_) #[true, true, true, true, true, true, true, true, true, true, true, true, true, false] rfl rfl (by kernel_rfl) (fun _ _ _ h => h) (Or.inl ⟨by rfl, ?_⟩) hHeld ?_ ?_
     rotate_left
     ·rintro w' ⟨s0, s1, s2⟩
      go_simp
      with_reducible rfl
     rotate_left
     ·simp only [Act.put, List.setIfInBounds_toArray, List.set_cons_zero, List.set_cons_succ, i64_w, i32_w]
      rfl
     refine takeA (i := 13) (N := some 60) (v := ?_) (a' := ?_) #[true, true, true, true, true, true, true, true, true, true, true, true, true, true] rfl rfl (by kernel_rfl) (fun _ _ _ h => h) (Or.inl ⟨by rfl, ?_⟩) hHeld ?_ ?_
     rotate_left
     ·rintro w' ⟨s0, s1, s2⟩
      go_simp
      with_reducible rfl
     rotate_left
     ·simp only [Act.put, List.setIfInBounds_toArray, List.set_cons_zero, List.set_cons_succ, i64_w, i32_w]
      rfl
     refine doneF (by kernel_rfl) ?_
     clear q1 q3 hz2 px j0 j1 j2 j3
     show Exit.then _ _ _ _ _
     gi_wp2
     go_end0
     first | exact ⟨⟨_, rfl⟩, .inl ⟨_, PRo.out, JP3.out⟩⟩ | exact ⟨⟨_, rfl⟩, .inl (by rw [← PRo.out]; exact JP3.out)⟩ | exact .inl (by rw [← PRo.out]; exact JP3.out)
end Go.Proofs.Ythobfempjekhdaa.Px
