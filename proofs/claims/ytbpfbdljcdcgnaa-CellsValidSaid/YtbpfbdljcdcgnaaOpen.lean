/- What a reader's reading says of an argument's cells, kind by kind. -/
import Derived.Test.YtbpfbdljcdcgnaaPx0
import Derived.Deep.Slices
import Derived.Deep.Fields
import Derived.ChangeSame
import Derived.WalkKit
import Derived.ProofKit
import Derived.OpenShut
import Derived.ShutString
import Derived.ChangeOld
import Derived.Below
import Derived.SizedLaws
namespace Go.Proofs.Ytbpfbdljcdcgnaa.Px
open Go.RowKit Go.Proofs.YtbpfbdljcdcgnaaW.PrintWords Go.Proofs.YtbpfbdljcdcgnaaW.PrintLast Go.Proofs.YtbpfbdljcdcgnaaW.PrintMore
open Go.ChangeShapes Go.WideShapes Go.ChangeAt
set_option linter.unusedVariables false
set_option linter.unusedSimpArgs false
/-! What a reader's reading says of an argument's cells, kind by kind. -/
section
/-- Whatever reads as a datum of type t has the cells of some x of the kind d, with ok x. -/
def Op (P : Program) (t : TypeId) {α : Type} (d : Kd α) (ok : α → Prop) : Prop :=
  ∀ (H : Type) (enc : TypeId × Value → H) (w : World) (base : Nat) (spare : Nat → Bool) (held : Bool) (fuel : Nat) (cs : List Value) (y : DataW H × List MemPlace), DataW.trod enc P w base spare held fuel t cs = some y → ∃ x, ok x ∧ d.K w x cs
theorem Op.int {P : Program} {t : TypeId} {k : IntKind} (ht : P.underlying t = some (.int k)) : Op P t (Kd.int k) (fun x => (Lit.int k x).wf = true) := by
  intro H enc w base spare held fuel cs y h
  obtain ⟨n, rfl, _, hw⟩ := DataW.trod_int ht h
  exact ⟨n, hw, rfl⟩
theorem Op.bool {P : Program} {t : TypeId} (ht : P.underlying t = some .bool) : Op P t Kd.bool (fun _ => True) := by
  intro H enc w base spare held fuel cs y h
  obtain ⟨b, rfl, _⟩ := DataW.trod_bool ht h
  exact ⟨b, trivial, rfl⟩
theorem list_of {α : Type} {p : Nat → α → Prop} (z : α) : ∀ (n : Nat), (∀ i, i < n → ∃ x, p i x) → ∃ l : List α, l.length = n ∧ ∀ i x, l[i]? = some x → p i x
  | 0, _ => ⟨[], rfl, fun i x h => by simp at h⟩
  | n + 1, h => by
    obtain ⟨l, hl, hp⟩ := list_of z n (fun i hi => h i (by omega))
    obtain ⟨x, hx⟩ := h n (Nat.lt_succ_self n)
    refine ⟨l ++ [x], by simp [hl], fun i y hy => ?_⟩
    rcases Nat.lt_or_ge i l.length with hi | hi
    · rw [List.getElem?_append_left hi] at hy
      exact hp i y hy
    · rw [List.getElem?_append_right hi] at hy
      have : i - l.length = 0 := by
        rcases Nat.eq_zero_or_pos (i - l.length) with h0 | h0
        · exact h0
        · rw [List.getElem?_eq_none (by rw [List.length_singleton]; omega)] at hy; cases hy
      rw [this] at hy
      have hin : i = n := by omega
      subst hin
      have : x = y := by simpa using hy
      exact this ▸ hx
theorem Op.slice {P : Program} {t e : TypeId} {α : Type} {d : Kd α} {ok : α → Prop} (z : α) (ht : P.underlying t = some (.slice e)) (hc : P.cellsOf e = d.sz) (he : Op P e d ok) : Op P t (Kd.slice e d) (fun xs => xs.length ≤ maxLen ∧ ∀ x ∈ xs, ok x) := by
  intro H enc w base spare held fuel cs y h
  rcases Go.Deep.open_slice ht h with ⟨rfl, _⟩ | ⟨a, len, cap, m, n, D, Pl, rfl, _, hl, hm, hmm, _, hi⟩
  · exact ⟨[], ⟨by simp, fun x hx => by simp at hx⟩, none, 0, rfl, Nat.le_refl _, Kd.C_nil _ _⟩
  · have hlm : len ≤ m := by rw [hmm]; split <;> omega
    obtain ⟨l, hll, hlp⟩ := list_of (p := fun i x => ok x ∧ ∃ c, c.length = d.sz ∧ d.K w x c ∧ ∀ j u, c[j]? = some u → w.cell? (a.add (i * d.sz + j)) = some u) z len (fun i hil => by
      obtain ⟨cs', h1, h2⟩ := hi i (by omega)
      obtain ⟨x, hx, hK⟩ := he H enc w base spare held n cs' _ h2
      obtain ⟨_, hcl, hat⟩ := World.cells?_some h1
      refine ⟨x, hx, cs', d.K_len hK, hK, fun j u hj => ?_⟩
      have hjl : j < P.cellsOf e := by
        have := (List.getElem?_eq_some_iff.1 hj).1
        rw [hc]; rw [d.K_len hK] at this; exact this
      have := hat j hjl
      rw [Go.Deep.add_add, hc] at this
      rw [this, hj])
    have hmx : len ≤ maxLen := Nat.le_trans hl hm
    refine ⟨l, ⟨by omega, fun x hx => ?_⟩, some a, cap, by rw [hll], by omega, rfl, by rw [hll]; simp only [maxLen] at hmx; omega, fun _ => ⟨a, rfl, fun j p hj => ?_⟩⟩
    · obtain ⟨i, hi2, rfl⟩ := List.mem_iff_getElem.1 hx
      exact (hlp i _ (List.getElem?_eq_getElem hi2)).1
    · obtain ⟨_, c, h1, h2, h3⟩ := hlp j p hj
      exact ⟨c, h1, h2, h3⟩
/-- The fields from offset o on. -/
def OpFs (P : Program) (fs : List Field) (o : Nat) {α : Type} (d : Kd α) : Prop :=
  ∀ (H : Type) (enc : TypeId × Value → H) (w : World) (base : Nat) (spare : Nat → Bool) (held : Bool) (n : Nat) (cs : List Value) (xs : List (DataW H × List MemPlace)), xs.length = fs.length → cs.length = o + d.sz →
    (∀ (i : Nat) (f : Field), fs[i]? = some f → DataW.trod enc P w base spare held n f.type ((cs.drop f.offset).take (P.cellsOf f.type)) = xs[i]?) → ∃ x, d.K w x (cs.drop o)
theorem OpFs.one {P : Program} {f : Field} {o : Nat} {α : Type} {d : Kd α} {ok : α → Prop} (ho : f.offset = o) (hc : P.cellsOf f.type = d.sz) (h : Op P f.type d ok) : OpFs P [f] o d := by
  intro H enc w base spare held n cs xs hx hl hf
  have h0 := hf 0 f rfl
  rw [ho, hc, List.take_of_length_le (by rw [List.length_drop]; omega)] at h0
  cases xs with
  | nil => simp at hx
  | cons y ys =>
    obtain ⟨x, _, hK⟩ := h H enc w base spare held n _ y h0
    exact ⟨x, hK⟩
theorem OpFs.cons {P : Program} {f : Field} {fs : List Field} {o : Nat} {α β : Type} {a : Kd α} {b : Kd β} {ok : α → Prop} (ho : f.offset = o) (hc : P.cellsOf f.type = a.sz) (h : Op P f.type a ok) (h' : OpFs P fs (o + a.sz) b) :
    OpFs P (f :: fs) o (Kd.pair a b) := by
  intro H enc w base spare held n cs xs hx hl hf
  have hsz : (Kd.pair a b).sz = a.sz + b.sz := rfl
  rw [hsz] at hl
  have h0 := hf 0 f rfl
  rw [ho, hc] at h0
  cases xs with
  | nil => simp at hx
  | cons y ys =>
    obtain ⟨x, _, hK⟩ := h H enc w base spare held n _ y h0
    obtain ⟨x', hK'⟩ := h' H enc w base spare held n cs ys (by simpa using hx) (by omega) (fun i g hg => hf (i + 1) g hg)
    refine ⟨(x, x'), (cs.drop o).take a.sz, cs.drop (o + a.sz), ?_, hK, hK'⟩
    rw [← List.drop_drop, List.take_append_drop]
theorem Op.struct {P : Program} {t : TypeId} {fs : Array Field} {α : Type} {d : Kd α} (ht : P.underlying t = some (.struct fs)) (hc : P.cellsOf t = d.sz) (h : OpFs P fs.toList 0 d) : Op P t d (fun _ => True) := by
  intro H enc w base spare held fuel cs y hy
  obtain ⟨xs, n, _, _, hlen, hxl, hf⟩ := DataW.trod_struct ht hy
  obtain ⟨x, hK⟩ := h H enc w base spare held n cs xs (by simpa using hxl) (by omega) (fun i f hi => hf i f (by simpa using hi))
  exact ⟨x, trivial, hK⟩
theorem Op.iso {P : Program} {t : TypeId} {α β : Type} {d : Kd α} {ok : α → Prop} (f : β → α) (g : α → β) (hg : ∀ a, f (g a) = a) (h : Op P t d ok) : Op P t (Kd.iso d f) (fun _ => True) := by
  intro H enc w base spare held fuel cs y hy
  obtain ⟨x, hx, hK⟩ := h H enc w base spare held fuel cs y hy
  exact ⟨g x, trivial, by show d.K w (f (g x)) cs; rw [hg]; exact hK⟩
theorem Op.imp {P : Program} {t : TypeId} {α : Type} {d : Kd α} {ok ok' : α → Prop} (h : Op P t d ok) (hi : ∀ x, ok x → ok' x) : Op P t d ok' := by
  intro H enc w base spare held fuel cs y hy
  obtain ⟨x, hx, hK⟩ := h H enc w base spare held fuel cs y hy
  exact ⟨x, hi x hx, hK⟩
end
theorem op3 : Op Try.prog 3 (Kd.int .i64) (fun x : Int => (Lit.int .i64 x).wf = true) :=
  Op.int Try.underlying3
theorem op30e : Op Try.prog 30 k30 (fun x : S30 => True) :=
  by
  refine (Op.iso (d := (Kd.pair (Kd.int .i64) (Kd.int .i64))) (fun x : S30 => (x.f0, x.f1)) (fun p => ⟨p.1, p.2⟩) (fun _ => rfl) (Op.struct (d := (Kd.pair (Kd.int .i64) (Kd.int .i64))) Try.underlying30 (by kernel_rfl) ?_))
  · refine OpFs.cons rfl (by kernel_rfl) op3 ?_
    exact OpFs.one rfl (by kernel_rfl) op3

theorem op32e : Op Try.prog 32 k32 (fun x : S32 => True) :=
  by
  refine (Op.iso (d := (Kd.pair k30 (Kd.pair (Kd.int .i64) (Kd.int .i64)))) (fun x : S32 => (x.f0, x.f1, x.f2)) (fun p => ⟨p.1, p.2.1, p.2.2⟩) (fun _ => rfl) (Op.struct (d := (Kd.pair k30 (Kd.pair (Kd.int .i64) (Kd.int .i64)))) Try.underlying32 (by kernel_rfl) ?_))
  · refine OpFs.cons rfl (by kernel_rfl) op30e ?_
    refine OpFs.cons rfl (by kernel_rfl) op3 ?_
    exact OpFs.one rfl (by kernel_rfl) op3

theorem op22 : Op Try.prog 22 (Kd.slice 32 k32) (fun x : List S32 => (x.length ≤ maxLen ∧ ∀ x32 ∈ x, True)) :=
  Op.imp (Op.slice (z32 : S32) Try.underlying22 (by kernel_rfl) op32e) (fun x h => h)
theorem op34e : Op Try.prog 34 k34 (fun x : S34 => True) :=
  by
  refine (Op.iso (d := (Kd.pair k30 (Kd.pair (Kd.int .i64) (Kd.pair (Kd.int .i64) (Kd.int .i64))))) (fun x : S34 => (x.f0, x.f1, x.f2, x.f3)) (fun p => ⟨p.1, p.2.1, p.2.2.1, p.2.2.2⟩) (fun _ => rfl) (Op.struct (d := (Kd.pair k30 (Kd.pair (Kd.int .i64) (Kd.pair (Kd.int .i64) (Kd.int .i64))))) Try.underlying34 (by kernel_rfl) ?_))
  · refine OpFs.cons rfl (by kernel_rfl) op30e ?_
    refine OpFs.cons rfl (by kernel_rfl) op3 ?_
    refine OpFs.cons rfl (by kernel_rfl) op3 ?_
    exact OpFs.one rfl (by kernel_rfl) op3

theorem op23 : Op Try.prog 23 (Kd.slice 34 k34) (fun x : List S34 => (x.length ≤ maxLen ∧ ∀ x34 ∈ x, True)) :=
  Op.imp (Op.slice (z34 : S34) Try.underlying23 (by kernel_rfl) op34e) (fun x h => h)
theorem op51e : Op Try.prog 51 k51 (fun x : S51 => True) :=
  by
  refine (Op.iso (d := (Kd.pair k30 (Kd.int .i64))) (fun x : S51 => (x.f0, x.f1)) (fun p => ⟨p.1, p.2⟩) (fun _ => rfl) (Op.struct (d := (Kd.pair k30 (Kd.int .i64))) Try.underlying51 (by kernel_rfl) ?_))
  · refine OpFs.cons rfl (by kernel_rfl) op30e ?_
    exact OpFs.one rfl (by kernel_rfl) op3

theorem op24 : Op Try.prog 24 (Kd.slice 51 k51) (fun x : List S51 => (x.length ≤ maxLen ∧ ∀ x51 ∈ x, True)) :=
  Op.imp (Op.slice (z51 : S51) Try.underlying24 (by kernel_rfl) op51e) (fun x h => h)
theorem op26 : Op Try.prog 26 (Kd.pair (Kd.slice 32 k32) (Kd.pair (Kd.slice 34 k34) (Kd.slice 51 k51))) (fun x : (List S32 × List S34 × List S51) => True) :=
  by
  refine (Op.struct (d := (Kd.pair (Kd.slice 32 k32) (Kd.pair (Kd.slice 34 k34) (Kd.slice 51 k51)))) Try.underlying26 (by kernel_rfl) ?_)
  · refine OpFs.cons rfl (by kernel_rfl) op22 ?_
    refine OpFs.cons rfl (by kernel_rfl) op23 ?_
    exact OpFs.one rfl (by kernel_rfl) op24

theorem op28 : Op Try.prog 28 (Kd.pair (Kd.int .i64) (Kd.int .i64)) (fun x : (Int × Int) => True) :=
  by
  refine (Op.struct (d := (Kd.pair (Kd.int .i64) (Kd.int .i64))) Try.underlying28 (by kernel_rfl) ?_)
  · refine OpFs.cons rfl (by kernel_rfl) op3 ?_
    exact OpFs.one rfl (by kernel_rfl) op3

theorem op30 : Op Try.prog 30 (Kd.pair (Kd.int .i64) (Kd.int .i64)) (fun x : (Int × Int) => True) :=
  by
  refine (Op.struct (d := (Kd.pair (Kd.int .i64) (Kd.int .i64))) Try.underlying30 (by kernel_rfl) ?_)
  · refine OpFs.cons rfl (by kernel_rfl) op3 ?_
    exact OpFs.one rfl (by kernel_rfl) op3

theorem op32 : Op Try.prog 32 (Kd.pair (Kd.pair (Kd.int .i64) (Kd.int .i64)) (Kd.pair (Kd.int .i64) (Kd.int .i64))) (fun x : ((Int × Int) × Int × Int) => True) :=
  by
  refine (Op.struct (d := (Kd.pair (Kd.pair (Kd.int .i64) (Kd.int .i64)) (Kd.pair (Kd.int .i64) (Kd.int .i64)))) Try.underlying32 (by kernel_rfl) ?_)
  · refine OpFs.cons rfl (by kernel_rfl) op30 ?_
    refine OpFs.cons rfl (by kernel_rfl) op3 ?_
    exact OpFs.one rfl (by kernel_rfl) op3

theorem op34 : Op Try.prog 34 (Kd.pair (Kd.pair (Kd.int .i64) (Kd.int .i64)) (Kd.pair (Kd.int .i64) (Kd.pair (Kd.int .i64) (Kd.int .i64)))) (fun x : ((Int × Int) × Int × Int × Int) => True) :=
  by
  refine (Op.struct (d := (Kd.pair (Kd.pair (Kd.int .i64) (Kd.int .i64)) (Kd.pair (Kd.int .i64) (Kd.pair (Kd.int .i64) (Kd.int .i64))))) Try.underlying34 (by kernel_rfl) ?_)
  · refine OpFs.cons rfl (by kernel_rfl) op30 ?_
    refine OpFs.cons rfl (by kernel_rfl) op3 ?_
    refine OpFs.cons rfl (by kernel_rfl) op3 ?_
    exact OpFs.one rfl (by kernel_rfl) op3

theorem op5 : Op Try.prog 5 (Kd.int .u8) (fun x : Int => (Lit.int .u8 x).wf = true) :=
  Op.int Try.underlying5
theorem op55e : Op Try.prog 55 k55 (fun x : S55 => True) :=
  by
  refine (Op.iso (d := (Kd.pair (Kd.int .u8) (Kd.pair k30 (Kd.pair (Kd.int .i64) (Kd.int .i64))))) (fun x : S55 => (x.f0, x.f1, x.f2, x.f3)) (fun p => ⟨p.1, p.2.1, p.2.2.1, p.2.2.2⟩) (fun _ => rfl) (Op.struct (d := (Kd.pair (Kd.int .u8) (Kd.pair k30 (Kd.pair (Kd.int .i64) (Kd.int .i64))))) Try.underlying55 (by kernel_rfl) ?_))
  · refine OpFs.cons rfl (by kernel_rfl) op5 ?_
    refine OpFs.cons rfl (by kernel_rfl) op30e ?_
    refine OpFs.cons rfl (by kernel_rfl) op3 ?_
    exact OpFs.one rfl (by kernel_rfl) op3

theorem op53 : Op Try.prog 53 (Kd.slice 55 k55) (fun x : List S55 => (x.length ≤ maxLen ∧ ∀ x55 ∈ x, True)) :=
  Op.imp (Op.slice (z55 : S55) Try.underlying53 (by kernel_rfl) op55e) (fun x h => h)
theorem laidOut : laidOutB Try.prog = true := by kernel_rfl
end Go.Proofs.Ytbpfbdljcdcgnaa.Px
