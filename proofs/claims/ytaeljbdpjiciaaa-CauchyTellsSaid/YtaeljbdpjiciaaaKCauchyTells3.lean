/- Texts of the claim CauchyTells (part 3), put together in the order of their imports. -/
import Derived.Test.YtaeljbdpjiciaaaKCauchyTells2
import Derived.RangeFuncNested
import Derived.RangeFuncLeaves
import Derived.TacticsIn
import Derived.OrdersIn
import Derived.Test.YtaeljbdpjiciaaaProg
/- Ranges over functions: what a round may turn, an iterator's contract, the statement's rule, a function's end with marks. No program in sight. -/
set_option linter.unusedVariables false
set_option linter.unusedSimpArgs false
namespace Go.Gam
open Go

/-! ### weaker steps -/
def isC (o : Obj) : Prop := ∃ c e fr, o = .cells c e fr
theorem notT_nc {D : FD} {w : World} {k : Nat} {o : Obj} (h : w.heap[k]? = some o) (ho : o.isCells = false) : notT D w k := by
  intro c fr e
  rw [h] at e
  obtain rfl := Option.some.inj e
  cases ho

/-- From w to w': rows and what lies below n stay (but fields from B on may have made their tables). -/
structure Xt (D : FD) (B n : Nat) (w w' : World) : Prop where
  os : w'.os = w.os
  tape : w'.tape = w.tape
  output : w'.output = w.output
  size : w.heap.size ≤ w'.heap.size
  keep : ∀ k, k < w.heap.size → (k < n ∨ ∃ c e fr, w.heap[k]? = some (.cells c e fr)) → (k < B ∨ notT D w k) → w'.heap[k]? = w.heap[k]?
  fld : ∀ k wb p, FOK D B w k wb p → FOK D B w' k wb p
  priv : ∀ b, b < w.heap.size → Priv D B w b → Priv D B w' b
  made : ∀ k wb p ge gl, Made D B w k wb p ge gl → Made D B w' k wb p ge gl
  inv : Inv D B w'

theorem St.xt {D : FD} {B n : Nat} {w w' : World} (h : St D B w w') : Xt D B n w w' :=
  ⟨h.ext.os, h.ext.tape, h.ext.output, h.ext.size, fun k hk _ hc => h.ext.keep k hk hc, h.ext.fld, h.ext.priv, h.ext.made, h.inv⟩

/-- Two worlds with the same rows. -/
def SameC (w w' : World) : Prop := ∀ (k : Nat) (c : Array Value) (e : TypeId) (fr : Nat × Nat), (w.heap[k]? = some (Obj.cells c e fr)) ↔ (w'.heap[k]? = some (Obj.cells c e fr))
theorem SameC.tab {w w' : World} (h : SameC w w') {E B : Nat} {v : Value} {xs : List Value} (ht : Tab E B w v xs) : Tab E B w' v xs := by
  obtain ⟨g, h1, h2, h3⟩ := ht
  exact ⟨g, h1, h2, (h _ _ _ _).1 h3⟩
theorem SameC.fok {D : FD} {B : Nat} {w w' : World} (h : SameC w w') {k wb p : Nat} (hf : FOK D B w k wb p) : FOK D B w' k wb p := by
  obtain ⟨hB, hf | ⟨e, l, h1, h2, h3⟩⟩ := hf
  · exact ⟨hB, .inl ((h _ _ _ _).1 hf)⟩
  · exact ⟨hB, .inr ⟨e, l, (h _ _ _ _).1 h1, h.tab h2, h.tab h3⟩⟩
theorem SameC.made {D : FD} {B : Nat} {w w' : World} (h : SameC w w') {k wb p ge gl : Nat} (hf : Made D B w k wb p ge gl) : Made D B w' k wb p ge gl := by
  obtain ⟨hB, h1, h2, h3⟩ := hf
  exact ⟨hB, (h _ _ _ _).1 h1, h.tab h2, h.tab h3⟩
theorem SameC.priv {D : FD} {B : Nat} {w w' : World} (h : SameC w w') {b : Nat} (hp : Priv D B w b) : Priv D B w' b :=
  fun k hk c fr hc => hp k hk c fr ((h _ _ _ _).2 hc)
theorem SameC.inv {D : FD} {B : Nat} {w w' : World} (h : SameC w w') (hs : w.heap.size ≤ w'.heap.size) (hI : Inv D B w) : Inv D B w' :=
  ⟨Nat.le_trans hI.1 hs, fun k hk c fr hc => let ⟨wb, p, hf⟩ := hI.2 k hk c fr ((h _ _ _ _).2 hc); ⟨wb, p, h.fok hf⟩⟩

theorem sameC_put {w : World} {l : Nat} {o o' : Obj} (h : w.heap[l]? = some o) (ho : o.isCells = false) (ho' : o'.isCells = false) : SameC w (w.putObj l o') := by
  intro k c e fr
  by_cases hk : k = l
  · subst hk
    rw [World.putObj_heap_same (heap_lt h), h]
    constructor
    · intro hh; obtain rfl := Option.some.inj hh; cases ho
    · intro hh; obtain rfl := Option.some.inj hh; cases ho'
  · rw [World.putObj_heap_other hk]
theorem sameC_new {w : World} {o : Obj} (ho : o.isCells = false) : SameC w (w.alloc o) := by
  intro k c e fr
  by_cases hk : k < w.heap.size
  · rw [RowKit.Below.heap_alloc w o k hk]
  · constructor
    · intro hh; exact absurd (heap_lt hh) hk
    · intro hh
      have h1 := heap_lt hh
      have h2 : (w.alloc o).heap.size = w.heap.size + 1 := by simp
      have : k = w.heap.size := by omega
      subst this
      rw [alloc_new] at hh
      obtain rfl := Option.some.inj hh
      cases ho

theorem Xt.put {D : FD} {B n : Nat} {w : World} {l : Nat} {o o' : Obj} (hI : Inv D B w) (hn : n ≤ l) (h : w.heap[l]? = some o) (ho : o.isCells = false) (ho' : o'.isCells = false) : Xt D B n w (w.putObj l o') := by
  have hs := sameC_put h ho ho'
  refine ⟨rfl, rfl, rfl, by simp, fun k hk hc _ => ?_, fun _ _ _ => hs.fok, fun _ _ => hs.priv, fun _ _ _ _ _ => hs.made, hs.inv (by simp) hI⟩
  refine World.putObj_heap_other ?_
  rintro rfl
  rcases hc with hc | ⟨c, e, fr, hc⟩
  · omega
  · rw [h] at hc; obtain rfl := Option.some.inj hc; cases ho

theorem St.new {D : FD} {B : Nat} {w : World} {o : Obj} (hI : Inv D B w) (ho : o.isCells = false) : St D B w (w.alloc o) := by
  have hs := sameC_new (w := w) ho
  exact ⟨⟨rfl, rfl, rfl, by simp, fun k hk _ => RowKit.Below.heap_alloc w o k hk, fun _ _ _ => hs.fok, fun _ _ => hs.priv, fun _ _ _ _ _ => hs.made⟩, hs.inv (by simp) hI⟩

theorem Xt.refl {D : FD} {B n : Nat} {w : World} (hI : Inv D B w) : Xt D B n w w := (St.refl hI).xt
theorem Xt.trans {D : FD} {B n : Nat} {a b c : World} (h : Xt D B n a b) (k : Xt D B n b c) : Xt D B n a c := by
  refine ⟨k.os.trans h.os, k.tape.trans h.tape, k.output.trans h.output, Nat.le_trans h.size k.size, fun i hi h1 h2 => ?_, fun i wb p hf => k.fld i wb p (h.fld i wb p hf), fun b hb hp => k.priv b (Nat.lt_of_lt_of_le hb h.size) (h.priv b hb hp), fun i wb p e l hf => k.made i wb p e l (h.made i wb p e l hf), k.inv⟩
  have e := h.keep i hi h1 h2
  exact (k.keep i (Nat.lt_of_lt_of_le hi h.size) (h1.imp id fun ⟨c, t, fr, hc⟩ => ⟨c, t, fr, e.trans hc⟩) (h2.imp id (notT_of e))).trans e

theorem Row.xt {D : FD} {B n M : Nat} {w w' : World} {v : Value} {xs : List Value} (h : Row D B M w v xs) (hs : Xt D B n w w') : Row D B M w' v xs := by
  rcases h with h | ⟨g, o, cap, rfl, h0, h1, h2, h3, h4⟩
  · exact .inl h
  · by_cases hx : xs = []
    · subst hx; exact .inl ⟨_, _, rfl, rfl⟩
    · obtain ⟨u, hu⟩ : ∃ u, xs[0]? = some u := ⟨_, List.getElem?_eq_getElem (List.length_pos_iff.2 hx)⟩
      have hc := h4 0 u hu
      have hcell : ∃ c e fr, w.heap[g]? = some (.cells c e fr) := by
        unfold World.cell? at hc
        split at hc
        · rename_i c e fr hh; exact ⟨c, e, fr, hh⟩
        · cases hc
      have hk := hs.keep g h3 (.inr hcell) h2
      exact .inr ⟨g, o, cap, rfl, h0, h1, h2.imp id (notT_of hk), Nat.lt_of_lt_of_le h3 hs.size, fun i u hu => (cell_of_heap hk).trans (h4 i u hu)⟩
theorem Blk.xt {D : FD} {B n : Nat} {w w' : World} {g : Nat} {E : TypeId} {cs : List Value} (h : Blk w g E cs) (hE : E ≠ D.T) (hs : Xt D B n w w') : Blk w' g E cs := by
  unfold Blk at *
  rw [hs.keep g (heap_lt h) (.inr ⟨_, _, _, h⟩) (.inr fun c fr e => by rw [h] at e; exact hE (Obj.cells.inj (Option.some.inj e)).2.1)]
  exact h
theorem St.thenX {D : FD} {B n : Nat} {a b c : World} (h : St D B a b) (k : Xt D B n b c) (hn : a.heap.size ≤ n) : St D B a c := by
  refine ⟨⟨k.os.trans h.ext.os, k.tape.trans h.ext.tape, k.output.trans h.ext.output, Nat.le_trans h.ext.size k.size, fun i hi hc => ?_, fun i wb p hf => k.fld i wb p (h.ext.fld i wb p hf), fun b hb hp => k.priv b (Nat.lt_of_lt_of_le hb h.ext.size) (h.ext.priv b hb hp), fun i wb p e l hf => k.made i wb p e l (h.ext.made i wb p e l hf)⟩, k.inv⟩
  have e := h.ext.keep i hi hc
  exact (k.keep i (Nat.lt_of_lt_of_le hi h.ext.size) (.inl (by omega)) (hc.imp id (notT_of e))).trans e

/-- From w to w', where the blocks of Z may turn; what is no row stays. -/
structure ExtZ (D : FD) (B : Nat) (Z : Nat → Prop) (w w' : World) : Prop where
  os : w'.os = w.os
  tape : w'.tape = w.tape
  output : w'.output = w.output
  size : w.heap.size ≤ w'.heap.size
  keep : ∀ k, k < w.heap.size → ¬ Z k → (k < B ∨ notT D w k) → w'.heap[k]? = w.heap[k]?
  oth : ∀ (k : Nat) (o : Obj), w.heap[k]? = some o → o.isCells = false → w'.heap[k]? = some o
  fld : ∀ k wb p, FOK D B w k wb p → FOK D B w' k wb p
  priv : ∀ b, b < w.heap.size → Priv D B w b → Priv D B w' b
  made : ∀ k wb p ge gl, Made D B w k wb p ge gl → Made D B w' k wb p ge gl
structure StZ (D : FD) (B : Nat) (Z : Nat → Prop) (w w' : World) : Prop where
  ext : ExtZ D B Z w w'
  inv : Inv D B w'

theorem St.z {D : FD} {B : Nat} {Z : Nat → Prop} {w w' : World} (h : St D B w w') : StZ D B Z w w' :=
  ⟨⟨h.ext.os, h.ext.tape, h.ext.output, h.ext.size, fun k hk _ hc => h.ext.keep k hk hc, fun k o hk ho => (h.ext.keep k (heap_lt hk) (.inr (notT_nc hk ho))).trans hk, h.ext.fld, h.ext.priv, h.ext.made⟩, h.inv⟩
theorem StZ.refl {D : FD} {B : Nat} {Z : Nat → Prop} {w : World} (h : Inv D B w) : StZ D B Z w w := (St.refl h).z
theorem StZ.transZ {D : FD} {B : Nat} {Z : Nat → Prop} {a b c : World} (h : StZ D B Z a b) (k : StZ D B Z b c) : StZ D B Z a c := by
  refine ⟨⟨k.ext.os.trans h.ext.os, k.ext.tape.trans h.ext.tape, k.ext.output.trans h.ext.output, Nat.le_trans h.ext.size k.ext.size, fun i hi hz hc => ?_, fun i o hi ho => k.ext.oth i o (h.ext.oth i o hi ho) ho, fun i wb p hf => k.ext.fld i wb p (h.ext.fld i wb p hf), fun b hb hp => k.ext.priv b (Nat.lt_of_lt_of_le hb h.ext.size) (h.ext.priv b hb hp), fun i wb p e l hf => k.ext.made i wb p e l (h.ext.made i wb p e l hf)⟩, k.inv⟩
  have e := h.ext.keep i hi hz hc
  exact (k.ext.keep i (Nat.lt_of_lt_of_le hi h.ext.size) hz (hc.imp id (notT_of e))).trans e
theorem StZ.trans {D : FD} {B : Nat} {Z : Nat → Prop} {a b c : World} (h : StZ D B Z a b) (k : St D B b c) : StZ D B Z a c := h.transZ k.z
/-- A step that changes a block of Z, or one that is newer than w. -/
theorem StZ.mb {D : FD} {B : Nat} {Z : Nat → Prop} {b : Option Nat} {w0 w w' : World} (hs : StZ D B Z w0 w) (h : Mb D B b w w') (hb : ∀ k, b = some k → Z k ∧ ∃ c e fr, w.heap[k]? = some (.cells c e fr)) : StZ D B Z w0 w' := by
  refine hs.transZ ⟨⟨h.os, h.tape, h.output, h.size, fun k hk hz _ => h.keep k hk (fun e => hz (hb k e.symm).1), fun k o hk ho => (h.keep k (heap_lt hk) (fun e => ?_)).trans hk, fun _ _ _ => h.fok, fun _ _ => h.priv, fun _ _ _ _ _ => h.made⟩, h.inv hs.inv⟩
  obtain ⟨c, e', fr, hc⟩ := (hb k e.symm).2
  rw [hk] at hc
  obtain rfl := Option.some.inj hc
  cases ho
theorem StZ.mb0 {D : FD} {B : Nat} {Z : Nat → Prop} {w0 w w' : World} (hs : StZ D B Z w0 w) (h : Mb D B none w w') : StZ D B Z w0 w' := hs.mb h (fun k e => by cases e)
theorem StZ.weak {D : FD} {B : Nat} {Z Z' : Nat → Prop} {w w' : World} (h : StZ D B Z w w') (hz : ∀ k, Z k → Z' k) : StZ D B Z' w w' :=
  ⟨⟨h.ext.os, h.ext.tape, h.ext.output, h.ext.size, fun k hk hn hc => h.ext.keep k hk (fun hh => hn (hz k hh)) hc, h.ext.oth, h.ext.fld, h.ext.priv, h.ext.made⟩, h.inv⟩
theorem Blk.stz {D : FD} {B : Nat} {Z : Nat → Prop} {w w' : World} {g : Nat} {E : TypeId} {cs : List Value} (h : Blk w g E cs) (hE : E ≠ D.T) (hs : StZ D B Z w w') (hz : ¬ Z g) : Blk w' g E cs := by
  unfold Blk at *
  rw [hs.ext.keep g (heap_lt h) hz (.inr fun c fr e => by rw [h] at e; exact hE (Obj.cells.inj (Option.some.inj e)).2.1)]
  exact h
/-- A step that leaves what is below n, and turns nothing of Z below n, is a plain one. -/
theorem StZ.plain {D : FD} {B : Nat} {Z : Nat → Prop} {w w' : World} (h : StZ D B Z w w') (hz : ∀ k, k < w.heap.size → ¬ Z k) : St D B w w' :=
  ⟨⟨h.ext.os, h.ext.tape, h.ext.output, h.ext.size, fun k hk hc => h.ext.keep k hk (hz k hk) hc, h.ext.fld, h.ext.priv, h.ext.made⟩, h.inv⟩
theorem St.thenZ {D : FD} {B : Nat} {Z : Nat → Prop} {a b c : World} (h : St D B a b) (k : StZ D B Z b c) (hz : ∀ k, k < a.heap.size → ¬ Z k) : St D B a c := (h.z.transZ k).plain hz

/-! ### fences: everything may be called; a round's frame, or not -/
abbrev FW (r : Option Nat) : Fence := { Fence.wide with round := r }

section
variable {P : Program} {r : Option Nat}

theorem opIn_of {o : Oper} {a : Act} {w : World} {next : Act → World → Prop} {Q : Exit → Act → World → Prop} (hnd : ∀ c, o.op ≠ .defer c) (h : o.wp P a w next Q) : o.wpIn (FW r) 0 P a w next Q := by
  refine ⟨fun _ _ => trivial, ?_⟩
  rw [Oper.semAt_eq _ _ _ hnd]
  unfold Oper.wp at h
  cases hr : (execOp a.eval o).run P w with
  | ok nx w' =>
    rw [hr] at h
    cases nx <;> simp only [Oper.upon, Oper.uponIn] at h ⊢ <;> try exact h
    · exact ⟨fun hd => by simp [FW, Fence.wide] at hd, Calls.mono h (fun e w'' he => by cases e <;> exact he) |> callsIn_wide.2⟩
    · exact ⟨fun hd => by simp [FW, Fence.wide] at hd, fun c cs _ => let ⟨v, w1, h1, h2⟩ := h c cs; ⟨v, w1, h1, stepsIn_wide.2 h2⟩⟩
    all_goals exact h.elim
  | halt x w' =>
    rw [hr] at h
    cases x <;> simp only [Oper.upon, Oper.uponIn] at h ⊢ <;> exact h

def noDefer (ops : List Oper) : Bool := ops.all fun o => match o.op with | .defer _ => false | _ => true
theorem noDefer_op {ops : List Oper} (h : noDefer ops = true) {o : Oper} (ho : o ∈ ops) : ∀ c, o.op ≠ .defer c := by
  intro c e
  have := List.all_eq_true.1 h o ho
  rw [e] at this
  cases this
theorem listIn_of {ops : Array Oper} {Q : Exit → Act → World → Prop} (hno : ¬ LetsOut Q) : ∀ (l : List Oper) (a : Act) (w : World), noDefer l = true → wpList P ops Q l a w → wpListIn (FW r) 0 P ops Q l a w
  | [], a, w, _, h => h
  | o :: rest, a, w, hd, h => by
    have hd2 : noDefer rest = true := by simp only [noDefer, List.all_cons, Bool.and_eq_true] at hd ⊢; exact hd.2
    have ih := fun a w => listIn_of (ops := ops) hno rest a w hd2
    unfold wpListIn
    unfold wpList at h
    split
    · rename_i hw
      rw [if_pos hw] at h
      rcases h with h | ⟨_, h⟩
      · exact Oper.wpIn_mono ih (opIn_of (noDefer_op hd (by simp)) h)
      · exact absurd h hno
    · rename_i hw
      rw [if_neg hw] at h
      exact ⟨fun _ _ => trivial, ih _ _ h⟩
theorem opsIn_of {ops : Array Oper} {Q : Exit → Act → World → Prop} (hno : ¬ LetsOut Q) (hd : noDefer ops.toList = true) : ∀ (l : List Nat) (a : Act) (w : World), wpOps P ops Q l a w → wpOpsIn (FW r) 0 P ops Q l a w
  | [], a, w, h => h
  | i :: rest, a, w, h => by
    have ih := opsIn_of hno hd rest
    unfold wpOpsIn
    unfold wpOps at h
    cases ho : ops[i]? with
    | none => rw [ho] at h; exact ih a w h
    | some o =>
      rw [ho] at h
      simp only at h ⊢
      split
      · rename_i hw
        rw [if_pos hw] at h
        rcases h with h | ⟨_, h⟩
        · refine Oper.wpIn_mono ih (opIn_of (noDefer_op hd ?_) h)
          rw [← Array.getElem?_toList] at ho
          exact List.mem_of_getElem? ho
        · exact absurd h hno
      · rename_i hw
        rw [if_neg hw] at h
        exact ⟨fun _ _ => trivial, ih _ _ h⟩

/-- The code c in a frame of round r (none: in no round's). -/
def WI (P : Program) (r : Option Nat) (c : Code) (N : Kont) (X : List (Nat × Kont)) (R : Kont) (a : Act) (w : World) : Prop := c.wpIn (FW r) 0 P (Qof N X R) a w

variable {N : Kont} {X : List (Nat × Kont)} {R : Kont} {a : Act} {w : World}
theorem W_of {c : Code} (h : WI P none c N X R a w) : W P c N X R a w := wpIn_wide.1 h
theorem WI_of {c : Code} (h : W P c N X R a w) : WI P none c N X R a w := wpIn_wide.2 h
theorem qof_no : ¬ LetsOut (Qof N X R) := fun ⟨_, _, h⟩ => h
namespace Rd
variable {l : Nat}
theorem W_seq {x y : Code} (h : WI P r x (fun a w => WI P r y N X R a w) X R a w) : WI P r (.seq x y) N X R a w :=
  wpIn_seq (wpIn_mono h fun e a w hq => by cases e <;> exact hq)
theorem W_block {id : Nat} {c : Code} (h : WI P r c N ((id, N) :: X) R a w) : WI P r (.block id c) N X R a w :=
  wpIn_block (wpIn_mono h fun e a w hq => by
    cases e with
    | exit i =>
      simp only [Exit.inBlock]
      simp only [Qof, lookX] at hq
      by_cases e : i = id
      · subst e; rw [if_pos rfl]; simp only [Nat.beq_refl, cond_true] at hq; exact hq
      · rw [if_neg e]
        have hb : Nat.beq id i = false := by
          cases hb : Nat.beq id i with
          | false => rfl
          | true => exact absurd (Nat.eq_of_beq_eq_true hb).symm e
        rw [hb] at hq
        simpa [Qof] using hq
    | normal => exact hq
    | ret => exact hq
    | goto l => exact hq
    | panic c => exact hq
    | outgrown => exact hq)
theorem W_skip (h : N a w) : WI P r .skip N X R a w := wpIn_skip h
theorem W_ret (h : R a w) : WI P r .ret N X R a w := wpIn_ret h
theorem W_if {n : NN} {F : Fs} {c : Operand} {x y : Code} {b : Bool} (hF : Fr n F a) (hc : ev F c = some (.bool b)) (ht : b = true → WI P r x N X R a w) (hf : b = false → WI P r y N X R a w) :
    WI P r (.cond c x y) N X R a w := wpIn_cond_split (hF.eval hc) ht hf
theorem W_ifT {n : NN} {F : Fs} {c : Operand} {x y : Code} (hF : Fr n F a) (hc : ev F c = some (.bool true)) (h : WI P r x N X R a w) : WI P r (.cond c x y) N X R a w := wpIn_cond_true (hF.eval hc) h
theorem W_ifF {n : NN} {F : Fs} {c : Operand} {x y : Code} (hF : Fr n F a) (hc : ev F c = some (.bool false)) (h : WI P r y N X R a w) : WI P r (.cond c x y) N X R a w := wpIn_cond_false (hF.eval hc) h
theorem qof_reg {K : Kont} : ∀ e a w, Qof K [] (fun _ _ => False) e a w → Qof K X R e a w := fun e a w hq => by
  cases e with
  | exit i => simp [Qof, lookX] at hq
  | normal => exact hq
  | ret => exact hq.elim
  | goto l => exact hq.elim
  | panic c => exact hq.elim
  | outgrown => exact hq.elim
theorem W_reg {id : Nat} {ops : Array Oper} {l : List Oper} (hl : ops.toList = l) (hd : noDefer l = true) (h : ∀ K : Kont, (∀ a w, N a w → K a w) → WL P ops K l a w) : WI P r (.region id ops false) N X R a w :=
  wpIn_mono (wpIn_region_list (by rw [hl]; exact listIn_of qof_no l a w hd (h N (fun _ _ h => h)))) (qof_reg)
theorem W_sr {id : Nat} {ops : Array Oper} {l : List Oper} {y : Code} (hl : ops.toList = l) (hd : noDefer l = true) (h : ∀ K : Kont, (∀ a w, WI P r y N X R a w → K a w) → WL P ops K l a w) :
    WI P r (.seq (.region id ops false) y) N X R a w := W_seq (W_reg hl hd h)
theorem W_draw {D : FD} {B : Nat} {ops : Array Oper} {id m : Nat} (hsz : ops.size = m) (hm : P.follows .mixedOrders = true) (hI : Inv D B w) (hd : noDefer ops.toList = true)
    (h : ∀ K : Kont, (∀ a w, N a w → K a w) → ∀ w', St D B w w' → w'.heap = w.heap → WA P D B ops K m (Array.replicate m false) a w') : WI P r (.region id ops true) N X R a w := by
  subst hsz
  refine wpIn_mono (wpIn_region_draw fun t => ?_) qof_reg
  simp only [Region.schedule, hm, Bool.true_or, if_true]
  exact opsIn_of qof_no hd _ _ _ (wpAny_sound ops.size t _ a _ (wpAny_of_held _ _ _ _ (h N (fun _ _ h => h) { w with drawn := w.drawn + 1 } ⟨ext_drew D B w, hI⟩ rfl)))
theorem W_sd {D : FD} {B : Nat} {ops : Array Oper} {id m : Nat} {y : Code} (hsz : ops.size = m) (hm : P.follows .mixedOrders = true) (hI : Inv D B w) (hd : noDefer ops.toList = true)
    (h : ∀ K : Kont, (∀ a w, WI P r y N X R a w → K a w) → ∀ w', St D B w w' → w'.heap = w.heap → WA P D B ops K m (Array.replicate m false) a w') : WI P r (.seq (.region id ops true) y) N X R a w :=
  W_seq (W_draw hsz hm hI hd h)
end Rd

/-! ### yield -/
/-- Yield of loop l, handed v: the round hands back a Bool. -/
def YieldOk (P : Program) (l : Nat) (v : Value) (w : World) (R : Bool → World → Prop) : Prop :=
  ∃ fn tmps assign body, (Instr.yield l #[v]).run P w = .ok (.round l fn tmps assign body) w ∧ RoundIn Fence.wide 0 P l fn tmps assign body w fun e w' => ∃ b, e = .returned (.bool b) ∧ R b w'

theorem YieldOk.mono {l : Nat} {v : Value} {R R' : Bool → World → Prop} (h : YieldOk P l v w R) (hr : ∀ b w', R b w' → R' b w') : YieldOk P l v w R' := by
  obtain ⟨fn, t, x, y, h1, h2⟩ := h
  exact ⟨fn, t, x, y, h1, h2.mono fun e w' ⟨b, h3, h4⟩ => ⟨b, h3, hr _ _ h4⟩⟩

section
variable {ops : Array Oper} {K : Kont} {rest : List Oper} {n : NN} {F : Fs} {op : Op} {T : TypeId} {pp : String} {af : Array Edge} {v : Value} {d : Nat}
/-- The operations l of a region, in a frame of round r. -/
def WLI (P : Program) (r : Option Nat) (ops : Array Oper) (K : Kont) (l : List Oper) (a : Act) (w : World) : Prop := wpListIn (FW r) 0 P ops (Qof K [] (fun _ _ => False)) l a w
theorem WLI_of {l : List Oper} (hd : noDefer l = true) (h : WL P ops K l a w) : WLI P r ops K l a w := listIn_of qof_no l a w hd h
theorem svI (hF : Fr n F a) (hnd : noDefer [⟨some d, op, T, pp, af, none⟩] = true) (hv : Val P op T F w v) (hd : Nat.blt d n.n = true) (k : ∀ a, Fr n ((d, v) :: F) a → WLI P r ops K rest a w) :
    WLI P r ops K (⟨some d, op, T, pp, af, none⟩ :: rest) a w := by
  unfold WLI wpListIn
  rw [if_pos (by simp [Region.wanted])]
  refine opIn_of (noDefer_op hnd (by simp)) ?_
  unfold Oper.wp
  rw [hv a.eval hF.reads]
  exact k _ (hF.put hd)
theorem syI {l : Nat} {x y : Operand} {ats : Array TypeId} (hF : Fr n F a) (hx : ev F x = some (.func (.yield l) #[] #[])) (hy : ev F y = some v) (hd : Nat.blt d n.n = true)
    (h : YieldOk P l v w fun b w' => ∀ a, Fr n ((d, .bool b) :: F) a → WLI P r ops K rest a w') : WLI P r ops K (⟨some d, .call ⟨.value x, #[y], ats⟩, T, pp, af, none⟩ :: rest) a w := by
  obtain ⟨fn, tmps, assign, body, h1, h2⟩ := h
  unfold WLI wpListIn
  rw [if_pos (by simp [Region.wanted])]
  refine ⟨fun _ _ => trivial, ?_⟩
  rw [Oper.semAt_eq _ _ _ (by intro c e; cases e)]
  have hrun : (execOp a.eval ⟨some d, .call ⟨.value x, #[y], ats⟩, T, pp, af, none⟩).run P w = .ok (.round l fn tmps assign body) w := by
    simp [execOp, resolve, invoke, Deferred.ofValue, hF.reads x _ hx, hF.reads y _ hy, h1]
  rw [hrun]
  simp only [Oper.uponIn]
  refine ⟨fun hd => by simp [FW, Fence.wide] at hd, RoundIn.mono (F := FW r) h2 ?_⟩
  rintro e w' ⟨b, rfl, h3⟩
  exact h3 _ (hF.put hd)
theorem W_srY {id : Nat} {l : List Oper} {y : Code} (hl : ops.toList = l) (h : ∀ K : Kont, (∀ a w, W P y N X R a w → K a w) → WLI P none ops K l a w) :
    W P (.seq (.region id ops false) y) N X R a w := W_seq (W_of (wpIn_mono (wpIn_region_list (by rw [hl]; exact h _ (fun _ _ h => h))) Rd.qof_reg))
end

/-! ### iterators -/
/-- Non-rows stay, but block l. -/
def Oth (l : Nat) (w w' : World) : Prop := w.heap.size ≤ w'.heap.size ∧ ∀ (k : Nat) (o : Obj), k ≠ l → w.heap[k]? = some o → o.isCells = false → w'.heap[k]? = some o

/-- Function gf with lb captured, called with yield, hands over the elements xs, one behind the other, until a round has had enough. enc: what stands for an element. Rounds may turn the blocks of Z. -/
def Seq (P : Program) (D : FD) (B : Nat) {α : Type} (gf : FuncId) (lb : List Value) (enc : α → World → Value → Prop) (xs : List α) (Z : Nat → Prop) (w0 : World) : Prop :=
  ∀ (l : Nat) (J Jx : Nat → World → Prop) (W : World), w0.heap.size ≤ l → St D B w0 W →
    (∀ i A C, J i A → St D B A C → J i C) →
    (∀ i x v A, xs[i]? = some x → J i A → StZ D B Z w0 A → enc x A v → YieldOk P l v A fun b A' => (b = true ∧ J (i + 1) A' ∧ StZ D B Z A A') ∨ (b = false ∧ Jx (i + 1) A')) →
    J 0 W → Calls P gf (#[.func (.yield l) #[] #[]] ++ lb.toArray) W fun e A' => ∃ v, e = .returned v ∧ ((J xs.length A' ∧ StZ D B Z w0 A') ∨ ∃ i, Jx i A')

/-- Deferred marks are whole. -/
def Mk (n : Nat) (ds : List Nat) (w : World) : Prop := ds.Nodup ∧ ∀ D ∈ ds, n ≤ D ∧ w.heap[D]? = some (.deferred (some []))
theorem Mk.nil (n : Nat) (w : World) : Mk n [] w := ⟨List.nodup_nil, fun _ h => by cases h⟩
theorem Mk.st {D : FD} {B n : Nat} {ds : List Nat} {w w' : World} (h : Mk n ds w) (hs : St D B w w') : Mk n ds w' :=
  ⟨h.1, fun k hk => ⟨(h.2 k hk).1, (hs.ext.keep k (heap_lt (h.2 k hk).2) (.inr (notT_nc (h.2 k hk).2 rfl))).trans (h.2 k hk).2⟩⟩
theorem Mk.mb {D : FD} {B n : Nat} {b : Option Nat} {ds : List Nat} {w w' : World} (h : Mk n ds w) (hm : Mb D B b w w') (hb : ∀ k, b = some k → ∃ c e fr, w.heap[k]? = some (.cells c e fr)) : Mk n ds w' :=
  ⟨h.1, fun k hk => ⟨(h.2 k hk).1, (hm.keep k (heap_lt (h.2 k hk).2) (fun e => by obtain ⟨c, e', fr, hc⟩ := hb k e.symm; rw [(h.2 k hk).2] at hc; cases hc)).trans (h.2 k hk).2⟩⟩
theorem Mk.cons {D : FD} {B n : Nat} {ds : List Nat} {w w' : World} (h : Mk n ds w) {d : Nat} (hd : w.heap.size ≤ d) (hn : n ≤ w.heap.size) (h' : Mk n ds w') (hw : w'.heap[d]? = some (.deferred (some []))) : Mk n (d :: ds) w' := by
  refine ⟨List.nodup_cons.2 ⟨fun hm => ?_, h.1⟩, fun k hk => ?_⟩
  · have := heap_lt (h.2 d hm).2; omega
  · rcases List.mem_cons.1 hk with rfl | hk
    · exact ⟨by omega, hw⟩
    · exact h'.2 k hk

/-- The blocks of a cell of a row are rows. -/
theorem Own.isrow {D : FD} {B n : Nat} {w : World} {E : TypeId} {v : Value} {b : Option Nat} {xs : List Value} (h : Own D B n w E v b xs) : ∀ k, b = some k → ∃ c e fr, w.heap[k]? = some (.cells c e fr) := by
  rintro k rfl
  rcases h with ⟨_, h, _⟩ | ⟨g, cap, cur, rfl, hb, h1, hB, h2, h3⟩
  · cases h
  · obtain rfl := Option.some.inj hb
    exact ⟨_, _, _, h2⟩

/-! ### a function's end, with marks -/
end
end Go.Gam

/- Matrices: rows of numbers in memory; what the functions of matrices tell. No program in sight. -/
set_option linter.unusedVariables false
set_option linter.unusedSimpArgs false
namespace Go.Gam
open Px

/-! ### cells that nobody turns -/
def KC (D : FD) (B : Nat) (w : World) (a : Addr) (v : Value) : Prop := w.cell? a = some v ∧ a.block < w.heap.size ∧ (a.block < B ∨ notT D w a.block)
theorem KC.c {D : FD} {B : Nat} {w : World} {a : Addr} {v : Value} (h : KC D B w a v) : w.cell? a = some v := h.1
theorem KC.ld {D : FD} {B : Nat} {w w' : World} {a : Addr} {v : Value} (h : KC D B w a v) (hs : Ext D B w w') : w'.cell? a = some v := (cell_of_heap (hs.keep a.block h.2.1 h.2.2)).trans h.1
theorem KC.ext {D : FD} {B : Nat} {w w' : World} {a : Addr} {v : Value} (h : KC D B w a v) (hs : Ext D B w w') : KC D B w' a v :=
  ⟨h.ld hs, Nat.lt_of_lt_of_le h.2.1 hs.size, h.2.2.imp id (notT_of (hs.keep a.block h.2.1 h.2.2))⟩
theorem KC.st {D : FD} {B : Nat} {w w' : World} {a : Addr} {v : Value} (h : KC D B w a v) (hs : St D B w w') : KC D B w' a v := h.ext hs.ext
theorem KC.mb {D : FD} {B : Nat} {b : Option Nat} {w w' : World} {a : Addr} {v : Value} (h : KC D B w a v) (hm : Mb D B b w w') (hb : b ≠ some a.block) : KC D B w' a v := by
  have hk := hm.keep a.block h.2.1 (fun e => hb e.symm)
  exact ⟨(cell_of_heap hk).trans h.1, Nat.lt_of_lt_of_le h.2.1 hm.size, h.2.2.imp id (notT_of hk)⟩
theorem Row.kat {D : FD} {B M len cap : Nat} {w : World} {sa : Option Addr} {xs : List Value} {i : Nat} {u : Value} (h : Row D B M w (.slice sa len cap) xs) (hi : xs[i]? = some u) : ∃ g o, sa = some ⟨g, o, none⟩ ∧ KC D B w ⟨g, o + i, none⟩ u ∧ g < M := by
  rcases h with ⟨_, _, h1, rfl⟩ | ⟨g, o, cap', h1, h0, h2, h3, h4, h5⟩
  · simp at hi
  · obtain ⟨rfl, rfl, rfl⟩ := Value.slice.inj h1
    exact ⟨g, o, rfl, ⟨h5 i u hi, h4, h3⟩, h2⟩
theorem Blk.kc {D : FD} {B : Nat} {w : World} {g : Nat} {E : TypeId} {cs : List Value} (h : Blk w g E cs) (hE : E ≠ D.T) (i : Nat) {v : Value} (hv : nth cs i = some v) : KC D B w ⟨g, i, none⟩ v :=
  ⟨h.at i hv, heap_lt h, .inr fun c fr e => by rw [show w.heap[g]? = _ from h] at e; exact hE (Obj.cells.inj (Option.some.inj e)).2.1⟩

/-! ### matrices in memory -/
abbrev Mtx := List (List Int)
structure Mat (D : FD) (B M : Nat) (w : World) (sa : Option Addr) (cap : Nat) (a : Mtx) : Prop where
  ex : ∃ vals, vals.length = a.length ∧ Row D B M w (.slice sa a.length cap) vals ∧ ∀ (j : Nat) (v : Value) (r : List Int), vals[j]? = some v → a[j]? = some r → Row D B M w v (zints r)
theorem Mat.st {D : FD} {B M : Nat} {w w' : World} {sa : Option Addr} {cap : Nat} {a : Mtx} (h : Mat D B M w sa cap a) (hs : St D B w w') : Mat D B M w' sa cap a := by
  obtain ⟨vals, h1, h2, h3⟩ := h.ex
  exact ⟨vals, h1, h2.st hs, fun j v r x y => (h3 j v r x y).st hs⟩
theorem Mat.mb {D : FD} {B M : Nat} {b : Option Nat} {w w' : World} {sa : Option Addr} {cap : Nat} {a : Mtx} (h : Mat D B M w sa cap a) (hm : Mb D B b w w') (hb : ∀ k, b = some k → M ≤ k) : Mat D B M w' sa cap a := by
  obtain ⟨vals, h1, h2, h3⟩ := h.ex
  exact ⟨vals, h1, h2.mb hm hb, fun j v r x y => (h3 j v r x y).mb hm hb⟩
theorem Mat.mono {D : FD} {B M M' : Nat} {w : World} {sa : Option Addr} {cap : Nat} {a : Mtx} (h : Mat D B M w sa cap a) (hM : M ≤ M') : Mat D B M' w sa cap a := by
  obtain ⟨vals, h1, h2, h3⟩ := h.ex
  exact ⟨vals, h1, h2.mono hM, fun j v r x y => (h3 j v r x y).mono hM⟩
theorem Mat.row {D : FD} {B M : Nat} {w : World} {sa : Option Addr} {cap : Nat} {a : Mtx} (h : Mat D B M w sa cap a) {i : Nat} {r : List Int} (hi : a[i]? = some r) :
    ∃ g o pr cr, sa = some ⟨g, o, none⟩ ∧ KC D B w ⟨g, o + i, none⟩ (.slice pr r.length cr) ∧ Row D B M w (.slice pr r.length cr) (zints r) ∧ g < M := by
  obtain ⟨vals, h1, h2, h3⟩ := h.ex
  have hl := (List.getElem?_eq_some_iff.1 hi).1
  obtain ⟨v, hv⟩ : ∃ v, vals[i]? = some v := ⟨_, List.getElem?_eq_getElem (by omega)⟩
  have hr := h3 i v r hv hi
  obtain ⟨pr, cr, rfl⟩ := hr.sl
  rw [zints_length] at hr hv
  obtain ⟨g, o, rfl, hk, hM⟩ := h2.kat hv
  exact ⟨g, o, pr, cr, rfl, hk, hr, hM⟩
theorem Mat.from {D : FD} {B M : Nat} {w : World} {sa : Option Addr} {cap : Nat} {a b : Mtx} (h : Mat D B M w sa cap a) {lo : Nat} (h2 : lo ≤ a.length) (hb : b = a.drop lo) : Mat D B M w (slA sa lo cap) (cap - lo) b := by
  obtain ⟨vals, h1, h3, h4⟩ := h.ex
  subst hb
  have hl : (a.drop lo).length = a.length - lo := by simp
  have hp := h3.part (lo := lo) (hi := a.length) (by omega) (by omega)
  rw [show vals.take a.length = vals from List.take_of_length_le (by omega)] at hp
  refine ⟨vals.drop lo, by simp; omega, by rw [hl]; exact hp, fun j v r x y => ?_⟩
  rw [List.getElem?_drop] at x y
  exact h4 _ v r x y
/-- A row of a matrix that is gathered: of the walk's own, in a block below K, or one that came in. -/
def RowO (D : FD) (B N K : Nat) (w : World) (u : Value) (r : List Int) : Prop := (∃ b, Own D B N w D.E u b (zints r) ∧ ∀ g, b = some g → g < K) ∨ Row D B N w u (zints r)
theorem RowO.st {D : FD} {B N K : Nat} {w w' : World} {u : Value} {r : List Int} (h : RowO D B N K w u r) (hs : St D B w w') : RowO D B N K w' u r :=
  h.imp (fun ⟨b, h1, h2⟩ => ⟨b, h1.st D.ne hs, h2⟩) (fun h => h.st hs)
theorem RowO.mb {D : FD} {B N K : Nat} {b : Option Nat} {w w' : World} {u : Value} {r : List Int} (h : RowO D B N K w u r) (hm : Mb D B b w w') (hb : ∀ k, b = some k → K ≤ k ∧ N ≤ k) : RowO D B N K w' u r :=
  h.imp (fun ⟨c, h1, h2⟩ => ⟨c, h1.mb hm (fun k e e2 => by have := h2 k e; have := (hb k e2).1; omega), h2⟩) (fun h => h.mb hm (fun k e => (hb k e).2))
theorem RowO.mb2 {D : FD} {B N K N' E2 : Nat} {b : Option Nat} {w w' : World} {u v : Value} {xs : List Value} {r : List Int} (h : RowO D B N K w u r) (hm : Mb D B b w w') (ho : Own D B N' w E2 v b xs) (hE : D.E ≠ E2) (hN : N ≤ N') : RowO D B N K w' u r :=
  h.imp (fun ⟨c, h1, h2⟩ => ⟨c, h1.mb hm (h1.ne_type ho hE), h2⟩) (fun h => h.mb hm (fun k e => Nat.le_trans hN (ho.lt k e).1))
theorem RowO.row {D : FD} {B N K : Nat} {w : World} {u : Value} {r : List Int} (h : RowO D B N K w u r) (hN : N ≤ w.heap.size) : Row D B w.heap.size w u (zints r) := by
  rcases h with ⟨b, h1, _⟩ | h
  · exact h1.row D.ne
  · exact h.mono hN
theorem RowO.of {D : FD} {B N N' : Nat} {w : World} {u : Value} {b : Option Nat} {r : List Int} (h : Own D B N' w D.E u b (zints r)) (hN : N ≤ N') : RowO D B N w.heap.size w u r := .inl ⟨b, h.le hN, fun g e => (h.lt g e).2⟩
theorem RowO.up {D : FD} {B N K K' : Nat} {w : World} {u : Value} {r : List Int} (h : RowO D B N K w u r) (hK : K ≤ K') : RowO D B N K' w u r :=
  h.imp (fun ⟨b, h1, h2⟩ => ⟨b, h1, fun g e => Nat.lt_of_lt_of_le (h2 g e) hK⟩) id

/-- Rows in a row of the walk's own (from N on), while they are gathered: each its own, below K, or one that came in, below M0. -/
structure MOwn (D : FD) (B N M0 K : Nat) (w : World) (E2 : TypeId) (v : Value) (b : Option Nat) (a : Mtx) : Prop where
  ex : ∃ vals, vals.length = a.length ∧ Own D B N w E2 v b vals ∧ ∀ (j : Nat) (u : Value) (r : List Int), vals[j]? = some u → a[j]? = some r → RowO D B M0 K w u r
  mn : M0 ≤ N
theorem MOwn.nil (D : FD) (B N M0 K : Nat) (w : World) (E2 : TypeId) (h : M0 ≤ N) : MOwn D B N M0 K w E2 (.slice none 0 0) none [] := ⟨⟨[], rfl, Own.nil _ _ _ _ _, fun j v r x => by simp at x⟩, h⟩
theorem MOwn.st {D : FD} {B N M0 K : Nat} {w w' : World} {E2 : TypeId} {v : Value} {b : Option Nat} {a : Mtx} (h : MOwn D B N M0 K w E2 v b a) (hE : E2 ≠ D.T) (hs : St D B w w') : MOwn D B N M0 K w' E2 v b a := by
  obtain ⟨vals, h1, h2, h3⟩ := h.ex
  exact ⟨⟨vals, h1, h2.st hE hs, fun j u r x y => (h3 j u r x y).st hs⟩, h.mn⟩
theorem MOwn.mb0 {D : FD} {B N M0 K : Nat} {w w' : World} {E2 : TypeId} {v : Value} {b : Option Nat} {a : Mtx} (h : MOwn D B N M0 K w E2 v b a) (hm : Mb D B none w w') : MOwn D B N M0 K w' E2 v b a := by
  obtain ⟨vals, h1, h2, h3⟩ := h.ex
  exact ⟨⟨vals, h1, h2.mb hm (fun k _ e => by cases e), fun j u r x y => (h3 j u r x y).mb hm (fun _ e => by cases e)⟩, h.mn⟩
/-- Another row of the walk's own, of numbers, from K on, turns. -/
theorem MOwn.mbo {D : FD} {B N M0 K N' : Nat} {c : Option Nat} {w w' : World} {E2 : TypeId} {v u : Value} {b : Option Nat} {a : Mtx} {xs : List Value} (h : MOwn D B N M0 K w E2 v b a) (hm : Mb D B c w w') (ho : Own D B N' w D.E u c xs) (hE : D.E ≠ E2) (hK : K ≤ N') (hN : M0 ≤ N') : MOwn D B N M0 K w' E2 v b a := by
  obtain ⟨vals, h1, h2, h3⟩ := h.ex
  exact ⟨⟨vals, h1, h2.mb hm (fun k e e2 => ho.ne_type h2 hE k e2 e), fun j x r p q => (h3 j x r p q).mb hm (fun k e => ⟨Nat.le_trans hK (ho.lt k e).1, Nat.le_trans hN (ho.lt k e).1⟩)⟩, h.mn⟩
theorem MOwn.mat {D : FD} {B N M0 K : Nat} {w : World} {E2 : TypeId} {v : Value} {b : Option Nat} {a : Mtx} (h : MOwn D B N M0 K w E2 v b a) (hE : E2 ≠ D.T) (hN : M0 ≤ w.heap.size) : ∃ sa cap, v = .slice sa a.length cap ∧ Mat D B w.heap.size w sa cap a := by
  obtain ⟨vals, h1, h2, h3⟩ := h.ex
  obtain ⟨sa, cap, rfl⟩ := h2.shape
  have hr := h2.row hE
  rw [h1] at hr
  exact ⟨sa, cap, by rw [h1], vals, h1, hr, fun j v r x y => (h3 j v r x y).row hN⟩
theorem MOwn.up {D : FD} {B N M0 K K' : Nat} {w : World} {E2 : TypeId} {v : Value} {b : Option Nat} {a : Mtx} (h : MOwn D B N M0 K w E2 v b a) (hK : K ≤ K') : MOwn D B N M0 K' w E2 v b a := by
  obtain ⟨vals, h1, h2, h3⟩ := h.ex
  exact ⟨⟨vals, h1, h2, fun j u r x y => (h3 j u r x y).up hK⟩, h.mn⟩
theorem MOwn.cast {D : FD} {B N M0 K : Nat} {w : World} {E2 : TypeId} {v : Value} {b : Option Nat} {a a' : Mtx} (h : MOwn D B N M0 K w E2 v b a) (e : a = a') : MOwn D B N M0 K w E2 v b a' := e ▸ h
theorem MOwn.le {D : FD} {B N N' M0 K : Nat} {w : World} {E2 : TypeId} {v : Value} {b : Option Nat} {a : Mtx} (h : MOwn D B N M0 K w E2 v b a) (hN : N' ≤ N) (hm : M0 ≤ N') : MOwn D B N' M0 K w E2 v b a := by
  obtain ⟨vals, h1, h2, h3⟩ := h.ex
  exact ⟨⟨vals, h1, h2.le hN, h3⟩, hm⟩
theorem MOwn.lt {D : FD} {B N M0 K : Nat} {w : World} {E2 : TypeId} {v : Value} {b : Option Nat} {a : Mtx} (h : MOwn D B N M0 K w E2 v b a) : ∀ k, b = some k → N ≤ k ∧ k < w.heap.size := by
  obtain ⟨vals, h1, h2, h3⟩ := h.ex
  exact h2.lt
section
variable {P : Program} {ops : Array Oper} {K' : Kont} {rest : List Oper} {n : NN} {F : Fs} {T : TypeId} {pp : String} {af : Array Edge} {v : Value} {d : Nat} {a : Act} {w : World} {x : Operand} {D : FD} {B : Nat}
/-- A row is appended to rows that are gathered. -/
theorem s_appM {t e by_ N N2 M0 K : Nat} {ats : Array TypeId} {z : Value} {b bx : Option Nat} {a0 : Mtx} {xv u : Value} {r : List Int} {s : Operand} (hF : Fr n F a) (hat : ats = #[t, t]) (ht : Sl P t e z by_) (hs : ev F s = some v) (hx : ev F x = some xv)
    (hM : MOwn D B N M0 K w e v b a0) (hl : Own D B N2 w e xv bx [u]) (hr : RowO D B M0 K w u r) (h1 : u.oneCell' = true) (hby : by_ = 24) (hsm : a0.length ≤ 1000000) (hN : N ≤ w.heap.size) (he : e ≠ D.T) (hE : D.E ≠ e) (hI : Inv D B w) (hd : Nat.blt d n.n = true)
    (k : ∀ v' b' w' a, MOwn D B N M0 K w' e v' b' (a0 ++ [r]) → Mb D B b w w' → Inv D B w' → Fr n ((d, v') :: F) a → WL P ops K' rest a w') :
    WL P ops K' (⟨some d, .call ⟨.builtin .append, #[s, x], ats⟩, T, pp, af, none⟩ :: rest) a w := by
  obtain ⟨vals, h2, h3, h4⟩ := hM.ex
  subst hby
  refine s_app (D := D) (B := B) hF hat ht hs hx h3 (hl.row he) (by simpa using h1) (by simp; omega) (by simp [maxLen]; omega) hN he hI hd ?_
  intro v' b' w' a' ho hm hI' hb' hF'
  refine k v' b' w' a' ⟨⟨vals ++ [u], by simp [h2], ho, fun j x y hx hy => ?_⟩, hM.mn⟩ hm hI' hF'
  by_cases hj : j < vals.length
  · rw [List.getElem?_append_left hj] at hx
    rw [List.getElem?_append_left (by omega)] at hy
    exact (h4 j x y hx hy).mb2 hm h3 hE hM.mn
  · have hj2 : j = vals.length := by have := (List.getElem?_eq_some_iff.1 hx).1; simp at this; omega
    subst hj2
    simp at hx
    rw [h2] at hy
    simp at hy
    subst hx; subst hy
    exact hr.mb2 hm h3 hE hM.mn
/-- Rows that may be appended. -/
def RowsO (D : FD) (B N K : Nat) (w : World) (v : Value) (a : Mtx) : Prop := ∃ vals, vals.length = a.length ∧ (∃ M, Row D B M w v vals) ∧ ∀ (j : Nat) (u : Value) (r : List Int), vals[j]? = some u → a[j]? = some r → RowO D B N K w u r
theorem v_eqlSl {sa : Option Addr} {len cap : Nat} {t e s : TypeId} {y : Operand} (hb : P.underlying t = some (.slice e)) (hx : ev F x = some (.slice sa len cap)) (hy : ev F y = some (.slice none 0 0)) : Val P (.binOp .eql t x y s) T F w (.bool sa.isNone) :=
  fun ρ h d p af g => by
    simp only [execOp, h x _ hx, h y _ hy, eqGuard, binOp]
    have he : ∀ (e : Nat), (Op.equalIn (e + 1) t (.slice sa len cap) (.slice none 0 0)).run P w = .ok sa.isNone w := by
      intro e
      cases sa <;> simp [Op.equalIn, underlying, hb, program, Sem.run]
    have he' : (Op.equal t (.slice sa len cap) (.slice none 0 0)).run P w = .ok sa.isNone w := he 9999
    simp [he']
end

/-! ### a variable of its own block that is stored into -/
structure Box (D : FD) (B N : Nat) (w : World) (g : Nat) (E : TypeId) (v : Value) : Prop where
  blk : Blk w g E [v]
  low : N ≤ g
  base : B ≤ g
  priv : Priv D B w g
  ty : E ≠ D.T
theorem Box.st {D : FD} {B N : Nat} {w w' : World} {g : Nat} {E : TypeId} {v : Value} (h : Box D B N w g E v) (hs : St D B w w') : Box D B N w' g E v := ⟨h.blk.st h.ty hs, h.low, h.base, hs.ext.priv g (heap_lt h.blk) h.priv, h.ty⟩
theorem Box.xt {D : FD} {B N n : Nat} {w w' : World} {g : Nat} {E : TypeId} {v : Value} (h : Box D B N w g E v) (hs : Xt D B n w w') : Box D B N w' g E v := ⟨h.blk.xt h.ty hs, h.low, h.base, hs.priv g (heap_lt h.blk) h.priv, h.ty⟩
theorem Box.mb {D : FD} {B N : Nat} {b : Option Nat} {w w' : World} {g : Nat} {E : TypeId} {v : Value} (h : Box D B N w g E v) (hm : Mb D B b w w') (hb : b ≠ some g) : Box D B N w' g E v := ⟨h.blk.mb hm hb, h.low, h.base, hm.priv h.priv, h.ty⟩
theorem Box.stz {D : FD} {B N : Nat} {Z : Nat → Prop} {w w' : World} {g : Nat} {E : TypeId} {v : Value} (h : Box D B N w g E v) (hs : StZ D B Z w w') (hz : ¬ Z g) : Box D B N w' g E v := ⟨h.blk.stz h.ty hs hz, h.low, h.base, hs.ext.priv g (heap_lt h.blk) h.priv, h.ty⟩
theorem Box.at {D : FD} {B N : Nat} {w : World} {g : Nat} {E : TypeId} {v : Value} (h : Box D B N w g E v) : w.cell? ⟨g, 0, none⟩ = some v := h.blk.at 0 rfl
theorem Box.kc {D : FD} {B N : Nat} {w : World} {g : Nat} {E : TypeId} {v : Value} (h : Box D B N w g E v) : KC D B w ⟨g, 0, none⟩ v := h.blk.kc h.ty 0 rfl
theorem Box.ne_own {D : FD} {B N N' : Nat} {w : World} {g : Nat} {E E' : TypeId} {v u : Value} {b : Option Nat} {xs : List Value} (h : Box D B N w g E v) (ho : Own D B N' w E' u b xs) (hE : E ≠ E') : b ≠ some g := by
  intro e
  obtain ⟨_, hl⟩ := ho.lt g e
  rcases ho with ⟨_, h', _⟩ | ⟨g', cap, cur, rfl, hb, h1, hB, h2, h3⟩
  · rw [h'] at e; cases e
  · rw [hb] at e; obtain rfl := Option.some.inj e
    have hk : w.heap[g']? = _ := h.blk
    rw [h2] at hk
    exact hE (Obj.cells.inj (Option.some.inj hk)).2.1.symm

section
variable {P : Program} {ops : Array Oper} {K : Kont} {rest : List Oper} {n : NN} {F : Fs} {T : TypeId} {pp : String} {af : Array Edge} {v : Value} {d : Nat} {a : Act} {w : World} {x y : Operand} {D : FD} {B : Nat}
/-- A type whose variables are one cell, z at first. -/
def Zv (P : Program) (e : TypeId) (z : Value) : Prop := z.cells = #[z] ∧ ∃ i, P.info? e = some i ∧ i.zero = some z
theorem zv_of {e : TypeId} {z : Value} (hz : z.cells = #[z]) (h : (P.info? e).map (fun i => i.zero) = some (some z)) : Zv P e z := by
  cases hi : P.info? e with
  | none => rw [hi] at h; cases h
  | some i => rw [hi] at h; exact ⟨hz, i, hi, by simpa using h⟩
theorem s_boxN {e : TypeId} (hF : Fr n F a) (hx : ev F x = some v) (hv : v.cells = #[v]) (he : e ≠ D.T) (hI : Inv D B w) (hd : Nat.blt d n.n = true)
    (k : ∀ w' a, Mb D B none w w' → Inv D B w' → Box D B w.heap.size w' w.heap.size e v → w'.heap.size = w.heap.size + 1 → Fr n ((d, .pointer (some ⟨w.heap.size, 0, none⟩)) :: F) a → WL P ops K rest a w') :
    WL P ops K (⟨some d, .box e x, T, pp, af, none⟩ :: rest) a w :=
  s_box hF hx he hI hd fun w' a hm hb hsz hF => k w' a hm (hm.inv hI) ⟨by rw [hv] at hb; exact hb, Nat.le_refl _, hI.1, hm.priv (hI.priv_new (Nat.le_refl _)), he⟩ hsz hF
theorem s_alloc {e : TypeId} {z : Value} (hF : Fr n F a) (hz : Zv P e z) (he : e ≠ D.T) (hI : Inv D B w) (hd : Nat.blt d n.n = true)
    (k : ∀ w' a, Mb D B none w w' → Inv D B w' → Box D B w.heap.size w' w.heap.size e z → w'.heap.size = w.heap.size + 1 → Fr n ((d, .pointer (some ⟨w.heap.size, 0, none⟩)) :: F) a → WL P ops K rest a w') :
    WL P ops K (⟨some d, .alloc e, T, pp, af, none⟩ :: rest) a w := by
  obtain ⟨h1, i, h2, h3⟩ := hz
  have hm := Mb.alloc D B w #[z] e (0, 0) he
  refine s_run (w' := w.alloc (.cells #[z] e)) hF (fun ρ h => ?_) hd fun a hF => k _ a hm (hm.inv hI) ⟨alloc_new w _, Nat.le_refl _, hI.1, hm.priv (hI.priv_new (Nat.le_refl _)), he⟩ (by simp) hF
  simp [execOp, Instr.alloc, zeroValue, typeInfo, h2, h3, h1, newVar, newRow, newObj, Sem.run]
/-- A store into a variable of its own block. -/
theorem s_stb {t N g E : Nat} {u : Value} (hF : Fr n F a) (ht : One P t) (hx : ev F x = some (.pointer (some ⟨g, 0, none⟩))) (hy : ev F y = some u) (hu : u.oneCell' = true) (hb : Box D B N w g E v) (hI : Inv D B w)
    (k : ∀ w', Mb D B (some g) w w' → Inv D B w' → Box D B N w' g E u → WL P ops K rest a w') : WL P ops K (⟨none, .store t x y, T, pp, af, none⟩ :: rest) a w := by
  have hO : Own D B N w E (.slice (some ⟨g, 0, none⟩) 1 1) (some g) [v] := .inr ⟨g, 1, #[v], rfl, rfl, hb.low, hb.base, hb.blk, Nat.le_refl _, by simp [maxLen], rfl, rfl, hb.priv⟩
  refine s_set (D := D) (B := B) hF ht hx (by simp) hy hu hO hb.ty hI ?_
  intro w' hm hI' ho
  refine k w' hm hI' ?_
  rcases ho with ⟨_, h, _⟩ | ⟨g', cap, cur, e1, e2, h1, hB, h2, h3, h4, h5, h6, h7⟩
  · cases h
  · obtain rfl := Option.some.inj e2
    have hc : cap = 1 := by injection e1 with _ _ e4; exact e4.symm
    subst hc
    refine ⟨?_, h1, hB, h7, hb.ty⟩
    unfold Blk
    rw [h2]
    have : cur.toList = [u] := by
      have hl : cur.toList.length = 1 := by simpa using h5
      simp at h6
      rw [show cur.toList.take 1 = cur.toList from List.take_of_length_le (by omega)] at h6
      exact h6
    rw [← this]
end

theorem Fo.cells1 {D : FD} {B : Nat} {w : World} {v : Value} {o : Fq} (h : Fo D B w v o) : v.cells = #[v] := by
  cases o with
  | none => obtain rfl : v = .pointer none := h; rfl
  | some q => obtain ⟨_, k, rfl, _⟩ := h; rfl

/-! ### what the functions of matrices tell -/
def mayM (o : Fq) : Mtx → Bool
  | [] => false
  | r0 :: rs => decide ((r0 :: rs).length ≤ 20) && decide (1 ≤ r0.length ∧ r0.length ≤ 20) && (r0 :: rs).all fun r => decide (r.length = r0.length) && r.all (inF o)
def idM (n : Nat) : Mtx := (List.range n).map fun i => (List.range n).map fun j => if i = j then 1 else 0
def identM (n : Int) : Mtx := if 1 ≤ n ∧ n ≤ 20 then idM n.toNat else []
def rowM (a : Mtx) (i : Int) : List Int := a.getD i.toNat []
def pickB (o : Fq) (a : Mtx) (rows : List Int) : Bool := mayM o a && decide (1 ≤ rows.length ∧ rows.length ≤ 20) && rows.all fun i => decide (0 ≤ i ∧ i < (a.length : Int))
def pickM (o : Fq) (a : Mtx) (rows : List Int) : Option Mtx := if pickB o a rows = true then some (rows.map (rowM a)) else none
def wid (a : Mtx) : Nat := (a.getD 0 []).length
def joinB (o : Fq) (a b : Mtx) : Bool := mayM o a && mayM o b && decide (wid a = wid b) && decide (a.length + b.length ≤ 20)
def joinM (o : Fq) (a b : Mtx) : Option Mtx := if joinB o a b = true then some (a ++ b) else none
def dotN (o : Fq) (r c : List Int) : Nat := (List.zipWith (gmul o) r c).foldl (fun s z => s ^^^ z.toNat) 0
def colAt (b : Mtx) (j : Nat) : List Int := b.map fun r => r.getD j 0
def mulB (o : Fq) (a b : Mtx) : Bool := mayM o a && mayM o b && decide (wid a = b.length)
def mulRow (o : Fq) (b : Mtx) (r : List Int) : List Int := (List.range (wid b)).map fun j => (dotN o r (colAt b j) : Int)
def mulM (o : Fq) (a b : Mtx) : Option Mtx := if mulB o a b = true then some (a.map (mulRow o b)) else none
def applyM (o : Fq) (a : Mtx) (v : List Int) : Option (List Int) := (mulM o a (v.map fun x => [x])).map fun m => m.map fun r => r.getD 0 0

theorem mayM_pos {o : Fq} {a : Mtx} (h : mayM o a = true) : 1 ≤ a.length ∧ a.length ≤ 20 ∧ 1 ≤ wid a ∧ wid a ≤ 20 ∧ ∀ r ∈ a, r.length = wid a ∧ ∀ x ∈ r, inF o x = true := by
  cases a with
  | nil => cases h
  | cons r0 rs =>
    simp only [mayM, Bool.and_eq_true, decide_eq_true_eq, List.all_eq_true] at h
    obtain ⟨⟨h1, h2⟩, h3⟩ := h
    exact ⟨by simp, h1, h2.1, h2.2, fun r hr => ⟨(h3 r hr).1, (h3 r hr).2⟩⟩
theorem mayM_of {o : Fq} {a : Mtx} (h1 : 1 ≤ a.length) (h2 : a.length ≤ 20) (h3 : 1 ≤ wid a) (h4 : wid a ≤ 20) (h5 : ∀ r ∈ a, r.length = wid a ∧ ∀ x ∈ r, inF o x = true) : mayM o a = true := by
  cases a with
  | nil => simp at h1
  | cons r0 rs =>
    simp only [mayM, Bool.and_eq_true, decide_eq_true_eq, List.all_eq_true]
    exact ⟨⟨h2, h3, h4⟩, fun r hr => ⟨(h5 r hr).1, (h5 r hr).2⟩⟩
theorem mayM_iff {o : Fq} {a : Mtx} : mayM o a = true ↔ 1 ≤ a.length ∧ a.length ≤ 20 ∧ 1 ≤ wid a ∧ wid a ≤ 20 ∧ ∀ r ∈ a, r.length = wid a ∧ ∀ x ∈ r, inF o x = true :=
  ⟨mayM_pos, fun ⟨h1, h2, h3, h4, h5⟩ => mayM_of h1 h2 h3 h4 h5⟩
theorem wid_at {a : Mtx} {r : List Int} (h : a[0]? = some r) : wid a = r.length := by unfold wid; rw [List.getD_eq_getElem?_getD, h]; rfl
theorem mayM_no {o : Fq} {a : Mtx} (h : ¬ (1 ≤ a.length ∧ a.length ≤ 20 ∧ 1 ≤ wid a ∧ wid a ≤ 20 ∧ ∀ r ∈ a, r.length = wid a ∧ ∀ x ∈ r, inF o x = true)) : mayM o a = false := by
  cases hm : mayM o a with
  | false => rfl
  | true => exact absurd (mayM_pos hm) h
/-! ### finding -/
def idxZ {α : Type} (p : α → Bool) (xs : List α) : Int := match xs.findIdx? p with | some i => (i : Int) | none => -1
theorem idxZ_at {α : Type} {p : α → Bool} {xs : List α} {i : Nat} {x : α} (h : ∀ y ∈ xs.take i, p y = false) (hi : xs[i]? = some x) (hx : p x = true) : idxZ p xs = (i : Int) := by
  have : xs.findIdx? p = some i := by
    rw [List.findIdx?_eq_some_iff_getElem]
    obtain ⟨hl, he⟩ := List.getElem?_eq_some_iff.1 hi
    refine ⟨hl, by rw [he]; exact hx, fun j hj => ?_⟩
    have hm : xs[j]'(by omega) ∈ xs.take i := by
      rw [List.mem_take_iff_getElem]
      exact ⟨j, by omega, rfl⟩
    simpa using h _ hm
  unfold idxZ; rw [this]
theorem idxZ_no {α : Type} {p : α → Bool} {xs : List α} (h : ∀ y ∈ xs, p y = false) : idxZ p xs = -1 := by
  have : xs.findIdx? p = none := by rw [List.findIdx?_eq_none_iff]; exact h
  unfold idxZ; rw [this]
theorem idxZ_any {α : Type} (p : α → Bool) (xs : List α) : decide (0 ≤ idxZ p xs) = xs.any p := by
  unfold idxZ
  cases h : xs.findIdx? p with
  | none =>
    rw [List.findIdx?_eq_none_iff] at h
    rw [List.any_eq_false.2 (fun x hx => by simpa using h x hx)]; rfl
  | some i =>
    rw [List.findIdx?_eq_some_iff_getElem] at h
    obtain ⟨hl, hp, _⟩ := h
    rw [List.any_eq_true.2 ⟨_, List.getElem_mem hl, hp⟩]
    simp
theorem take_snoc_no {α : Type} {p : α → Bool} {xs : List α} {i : Nat} {x : α} (h : ∀ y ∈ xs.take i, p y = false) (hi : xs[i]? = some x) (hx : p x = false) : ∀ y ∈ xs.take (i + 1), p y = false := by
  intro y hy
  rw [List.take_add_one, hi] at hy
  simp at hy
  rcases hy with hy | rfl
  · exact h y hy
  · exact hx
theorem mayM_eq {o : Fq} {a : Mtx} {r0 : List Int} (h0 : a[0]? = some r0) (h1 : a.length ≤ 20) (h2 : 1 ≤ r0.length ∧ r0.length ≤ 20) : (!a.any fun r => decide (r.length ≠ r0.length) || r.any fun x => !inF o x) = mayM o a := by
  rw [Bool.eq_iff_iff, mayM_iff]
  have hw := wid_at h0
  have hl := (List.getElem?_eq_some_iff.1 h0).1
  simp only [Bool.not_eq_true', List.any_eq_false, Bool.or_eq_true, decide_eq_true_eq, List.any_eq_true, not_or, Bool.not_eq_true, hw]
  constructor
  · intro h
    refine ⟨by omega, h1, h2.1, h2.2, fun r hr => ⟨?_, fun x hx => ?_⟩⟩
    · have := (h r hr).1; omega
    · cases hi : inF o x with
      | true => rfl
      | false => exact absurd ⟨x, hx, by simp [hi]⟩ (h r hr).2
  · rintro ⟨_, _, _, _, h⟩ r hr
    refine ⟨by have := (h r hr).1; omega, fun ⟨x, hx, hi⟩ => ?_⟩
    have := (h r hr).2 x hx
    rw [this] at hi; cases hi
def unitR (n i : Nat) : List Int := (List.range n).map fun j => if i = j then 1 else 0
theorem unitR_set (n i : Nat) (h : i < n) : (List.replicate n (0 : Int)).set i 1 = unitR n i := by
  apply List.ext_getElem
  · simp [unitR]
  · intro j h1 h2
    simp [unitR, List.getElem_set]
theorem idM_eq (n : Nat) : idM n = (List.range n).map (unitR n) := rfl
theorem idM_snoc (n i : Nat) : (List.range (i + 1)).map (unitR n) = (List.range i).map (unitR n) ++ [unitR n i] := by rw [List.range_succ, List.map_append]; rfl
def dotP (o : Fq) (r c : List Int) (i : Nat) : Nat := dotN o (r.take i) (c.take i)
theorem Row.nilx {D : FD} {B M len cap : Nat} {w : World} {xs : List Value} (h : Row D B M w (.slice none len cap) xs) : xs = [] := by
  rcases h with ⟨_, _, _, h⟩ | ⟨g, o, cap', h1, _⟩
  · exact h
  · cases h1
theorem ofz {l : List Int} (h : zints l = []) : l = [] := List.map_eq_nil_iff.1 h
theorem take_snoc {α : Type} {l : List α} {i : Nat} {x : α} (h : l[i]? = some x) : l.take (i + 1) = l.take i ++ [x] := by rw [List.take_add_one, h]; rfl
/-! ### columns -/
theorem KC.stz {D : FD} {B : Nat} {Z : Nat → Prop} {w w' : World} {a : Addr} {v : Value} (h : KC D B w a v) (hs : StZ D B Z w w') (hz : ¬ Z a.block) : KC D B w' a v := by
  have hk := hs.ext.keep a.block h.2.1 hz h.2.2
  exact ⟨(cell_of_heap hk).trans h.1, Nat.lt_of_lt_of_le h.2.1 hs.ext.size, h.2.2.imp id (notT_of hk)⟩
theorem Mk.xt {D : FD} {B n m : Nat} {ds : List Nat} {w w' : World} (h : Mk n ds w) (hs : Xt D B m w w') (hd : ∀ d ∈ ds, d < m) : Mk n ds w' :=
  ⟨h.1, fun k hk => ⟨(h.2 k hk).1, (hs.keep k (heap_lt (h.2 k hk).2) (.inl (hd k hk)) (.inr (notT_nc (h.2 k hk).2 rfl))).trans (h.2 k hk).2⟩⟩
theorem Fo.stz {D : FD} {B : Nat} {Z : Nat → Prop} {w w' : World} {v : Value} {o : Fq} (h : Fo D B w v o) (hs : StZ D B Z w w') : Fo D B w' v o := by
  cases o with
  | none => exact h
  | some q => obtain ⟨h1, k, h2, h3⟩ := h; exact ⟨h1, k, h2, hs.ext.fld k _ _ h3⟩
def encR (D : FD) (B : Nat) (x : List Int) (A : World) (v : Value) : Prop := ∃ b, Own D B 0 A D.E v b (zints x)
def cfill (mt : Mtx) (j i : Nat) : List Int := (colAt mt j).take i ++ List.replicate (mt.length - i) 0
theorem Mat.at1 {D : FD} {B M : Nat} {w : World} {sa : Option Addr} {cap : Nat} {a : Mtx} (h : Mat D B M w sa cap a) (h1 : 1 ≤ a.length) : ∃ g o, sa = some ⟨g, o, none⟩ := by
  obtain ⟨g, o, _, _, h2, _⟩ := h.row (List.getElem?_eq_getElem (show 0 < a.length by omega))
  exact ⟨g, o, h2⟩
theorem Mat.row2 {D : FD} {B M g o : Nat} {w : World} {cap : Nat} {a : Mtx} (h : Mat D B M w (some ⟨g, o, none⟩) cap a) {i : Nat} {r : List Int} (hi : a[i]? = some r) :
    ∃ pr cr, KC D B w ⟨g, o + i, none⟩ (.slice pr r.length cr) ∧ Row D B M w (.slice pr r.length cr) (zints r) ∧ g < M := by
  obtain ⟨g', o', pr, cr, h1, h2, h3, h4⟩ := h.row hi
  obtain ⟨rfl, rfl⟩ : g = g' ∧ o = o' := by injection h1 with h1; injection h1 with h1 h5; exact ⟨h1, h5⟩
  exact ⟨pr, cr, h2, h3, h4⟩
theorem take_snoc_eq {α : Type} {xs ys : List α} {i : Nat} {x : α} (h : xs.take i = ys.take i) (hx : xs[i]? = some x) (hy : ys[i]? = some x) : xs.take (i + 1) = ys.take (i + 1) := by rw [take_snoc hx, take_snoc hy, h]
def colM (l : List Int) : Mtx := l.map fun x => [x]
theorem getD_at {l : List Int} {i : Nat} {x : Int} (h : l[i]? = some x) : l.getD i 0 = x := by rw [List.getD_eq_getElem?_getD, h]; rfl
/-- Few rows, of few numbers. -/
def fewM (a : Mtx) : Bool := decide (a.length ≤ 10) && a.all fun r => decide (r.length ≤ 10)
end Go.Gam

/- Arguments opened: matrices, arrays of matrices. No program in sight. -/
set_option linter.unusedVariables false
set_option linter.unusedSimpArgs false
namespace Go.Gam
open Go Go.ChangeShapes Go.WideShapes Go.ChangeAt Go.RowKit

section
variable {H : Type} {enc : TypeId × Value → H} {P : Program} {w : World} {base : Nat} {held : Bool} {D : FD}

/-- One argument that is a matrix. -/
def MatArg (D : FD) (w : World) (v : Value) : Prop := ∃ sa cap, ∃ a : Mtx, v = .slice sa a.length cap ∧ Mat D w.heap.size w.heap.size w sa cap a ∧ a.length ≤ maxLen ∧ ∀ r ∈ a, r.length ≤ maxLen
/-- An array of values of one cell each. -/
theorem open_arrV {r : Reach} {b0 : Nat} {t e : TypeId} {n : Nat} {v : Value} {d : DataW H} {ps : List MemPlace} (Q : Value → Prop) (ht : P.underlying t = some (.array n e)) (hc : P.cellsOf e = 1) (hn : P.cellsOf t = n)
    (hQ : ∀ fuel u x, DataW.trod enc P w base (fun _ => true) held fuel e [u] = some x → Q u)
    (hval : Value.okWide P w r b0 t v) (hd : DataW.Trod enc P w base (fun _ => true) held t v d ps) :
    ∃ l : List Value, v = .agg l.toArray ∧ l.length = n ∧ ∀ u ∈ l, Q u := by
  obtain ⟨cs, rfl, hsz, _⟩ : ∃ cs, v = .agg cs ∧ cs.size = P.cellsOf t ∧ Row.okWide P w r b0 t cs := by
    simpa [Value.okWide, ht] using hval
  obtain ⟨fuel, hf⟩ := hd
  obtain ⟨ys, m, _, _, _, hl, hel⟩ := DataW.trod_array ht hf
  obtain ⟨l⟩ := cs
  have hsz' : l.length = n := by rw [hn] at hsz; simpa using hsz
  refine ⟨l, rfl, hsz', fun u hu => ?_⟩
  obtain ⟨i, hi, rfl⟩ := List.getElem_of_mem hu
  have hy := hel i (by omega)
  have hi' : i < ys.length := by omega
  rw [List.getElem?_eq_getElem hi'] at hy
  have e2 : ((Value.agg l.toArray).cells.toList.drop (i * P.cellsOf e)).take (P.cellsOf e) = [l[i]] := by
    show (l.drop (i * P.cellsOf e)).take (P.cellsOf e) = [l[i]]
    rw [hc, Nat.mul_one, List.drop_eq_getElem_cons hi]
    rfl
  rw [e2] at hy
  exact hQ _ _ _ hy
theorem twoV {xs : List Value} {Q : Value → Prop} (h : xs.length = 2) (hq : ∀ x ∈ xs, Q x) : ∃ a b, xs = [a, b] ∧ Q a ∧ Q b := by
  match xs, h with | [a, b], _ => exact ⟨a, b, rfl, hq a (by simp), hq b (by simp)⟩
end
end Go.Gam

/- The walks of package poly: each function returns what the plain function on numbers tells. -/
set_option linter.unusedVariables false
set_option linter.unusedSimpArgs false
namespace Go.Proofs.Ytaeljbdpjiciaaa
open Go Go.Gam


namespace FxFPoly
theorem en65 : Ent Try.prog 65 := ent Try.func65 (by kernel_rfl) (by kernel_rfl)
theorem en76 : Ent Try.prog 76 := ent Try.func76 (by kernel_rfl) (by kernel_rfl)
theorem en94 : Ent Try.prog 94 := ent Try.func94 (by kernel_rfl) (by kernel_rfl)
theorem en95 : Ent Try.prog 95 := ent Try.func95 (by kernel_rfl) (by kernel_rfl)
theorem en101 : Ent Try.prog 101 := ent Try.func101 (by kernel_rfl) (by kernel_rfl)
theorem en102 : Ent Try.prog 102 := ent Try.func102 (by kernel_rfl) (by kernel_rfl)
theorem en103 : Ent Try.prog 103 := ent Try.func103 (by kernel_rfl) (by kernel_rfl)
theorem en104 : Ent Try.prog 104 := ent Try.func104 (by kernel_rfl) (by kernel_rfl)
theorem en111 : Ent Try.prog 111 := ent Try.func111 (by kernel_rfl) (by kernel_rfl)
theorem en112 : Ent Try.prog 112 := ent Try.func112 (by kernel_rfl) (by kernel_rfl)
theorem en115 : Ent Try.prog 115 := ent Try.func115 (by kernel_rfl) (by kernel_rfl)
theorem en116 : Ent Try.prog 116 := ent Try.func116 (by kernel_rfl) (by kernel_rfl)
theorem sc24 : Scalar Try.prog 24 := ⟨_, Try.underlying24, by simp, by simp⟩
theorem sc3 : Scalar Try.prog 3 := ⟨_, Try.underlying3, by simp, by simp⟩
theorem sl37 : Sl Try.prog 37 3 (.int .i64 0) 8 := sl_of Try.underlying37 rfl (by kernel_rfl)
end FxFPoly
open FxFPoly

/-- The field's type and the type of whole numbers in this program. -/
def FDx : FD := ⟨103, 3, by decide⟩

def len8 : List UInt8 := [0, 1, 2, 2, 3, 3, 3, 3, 4, 4, 4, 4, 4, 4, 4, 4, 5, 5, 5, 5, 5, 5, 5, 5, 5, 5, 5, 5, 5, 5, 5, 5, 6, 6, 6, 6, 6, 6, 6, 6, 6, 6, 6, 6, 6, 6, 6, 6, 6, 6, 6, 6, 6, 6, 6, 6, 6, 6, 6, 6, 6, 6, 6, 6, 7, 7, 7, 7, 7, 7, 7, 7, 7, 7, 7, 7, 7, 7, 7, 7, 7, 7, 7, 7, 7, 7, 7, 7, 7, 7, 7, 7, 7, 7, 7, 7, 7, 7, 7, 7, 7, 7, 7, 7, 7, 7, 7, 7, 7, 7, 7, 7, 7, 7, 7, 7, 7, 7, 7, 7, 7, 7, 7, 7, 7, 7, 7, 7, 8, 8, 8, 8, 8, 8, 8, 8, 8, 8, 8, 8, 8, 8, 8, 8, 8, 8, 8, 8, 8, 8, 8, 8, 8, 8, 8, 8, 8, 8, 8, 8, 8, 8, 8, 8, 8, 8, 8, 8, 8, 8, 8, 8, 8, 8, 8, 8, 8, 8, 8, 8, 8, 8, 8, 8, 8, 8, 8, 8, 8, 8, 8, 8, 8, 8, 8, 8, 8, 8, 8, 8, 8, 8, 8, 8, 8, 8, 8, 8, 8, 8, 8, 8, 8, 8, 8, 8, 8, 8, 8, 8, 8, 8, 8, 8, 8, 8, 8, 8, 8, 8, 8, 8, 8, 8, 8, 8, 8, 8, 8, 8, 8, 8, 8, 8, 8, 8, 8, 8, 8, 8, 8, 8, 8, 8, 8, 8]
theorem len8_eq : len8 = (List.range 256).map fun n => UInt8.ofNat (blen n) := by decide +kernel
theorem len8_at {x : Nat} (h : x < 256) : len8[x]? = some (UInt8.ofNat (blen x)) := by rw [len8_eq]; exact blen_table x h

set_option maxRecDepth 100000 in
set_option maxHeartbeats 1000000 in
theorem Len64_ok (B X : Nat) (w : World) (hI : Inv FDx B w) (hX : X < 18446744073709551616) : Ret Try.prog 101 [.int .u64 (X : Int)] w fun v w' => v = .int .i64 (blen X : Int) ∧ w' = w := by
 refine enter 25 [(0, .int .u64 (X : Int))] 2 Try.func101 rfl rfl rfl rfl rfl ?_; intro a hF
 have hS := St.refl hI
 refine W_sr rfl (fun K hK => ?_)
 refine sv hF (v_assign rfl) rfl ?_; clear hF a; intro a hF
 refine WL_nil (hK _ _ ?_)
 clear hK K
 refine W_cut (fun a w' => ∃ x n : Nat, Fr 25 [(0, .int .u64 (x : Int)), (2, .int .i64 (n : Int))] a ∧ w = w' ∧ x < 2 ^ 32 ∧ n ≤ 32 ∧ blen x + n = blen X) ?_ ?_
 ·
  skip
  refine W_sr rfl (fun K hK => ?_)
  refine sv hF (v_move rfl) rfl ?_; clear hF a; intro a hF
  refine sv hF (v_geq rfl rfl) rfl ?_; clear hF a; intro a hF
  refine WL_nil (hK _ _ ?_)
  clear hK K
  replace hF := hF.sub _ (c_ 4 rfl (c_ 2 rfl (c_ 0 rfl (n_))))
  refine W_if hF rfl (fun hc1 => ?_) (fun hc1 => ?_)
  ·
   skip
   try simp only [dcl] at hc1
   refine W_sr rfl (fun K hK => ?_)
   refine sv hF (v_move rfl) rfl ?_; clear hF a; intro a hF
   refine sv hF ((v_shrN (m := X) rfl rfl (by decide))) rfl ?_; clear hF a; intro a hF
   refine sv hF (v_assign rfl) rfl ?_; clear hF a; intro a hF
   refine WL_nil (hK _ _ ?_)
   clear hK K
   replace hF := hF.sub _ (c_ 0 rfl (c_ 2 rfl (n_)))
   refine W_reg rfl (fun K hK => ?_)
   refine sv hF (v_assign rfl) rfl ?_; clear hF a; intro a hF
   refine WL_nil (hK _ _ ?_)
   clear hK K
   exact ⟨X / 2 ^ 32, 32, hF.sub _ (c_ 0 rfl (c_ 2 rfl n_)), rfl, (Nat.div_lt_iff_lt_mul (by decide)).2 (by omega), by omega, blen_shift (by omega)⟩
  ·
   skip
   try simp only [dcl] at hc1
   refine W_skip ?_
   exact ⟨X, 0, hF.sub _ (c_ 0 rfl (c_ 2 rfl n_)), rfl, by omega, by omega, rfl⟩
 ·
  skip
  clear hF
  rintro a _ ⟨x, n, hF, rfl, hx, hn, he⟩
  refine W_cut (fun a w' => ∃ x n : Nat, Fr 25 [(0, .int .u64 (x : Int)), (2, .int .i64 (n : Int))] a ∧ w = w' ∧ x < 2 ^ 16 ∧ n ≤ 48 ∧ blen x + n = blen X) ?_ ?_
  ·
   skip
   refine W_sr rfl (fun K hK => ?_)
   refine sv hF (v_move rfl) rfl ?_; clear hF a; intro a hF
   refine sv hF (v_geq rfl rfl) rfl ?_; clear hF a; intro a hF
   refine WL_nil (hK _ _ ?_)
   clear hK K
   replace hF := hF.sub _ (c_ 8 rfl (c_ 0 rfl (c_ 2 rfl (n_))))
   refine W_if hF rfl (fun hc2 => ?_) (fun hc2 => ?_)
   ·
    skip
    try simp only [dcl] at hc2
    refine W_sr rfl (fun K hK => ?_)
    refine sv hF (v_move rfl) rfl ?_; clear hF a; intro a hF
    refine sv hF ((v_shrN (m := x) rfl rfl (by decide))) rfl ?_; clear hF a; intro a hF
    refine sv hF (v_assign rfl) rfl ?_; clear hF a; intro a hF
    refine WL_nil (hK _ _ ?_)
    clear hK K
    replace hF := hF.sub _ (c_ 0 rfl (c_ 2 rfl (n_)))
    refine W_reg rfl (fun K hK => ?_)
    refine sv hF (v_move rfl) rfl ?_; clear hF a; intro a hF
    refine sv hF (v_addI rfl rfl (by omega)) rfl ?_; clear hF a; intro a hF
    refine sv hF (v_assign rfl) rfl ?_; clear hF a; intro a hF
    refine WL_nil (hK _ _ ?_)
    clear hK K
    replace hF := hF.sub _ (c_ 2 rfl (c_ 0 rfl (n_)))
    exact ⟨x / 2 ^ 16, n + 16, hF.sub _ (c_ 0 rfl (c_ 2 rfl n_)), rfl, (Nat.div_lt_iff_lt_mul (by decide)).2 (by omega), by omega, by have := blen_shift (x := x) (k := 16) (by omega); omega⟩
   ·
    skip
    try simp only [dcl] at hc2
    refine W_skip ?_
    exact ⟨x, n, hF.sub _ (c_ 0 rfl (c_ 2 rfl n_)), rfl, by omega, by omega, he⟩
  ·
   skip
   clear hF
   rintro a _ ⟨x, n, hF, rfl, hx, hn, he⟩
   refine W_cut (fun a w' => ∃ x n : Nat, Fr 25 [(0, .int .u64 (x : Int)), (2, .int .i64 (n : Int))] a ∧ w = w' ∧ x < 2 ^ 8 ∧ n ≤ 56 ∧ blen x + n = blen X) ?_ ?_
   ·
    skip
    refine W_sr rfl (fun K hK => ?_)
    refine sv hF (v_move rfl) rfl ?_; clear hF a; intro a hF
    refine sv hF (v_geq rfl rfl) rfl ?_; clear hF a; intro a hF
    refine WL_nil (hK _ _ ?_)
    clear hK K
    replace hF := hF.sub _ (c_ 14 rfl (c_ 0 rfl (c_ 2 rfl (n_))))
    refine W_if hF rfl (fun hc3 => ?_) (fun hc3 => ?_)
    ·
     skip
     try simp only [dcl] at hc3
     refine W_sr rfl (fun K hK => ?_)
     refine sv hF (v_move rfl) rfl ?_; clear hF a; intro a hF
     refine sv hF ((v_shrN (m := x) rfl rfl (by decide))) rfl ?_; clear hF a; intro a hF
     refine sv hF (v_assign rfl) rfl ?_; clear hF a; intro a hF
     refine WL_nil (hK _ _ ?_)
     clear hK K
     replace hF := hF.sub _ (c_ 0 rfl (c_ 2 rfl (n_)))
     refine W_reg rfl (fun K hK => ?_)
     refine sv hF (v_move rfl) rfl ?_; clear hF a; intro a hF
     refine sv hF (v_addI rfl rfl (by omega)) rfl ?_; clear hF a; intro a hF
     refine sv hF (v_assign rfl) rfl ?_; clear hF a; intro a hF
     refine WL_nil (hK _ _ ?_)
     clear hK K
     replace hF := hF.sub _ (c_ 2 rfl (c_ 0 rfl (n_)))
     exact ⟨x / 2 ^ 8, n + 8, hF.sub _ (c_ 0 rfl (c_ 2 rfl n_)), rfl, (Nat.div_lt_iff_lt_mul (by decide)).2 (by omega), by omega, by have := blen_shift (x := x) (k := 8) (by omega); omega⟩
    ·
     skip
     try simp only [dcl] at hc3
     refine W_skip ?_
     exact ⟨x, n, hF.sub _ (c_ 0 rfl (c_ 2 rfl n_)), rfl, by omega, by omega, he⟩
   ·
    skip
    clear hF
    rintro a _ ⟨x, n, hF, rfl, hx, hn, he⟩
    have hbl := blen_le (n := x) (k := 8) (by omega)
    refine W_sr rfl (fun K hK => ?_)
    refine sv2 hF (v_move rfl) (v_move rfl) rfl rfl ?_; clear hF a; intro a hF
    refine sv hF (v_cv Try.underlying115 Try.underlying5 rfl (wrap_u8 _ (by omega))) rfl ?_; clear hF a; intro a hF
    refine sv hF (v_ixStr (b := UInt8.ofNat (blen x)) Try.underlying9 rfl rfl (by omega) (by rw [toNat_c]; exact len8_at (by omega))) rfl ?_; clear hF a; intro a hF
    refine sv hF ((v_cv Try.underlying5 Try.underlying3 rfl ((congrArg _ (blen_byte (by omega))).trans (wrap_i64 _ (by omega))))) rfl ?_; clear hF a; intro a hF
    refine sv hF (v_addI rfl rfl (by omega)) rfl ?_; clear hF a; intro a hF
    refine sv hF (v_assign rfl) rfl ?_; clear hF a; intro a hF
    refine WL_nil (hK _ _ ?_)
    clear hK K
    replace hF := hF.sub _ (c_ 2 rfl (n_))
    refine W_ret ?_
    refine ⟨_, _, hF, rfl, ?_⟩
    exact ⟨by rw [← he]; congr 1; omega, rfl⟩

set_option maxRecDepth 100000 in
set_option maxHeartbeats 1000000 in
theorem Len32_ok (B X : Nat) (w : World) (hI : Inv FDx B w) (hX : X < 4294967296) : Ret Try.prog 112 [.int .u32 (X : Int)] w fun v w' => v = .int .i64 (blen X : Int) ∧ w' = w := by
 refine enter 19 [(0, .int .u32 (X : Int))] 2 Try.func112 rfl rfl rfl rfl rfl ?_; intro a hF
 have hS := St.refl hI
 refine W_sr rfl (fun K hK => ?_)
 refine sv hF (v_assign rfl) rfl ?_; clear hF a; intro a hF
 refine WL_nil (hK _ _ ?_)
 clear hK K
 refine W_cut (fun a w' => ∃ x n : Nat, Fr 19 [(0, .int .u32 (x : Int)), (2, .int .i64 (n : Int))] a ∧ w = w' ∧ x < 2 ^ 16 ∧ n ≤ 48 ∧ blen x + n = blen X) ?_ ?_
 ·
  skip
  refine W_sr rfl (fun K hK => ?_)
  refine sv hF (v_move rfl) rfl ?_; clear hF a; intro a hF
  refine sv hF (v_geq rfl rfl) rfl ?_; clear hF a; intro a hF
  refine WL_nil (hK _ _ ?_)
  clear hK K
  replace hF := hF.sub _ (c_ 4 rfl (c_ 2 rfl (c_ 0 rfl (n_))))
  refine W_if hF rfl (fun hc1 => ?_) (fun hc1 => ?_)
  ·
   skip
   try simp only [dcl] at hc1
   refine W_sr rfl (fun K hK => ?_)
   refine sv hF (v_move rfl) rfl ?_; clear hF a; intro a hF
   refine sv hF ((v_shrN (m := X) rfl rfl (by decide))) rfl ?_; clear hF a; intro a hF
   refine sv hF (v_assign rfl) rfl ?_; clear hF a; intro a hF
   refine WL_nil (hK _ _ ?_)
   clear hK K
   replace hF := hF.sub _ (c_ 0 rfl (c_ 2 rfl (n_)))
   refine W_reg rfl (fun K hK => ?_)
   refine sv hF (v_assign rfl) rfl ?_; clear hF a; intro a hF
   refine WL_nil (hK _ _ ?_)
   clear hK K
   exact ⟨X / 2 ^ 16, 16, hF.sub _ (c_ 0 rfl (c_ 2 rfl n_)), rfl, (Nat.div_lt_iff_lt_mul (by decide)).2 (by omega), by omega, blen_shift (by omega)⟩
  ·
   skip
   try simp only [dcl] at hc1
   refine W_skip ?_
   exact ⟨X, 0, hF.sub _ (c_ 0 rfl (c_ 2 rfl n_)), rfl, by omega, by omega, rfl⟩
 ·
  skip
  clear hF
  rintro a _ ⟨x, n, hF, rfl, hx, hn, he⟩
  refine W_cut (fun a w' => ∃ x n : Nat, Fr 19 [(0, .int .u32 (x : Int)), (2, .int .i64 (n : Int))] a ∧ w = w' ∧ x < 2 ^ 8 ∧ n ≤ 56 ∧ blen x + n = blen X) ?_ ?_
  ·
   skip
   refine W_sr rfl (fun K hK => ?_)
   refine sv hF (v_move rfl) rfl ?_; clear hF a; intro a hF
   refine sv hF (v_geq rfl rfl) rfl ?_; clear hF a; intro a hF
   refine WL_nil (hK _ _ ?_)
   clear hK K
   replace hF := hF.sub _ (c_ 8 rfl (c_ 0 rfl (c_ 2 rfl (n_))))
   refine W_if hF rfl (fun hc2 => ?_) (fun hc2 => ?_)
   ·
    skip
    try simp only [dcl] at hc2
    refine W_sr rfl (fun K hK => ?_)
    refine sv hF (v_move rfl) rfl ?_; clear hF a; intro a hF
    refine sv hF ((v_shrN (m := x) rfl rfl (by decide))) rfl ?_; clear hF a; intro a hF
    refine sv hF (v_assign rfl) rfl ?_; clear hF a; intro a hF
    refine WL_nil (hK _ _ ?_)
    clear hK K
    replace hF := hF.sub _ (c_ 0 rfl (c_ 2 rfl (n_)))
    refine W_reg rfl (fun K hK => ?_)
    refine sv hF (v_move rfl) rfl ?_; clear hF a; intro a hF
    refine sv hF (v_addI rfl rfl (by omega)) rfl ?_; clear hF a; intro a hF
    refine sv hF (v_assign rfl) rfl ?_; clear hF a; intro a hF
    refine WL_nil (hK _ _ ?_)
    clear hK K
    replace hF := hF.sub _ (c_ 2 rfl (c_ 0 rfl (n_)))
    exact ⟨x / 2 ^ 8, n + 8, hF.sub _ (c_ 0 rfl (c_ 2 rfl n_)), rfl, (Nat.div_lt_iff_lt_mul (by decide)).2 (by omega), by omega, by have := blen_shift (x := x) (k := 8) (by omega); omega⟩
   ·
    skip
    try simp only [dcl] at hc2
    refine W_skip ?_
    exact ⟨x, n, hF.sub _ (c_ 0 rfl (c_ 2 rfl n_)), rfl, by omega, by omega, he⟩
  ·
   skip
   clear hF
   rintro a _ ⟨x, n, hF, rfl, hx, hn, he⟩
   have hbl := blen_le (n := x) (k := 8) (by omega)
   refine W_sr rfl (fun K hK => ?_)
   refine sv2 hF (v_move rfl) (v_move rfl) rfl rfl ?_; clear hF a; intro a hF
   refine sv hF (v_cv Try.underlying24 Try.underlying5 rfl (wrap_u8 _ (by omega))) rfl ?_; clear hF a; intro a hF
   refine sv hF (v_ixStr (b := UInt8.ofNat (blen x)) Try.underlying9 rfl rfl (by omega) (by rw [toNat_c]; exact len8_at (by omega))) rfl ?_; clear hF a; intro a hF
   refine sv hF ((v_cv Try.underlying5 Try.underlying3 rfl ((congrArg _ (blen_byte (by omega))).trans (wrap_i64 _ (by omega))))) rfl ?_; clear hF a; intro a hF
   refine sv hF (v_addI rfl rfl (by omega)) rfl ?_; clear hF a; intro a hF
   refine sv hF (v_assign rfl) rfl ?_; clear hF a; intro a hF
   refine WL_nil (hK _ _ ?_)
   clear hK K
   replace hF := hF.sub _ (c_ 2 rfl (n_))
   refine W_ret ?_
   refine ⟨_, _, hF, rfl, ?_⟩
   exact ⟨by rw [← he]; congr 1; omega, rfl⟩

set_option maxRecDepth 100000 in
set_option maxHeartbeats 1000000 in
theorem Deg_ok (B p : Nat) (w : World) (hI : Inv FDx B w) (hp : p < 18446744073709551616) : Ret Try.prog 76 [.int .u64 (p : Int)] w fun v w' => v = .int .i64 (Px.deg p) ∧ St FDx B w w'  := by
 refine enter 6 [(0, .int .u64 (p : Int))] 2 Try.func76 rfl rfl rfl rfl rfl ?_; intro a hF
 have hS := St.refl hI
 have hb := blen_le (n := p) (k := 64) (by omega)
 refine W_sr rfl (fun K hK => ?_)
 refine sv hF (v_assign rfl) rfl ?_; clear hF a; intro a hF
 refine WL_nil (hK _ _ ?_)
 clear hK K
 refine W_sr rfl (fun K hK => ?_)
 refine sv hF (v_move rfl) rfl ?_; clear hF a; intro a hF
 refine sc hF rfl rfl rfl en101 rfl (Len64_ok B p _ hI hp) ?_; clear hF a; intro v w' a hv hF
 obtain ⟨rfl, rfl⟩ := hv
 have hS' := St.refl hS.inv
 replace hS := hS.trans hS'
 clear hS'
 refine sv hF (v_subI rfl rfl (by omega)) rfl ?_; clear hF a; intro a hF
 refine sv hF (v_assign rfl) rfl ?_; clear hF a; intro a hF
 refine WL_nil (hK _ _ ?_)
 clear hK K
 replace hF := hF.sub _ (c_ 2 rfl (n_))
 refine W_ret ?_
 refine ⟨_, _, hF, rfl, ?_⟩
 exact ⟨congrArg _ (deg_blen p), hS⟩

set_option maxRecDepth 100000 in
set_option maxHeartbeats 1000000 in
theorem Mul1_ok (B : Nat) (i b c : Nat) (w : World) (hI : Inv FDx B w) (hi : i ≤ 32) (hb : b < 4294967296) (hc : w.cell? ⟨c, 0, none⟩ = some (.int .u32 (b : Int))) :
  Ret Try.prog 111 [.int .i64 (i : Int), .pointer (some ⟨c, 0, none⟩)] w fun v w' => v = .bool (b.testBit i) ∧ w' = w := by
 refine enter 9 [(0, .int .i64 (i : Int)), (1, .pointer (some ⟨c, 0, none⟩))] 3 Try.func111 rfl rfl rfl rfl rfl ?_; intro a hF
 have hS := St.refl hI
 refine W_sr rfl (fun K hK => ?_)
 refine sv hF (v_assign rfl) rfl ?_; clear hF a; intro a hF
 refine WL_nil (hK _ _ ?_)
 clear hK K
 refine W_sr rfl (fun K hK => ?_)
 refine sv hF (v_load sc24 rfl (by first | assumption | (rw [toNat_c]; assumption) | exact KC.c (by assumption) | (rw [toNat_c]; exact KC.c (by assumption)) | exact Box.at (by assumption))) rfl ?_; clear hF a; intro a hF
 refine sv hF (v_move rfl) rfl ?_; clear hF a; intro a hF
 refine sv hF (v_shrN rfl rfl (by omega)) rfl ?_; clear hF a; intro a hF
 refine sv hF (v_andN (n := 1) rfl rfl (fits_u32 (div_lt hb)) (fits_u32 (by decide))) rfl ?_; clear hF a; intro a hF
 refine sv hF (v_eql rfl rfl) rfl ?_; clear hF a; intro a hF
 refine sv hF (v_assign rfl) rfl ?_; clear hF a; intro a hF
 refine WL_nil (hK _ _ ?_)
 clear hK K
 replace hF := hF.sub _ (c_ 3 rfl (n_))
 refine W_ret ?_
 refine ⟨_, _, hF, rfl, ?_⟩
 exact ⟨congrArg _ (bit_says .u32 hi), rfl⟩

set_option maxRecDepth 100000 in
set_option maxHeartbeats 1000000 in
theorem Mul_ok (B A b : Nat) (w : World) (hI : Inv FDx B w) (ha : A < 4294967296) (hb : b < 4294967296) : Ret Try.prog 95 [.int .u32 (A : Int), .int .u32 (b : Int)] w fun v w' => v = .int .u64 (Px.mul A b : Int) ∧ St FDx B w w'  := by
 refine enter 25 [(0, .int .u32 (A : Int)), (1, .int .u32 (b : Int))] 4 Try.func95 rfl rfl rfl rfl rfl ?_; intro a hF
 have hS := St.refl hI
 refine W_sr rfl (fun K hK => ?_)
 refine s_box (D := FDx) (B := B) hF rfl (by decide) hI rfl (fun w' a hm hbox hsz hF => ?_)
 replace hS := hS.mb0 hm
 have hc : w'.cell? ⟨w.heap.size, 0, none⟩ = some (.int .u32 (b : Int)) := hbox.at 0 rfl
 clear hbox hm
 generalize w.heap.size = c at *
 have hbl := blen_le (n := b) (k := 32) (by omega)
 refine sv hF (v_assign rfl) rfl ?_; clear hF a; intro a hF
 refine WL_nil (hK _ _ ?_)
 clear hK K
 replace hF := hF.sub _ (c_ 4 rfl (c_ 3 rfl (c_ 0 rfl (n_))))
 refine W_sr rfl (fun K hK => ?_)
 refine sv hF (v_assign rfl) rfl ?_; clear hF a; intro a hF
 refine WL_nil (hK _ _ ?_)
 clear hK K
 refine W_sr rfl (fun K hK => ?_)
 refine sv hF (v_mkf rfl) rfl ?_; clear hF a; intro a hF
 refine sv hF (v_assign rfl) rfl ?_; clear hF a; intro a hF
 refine WL_nil (hK _ _ ?_)
 clear hK K
 replace hF := hF.sub _ (c_ 6 rfl (c_ 5 rfl (c_ 4 rfl (c_ 3 rfl (c_ 0 rfl (n_))))))
 refine W_seq ?_
 refine W_sr rfl (fun K hK => ?_)
 refine sv hF (v_load sc24 rfl (by first | assumption | (rw [toNat_c]; assumption) | exact KC.c (by assumption) | (rw [toNat_c]; exact KC.c (by assumption)) | exact Box.at (by assumption))) rfl ?_; clear hF a; intro a hF
 refine sc hF rfl rfl rfl en112 rfl (Len32_ok B b _ hS.inv hb) ?_; clear hF a; intro v w' a hv hF
 obtain ⟨rfl, rfl⟩ := hv
 have hS' := St.refl hS.inv
 replace hS := hS.trans hS'
 clear hS'
 refine sv hF (v_move rfl) rfl ?_; clear hF a; intro a hF
 refine WL_nil (hK _ _ ?_)
 clear hK K
 replace hF := hF.sub _ (c_ 11 rfl (c_ 10 rfl (c_ 6 rfl (c_ 5 rfl (c_ 4 rfl (c_ 0 rfl (n_)))))))
 refine W_block ?_
 refine W_loop (fun m a w1 => ∃ i q : Nat, Fr 25 [(0, .int .u32 (A : Int)), (5, .int .u64 (q : Int)), (6, .func (.func 111) ([] : List Value).toArray [.pointer (some ⟨c, 0, none⟩)].toArray), (10, .int .i64 (blen b : Int)), (11, .int .i64 (i : Int))] a ∧ w1 = w' ∧ i ≤ blen b ∧ q = Px.mul A (b % 2 ^ i) ∧ m + i = blen b) (blen b) ?_ ?_
 ·
  skip
  exact ⟨0, 0, hF.sub _ (c_ 0 rfl (c_ 5 rfl (c_ 6 rfl (c_ 10 rfl (c_ 11 rfl n_))))), rfl, by omega, (mul_none A b).symm, by omega⟩
 ·
  skip
  clear hF
  rintro m a _ ⟨i, q, hF, rfl, hi, hq, hm⟩
  refine W_sr rfl (fun K hK => ?_)
  refine sv hF (v_lss rfl rfl) rfl ?_; clear hF a; intro a hF
  refine WL_nil (hK _ _ ?_)
  clear hK K
  refine W_seq ?_
  refine W_if hF rfl (fun hc1 => ?_) (fun hc1 => ?_)
  ·
   skip
   try simp only [dcl] at hc1
   refine W_skip ?_
   refine W_seq ?_
   refine W_block ?_
   refine W_sr rfl (fun K hK => ?_)
   refine sv2 hF (v_move rfl) (v_assign rfl) rfl rfl ?_; clear hF a; intro a hF
   refine WL_nil (hK _ _ ?_)
   clear hK K
   replace hF := hF.sub _ (c_ 7 rfl (c_ 0 rfl (c_ 5 rfl (c_ 6 rfl (c_ 10 rfl (c_ 11 rfl (n_)))))))
   refine W_sr rfl (fun K hK => ?_)
   refine sv2 hF (v_move rfl) (v_move rfl) rfl rfl ?_; clear hF a; intro a hF
   refine sc hF rfl rfl rfl en111 rfl (Mul1_ok B i b c _ hS.inv (by omega) hb hc) ?_; clear hF a; intro v w' a hv hF
   obtain ⟨rfl, rfl⟩ := hv
   have hS' := St.refl hS.inv
   replace hS := hS.trans hS'
   clear hS'
   refine WL_nil (hK _ _ ?_)
   clear hK K
   replace hF := hF.sub _ (c_ 16 rfl (c_ 7 rfl (c_ 0 rfl (c_ 5 rfl (c_ 6 rfl (c_ 10 rfl (c_ 11 rfl (n_))))))))
   refine W_if hF rfl (fun hc2 => ?_) (fun hc2 => ?_)
   ·
    skip
    try simp only [dcl] at hc2
    have hst := mul_bit A b i
    rw [hc2, if_pos rfl, ← hq] at hst
    have h1 : A * 2 ^ i < 18446744073709551616 := Nat.lt_of_lt_of_le (shl_lt (m := 32) ha) ((Nat.pow_le_pow_right (n := 2) (by decide) (show 32 + i ≤ 64 by omega)))
    have h2 : b % 2 ^ i < 4294967296 := Nat.lt_of_le_of_lt (Nat.mod_le _ _) hb
    have h3 := mul_lt64 ha h2
    rw [← hq] at h3
    refine W_reg rfl (fun K hK => ?_)
    refine sv2 hF (v_move rfl) (v_move rfl) rfl rfl ?_; clear hF a; intro a hF
    refine sv hF (v_cv Try.underlying24 Try.underlying115 rfl (wrap_u64 _ (by omega))) rfl ?_; clear hF a; intro a hF
    refine sv hF (v_move rfl) rfl ?_; clear hF a; intro a hF
    refine sv hF ((v_shl rfl rfl (by omega)).as (congrArg _ (shl_says h1 (by omega)))) rfl ?_; clear hF a; intro a hF
    refine sv hF (v_xorN rfl rfl (fits_u64 h3) (fits_u64 (by rw [Nat.shiftLeft_eq]; exact h1))) rfl ?_; clear hF a; intro a hF
    refine sv hF (v_assign rfl) rfl ?_; clear hF a; intro a hF
    refine WL_nil (hK _ _ ?_)
    clear hK K
    replace hF := hF.sub _ (c_ 5 rfl (c_ 0 rfl (c_ 6 rfl (c_ 10 rfl (c_ 11 rfl (n_))))))
    refine W_reg rfl (fun K hK => ?_)
    refine sv hF (v_addI rfl rfl (by omega)) rfl ?_; clear hF a; intro a hF
    refine sv hF (v_move rfl) rfl ?_; clear hF a; intro a hF
    refine WL_nil (hK _ _ ?_)
    clear hK K
    exact ⟨m - 1, by omega, i + 1, _, hF.sub _ (c_ 0 rfl (c_ 5 rfl (c_ 6 rfl (c_ 10 rfl (c_ 11 rfl n_))))), rfl, by omega, hst.symm, by omega⟩
   ·
    skip
    try simp only [dcl] at hc2
    have hst := mul_bit A b i
    rw [hc2, if_neg (by decide), ← hq, Nat.xor_zero] at hst
    refine W_skip ?_
    refine W_reg rfl (fun K hK => ?_)
    refine sv hF (v_addI rfl rfl (by omega)) rfl ?_; clear hF a; intro a hF
    refine sv hF (v_move rfl) rfl ?_; clear hF a; intro a hF
    refine WL_nil (hK _ _ ?_)
    clear hK K
    replace hF := hF.sub _ (c_ 11 rfl (c_ 23 rfl (c_ 0 rfl (c_ 5 rfl (c_ 6 rfl (c_ 10 rfl (n_)))))))
    exact ⟨m - 1, by omega, i + 1, _, hF.sub _ (c_ 0 rfl (c_ 5 rfl (c_ 6 rfl (c_ 10 rfl (c_ 11 rfl n_))))), rfl, by omega, hst.symm, by omega⟩
  ·
   skip
   try simp only [dcl] at hc1
   refine W_exit rfl ?_
   refine W_sr rfl (fun K hK => ?_)
   refine sv2 hF (v_move rfl) (v_assign rfl) rfl rfl ?_; clear hF a; intro a hF
   refine WL_nil (hK _ _ ?_)
   clear hK K
   replace hF := hF.sub _ (c_ 4 rfl (c_ 24 rfl (c_ 0 rfl (c_ 5 rfl (c_ 6 rfl (c_ 10 rfl (c_ 11 rfl (n_))))))))
   refine W_ret ?_
   refine ⟨_, _, hF, rfl, ?_⟩
   refine ⟨?_, hS⟩
   obtain rfl : i = blen b := by omega
   rw [hq, mul_all]

set_option maxRecDepth 100000 in
set_option maxHeartbeats 1000000 in
theorem Mod_ok (B A p : Nat) (w : World) (hI : Inv FDx B w) (hA : A < 18446744073709551616) (hp : p < 4294967296) : Ret Try.prog 94 [.int .u64 (A : Int), .int .u32 (p : Int)] w fun v w' => v = .int .u32 (Px.mod A p : Int) ∧ St FDx B w w'  := by
 refine enter 34 [(0, .int .u64 (A : Int)), (1, .int .u32 (p : Int))] 4 Try.func94 rfl rfl rfl rfl rfl ?_; intro a hF
 have hS := St.refl hI
 refine W_sr rfl (fun K hK => ?_)
 refine sv hF (v_assign rfl) rfl ?_; clear hF a; intro a hF
 refine WL_nil (hK _ _ ?_)
 clear hK K
 refine W_seq ?_
 refine W_sr rfl (fun K hK => ?_)
 refine sv hF (v_move rfl) rfl ?_; clear hF a; intro a hF
 refine sv hF (v_eql rfl rfl) rfl ?_; clear hF a; intro a hF
 refine WL_nil (hK _ _ ?_)
 clear hK K
 replace hF := hF.sub _ (c_ 8 rfl (c_ 4 rfl (c_ 0 rfl (c_ 1 rfl (n_)))))
 refine W_if hF rfl (fun hc1 => ?_) (fun hc1 => ?_)
 ·
  skip
  try simp only [dcl] at hc1
  obtain rfl : p = 0 := by omega
  refine W_sr rfl (fun K hK => ?_)
  refine sv hF (v_assign rfl) rfl ?_; clear hF a; intro a hF
  refine WL_nil (hK _ _ ?_)
  clear hK K
  replace hF := hF.sub _ (c_ 4 rfl (c_ 0 rfl (c_ 1 rfl (n_))))
  refine W_ret ?_
  refine ⟨_, _, hF, rfl, ?_⟩
  exact ⟨by rw [Px.mod_zero]; rfl, hS⟩
 ·
  skip
  try simp only [dcl] at hc1
  have hp0 : p ≠ 0 := by omega
  have hl := log2_lt hp0 (k := 32) hp
  refine W_skip ?_
  refine W_sr rfl (fun K hK => ?_)
  refine sv hF (v_move rfl) rfl ?_; clear hF a; intro a hF
  refine sv hF (v_cv Try.underlying24 Try.underlying115 rfl (wrap_u64 _ (by omega))) rfl ?_; clear hF a; intro a hF
  refine sc hF rfl rfl rfl en76 rfl (Deg_ok B p _ hS.inv (by omega)) ?_; clear hF a; intro v w' a hv hF
  obtain ⟨rfl, hS'⟩ := hv
  replace hS := hS.trans hS'
  clear hS'
  refine sv hF (v_assign rfl) rfl ?_; clear hF a; intro a hF
  refine WL_nil (hK _ _ ?_)
  clear hK K
  replace hF := hF.sub _ (c_ 5 rfl (c_ 4 rfl (c_ 0 rfl (c_ 1 rfl (n_)))))
  refine W_seq ?_
  refine W_sr rfl (fun K hK => ?_)
  refine sv hF (v_move rfl) rfl ?_; clear hF a; intro a hF
  refine sc hF rfl rfl rfl en76 rfl (Deg_ok B A _ hS.inv hA) ?_; clear hF a; intro v w' a hv hF
  obtain ⟨rfl, hS'⟩ := hv
  replace hS := hS.trans hS'
  clear hS'
  refine sv hF (v_assign rfl) rfl ?_; clear hF a; intro a hF
  refine WL_nil (hK _ _ ?_)
  clear hK K
  replace hF := hF.sub _ (c_ 6 rfl (c_ 5 rfl (c_ 4 rfl (c_ 0 rfl (c_ 1 rfl (n_))))))
  refine W_block ?_
  refine W_loop (fun m a w1 => ∃ (i : Int) (q : Nat), Fr 34 [(0, .int .u64 (q : Int)), (1, .int .u32 (p : Int)), (5, .int .i64 (Px.deg p)), (6, .int .i64 i)] a ∧ St FDx B w w1 ∧ m = (i + 1).toNat ∧ -1 ≤ i ∧ ((Px.deg A < Px.deg p ∧ i = Px.deg A ∧ q = A) ∨ ModAt A p i q)) ((Px.deg A + 1).toNat) ?_ ?_
  ·
   skip
   refine ⟨_, _, hF.sub _ (c_ 0 rfl (c_ 1 rfl (c_ 5 rfl (c_ 6 rfl n_)))), hS, rfl, deg_ge _, ?_⟩
   by_cases h9 : Px.deg A < Px.deg p
   ·
    exact .inl ⟨h9, rfl, rfl⟩
   ·
    exact .inr (modAt_start hp0 hA (by rw [deg_pos hp0] at h9; omega))
  ·
   skip
   clear hF
   clear hS
   rintro m a w1 ⟨i, q, hF, hS, rfl, hi1, hm⟩
   refine W_seq ?_
   refine W_sr rfl (fun K hK => ?_)
   refine sv2 hF (v_move rfl) (v_move rfl) rfl rfl ?_; clear hF a; intro a hF
   refine sv hF (v_geq rfl rfl) rfl ?_; clear hF a; intro a hF
   refine WL_nil (hK _ _ ?_)
   clear hK K
   replace hF := hF.sub _ (c_ 16 rfl (c_ 0 rfl (c_ 1 rfl (c_ 5 rfl (c_ 6 rfl (n_))))))
   refine W_if hF rfl (fun hc2 => ?_) (fun hc2 => ?_)
   ·
    skip
    try simp only [dcl] at hc2
    replace hm : ModAt A p i q := by
     rcases hm with ⟨h1, h2, h3⟩ | h1
     ·
      omega
     ·
      exact h1
    rw [deg_pos hp0] at hc2 hF
    obtain ⟨j, rfl⟩ : ∃ j : Nat, i = (j : Int) := ⟨i.toNat, by omega⟩
    have hq : q < 2 ^ 64 := Nat.lt_of_lt_of_le hm.lt (Nat.pow_le_pow_right (by decide) (by have := hm.hi; omega))
    have hj := hm.hi
    have hst := (modAt_step hm hp0 (by omega)).1
    rw [toNat_c] at hst
    refine W_skip ?_
    refine W_seq ?_
    refine W_block ?_
    refine W_sr rfl (fun K hK => ?_)
    refine sv2 hF (v_move rfl) (v_move rfl) rfl rfl ?_; clear hF a; intro a hF
    refine sv hF (v_shrN rfl rfl (by omega)) rfl ?_; clear hF a; intro a hF
    refine sv hF (v_andN (n := 1) rfl rfl (fits_u64 (div_lt hq)) (fits_u64 (by decide))) rfl ?_; clear hF a; intro a hF
    refine sv hF (v_eql rfl rfl) rfl ?_; clear hF a; intro a hF
    refine WL_nil (hK _ _ ?_)
    clear hK K
    replace hF := hF.sub _ (c_ 23 rfl (c_ 0 rfl (c_ 1 rfl (c_ 5 rfl (c_ 6 rfl (n_))))))
    refine W_if hF rfl (fun hc3 => ?_) (fun hc3 => ?_)
    ·
     skip
     try simp only [dcl] at hc3
     replace hc3 := bit_T .u64 (show j ≤ 64 by omega) hc3
     rw [red_bit hc3] at hst
     have hsh := shl_lt64 hp0 hp hj (by omega)
     refine W_reg rfl (fun K hK => ?_)
     refine sv2 hF (v_move rfl) (v_move rfl) rfl rfl ?_; clear hF a; intro a hF
     refine sv hF (v_cv Try.underlying24 Try.underlying115 rfl (wrap_u64 _ (by omega))) rfl ?_; clear hF a; intro a hF
     refine sv2 hF (v_move rfl) (v_move rfl) rfl rfl ?_; clear hF a; intro a hF
     refine sv hF (v_subI rfl rfl (by omega)) rfl ?_; clear hF a; intro a hF
     refine sv hF ((v_shl rfl rfl (by omega)).as (congrArg _ (shl_says' (i := j - Nat.log2 p) (by omega) hsh (by omega)))) rfl ?_; clear hF a; intro a hF
     refine sv hF (v_xorN rfl rfl (fits_u64 hq) (fits_u64 (by rw [Nat.shiftLeft_eq]; exact hsh))) rfl ?_; clear hF a; intro a hF
     refine sv hF (v_assign rfl) rfl ?_; clear hF a; intro a hF
     refine WL_nil (hK _ _ ?_)
     clear hK K
     replace hF := hF.sub _ (c_ 0 rfl (c_ 1 rfl (c_ 5 rfl (c_ 6 rfl (n_)))))
     refine W_reg rfl (fun K hK => ?_)
     refine sv hF (v_move rfl) rfl ?_; clear hF a; intro a hF
     refine sv hF (v_subI rfl rfl (by omega)) rfl ?_; clear hF a; intro a hF
     refine sv hF (v_assign rfl) rfl ?_; clear hF a; intro a hF
     refine WL_nil (hK _ _ ?_)
     clear hK K
     rw [← deg_pos hp0] at hF
     exact ⟨_, by omega, _, _, hF.sub _ (c_ 0 rfl (c_ 1 rfl (c_ 5 rfl (c_ 6 rfl n_)))), hS, rfl, by omega, .inr hst⟩
    ·
     skip
     try simp only [dcl] at hc3
     replace hc3 := bit_F .u64 (show j ≤ 64 by omega) hc3
     rw [red_nobit hc3] at hst
     refine W_skip ?_
     refine W_reg rfl (fun K hK => ?_)
     refine sv hF (v_move rfl) rfl ?_; clear hF a; intro a hF
     refine sv hF (v_subI rfl rfl (by omega)) rfl ?_; clear hF a; intro a hF
     refine sv hF (v_assign rfl) rfl ?_; clear hF a; intro a hF
     refine WL_nil (hK _ _ ?_)
     clear hK K
     replace hF := hF.sub _ (c_ 6 rfl (c_ 18 rfl (c_ 17 rfl (c_ 0 rfl (c_ 1 rfl (c_ 5 rfl (n_)))))))
     rw [← deg_pos hp0] at hF
     exact ⟨_, by omega, _, _, hF.sub _ (c_ 0 rfl (c_ 1 rfl (c_ 5 rfl (c_ 6 rfl n_)))), hS, rfl, by omega, .inr hst⟩
   ·
    skip
    try simp only [dcl] at hc2
    have hfin : q = Px.mod A p := by
     rcases hm with ⟨h1, h2, h3⟩ | h1
     ·
      rw [h3]; exact (mod_low hp0 (by rw [← deg_pos hp0]; exact h1)).symm
     ·
      exact modAt_end h1 (by rw [← deg_pos hp0]; omega)
    have hlt := mod_lt32 A hp
    rw [← hfin] at hlt
    refine W_exit rfl ?_
    refine W_sr rfl (fun K hK => ?_)
    refine sv hF (v_move rfl) rfl ?_; clear hF a; intro a hF
    refine sv hF (v_cv Try.underlying115 Try.underlying24 rfl (wrap_u32 _ (by omega))) rfl ?_; clear hF a; intro a hF
    refine sv hF (v_assign rfl) rfl ?_; clear hF a; intro a hF
    refine WL_nil (hK _ _ ?_)
    clear hK K
    replace hF := hF.sub _ (c_ 4 rfl (c_ 33 rfl (c_ 32 rfl (c_ 0 rfl (c_ 1 rfl (c_ 5 rfl (c_ 6 rfl (n_))))))))
    refine W_ret ?_
    refine ⟨_, _, hF, rfl, ?_⟩
    exact ⟨by rw [hfin], hS⟩

set_option maxRecDepth 100000 in
set_option maxHeartbeats 1000000 in
theorem MulMod_ok (B x y p : Nat) (w : World) (hI : Inv FDx B w) (hx : x < 4294967296) (hy : y < 4294967296) (hp : p < 4294967296) : Ret Try.prog 65 [.int .u32 (x : Int), .int .u32 (y : Int), .int .u32 (p : Int)] w fun v w' => v = .int .u32 (Px.mulMod x y p : Int) ∧ St FDx B w w'  := by
 refine enter 12 [(0, .int .u32 (x : Int)), (1, .int .u32 (y : Int)), (2, .int .u32 (p : Int))] 6 Try.func65 rfl rfl rfl rfl rfl ?_; intro a hF
 have hS := St.refl hI
 refine W_sr rfl (fun K hK => ?_)
 refine sv hF (v_assign rfl) rfl ?_; clear hF a; intro a hF
 refine WL_nil (hK _ _ ?_)
 clear hK K
 refine W_sr rfl (fun K hK => ?_)
 refine sv2 hF (v_move rfl) (v_move rfl) rfl rfl ?_; clear hF a; intro a hF
 refine sc hF rfl rfl rfl en95 rfl (Mul_ok B x y _ hS.inv hx hy) ?_; clear hF a; intro v w' a hv hF
 obtain ⟨rfl, hS'⟩ := hv
 replace hS := hS.trans hS'
 clear hS'
 refine sv hF (v_move rfl) rfl ?_; clear hF a; intro a hF
 refine sc hF rfl rfl rfl en94 rfl (Mod_ok B (Px.mul x y) p _ hS.inv (mul_lt64 hx hy) hp) ?_; clear hF a; intro v w' a hv hF
 obtain ⟨rfl, hS'⟩ := hv
 replace hS := hS.trans hS'
 clear hS'
 refine sv hF (v_assign rfl) rfl ?_; clear hF a; intro a hF
 refine WL_nil (hK _ _ ?_)
 clear hK K
 replace hF := hF.sub _ (c_ 6 rfl (n_))
 refine W_ret ?_
 refine ⟨_, _, hF, rfl, ?_⟩
 exact ⟨rfl, hS⟩

set_option maxRecDepth 100000 in
set_option maxHeartbeats 1000000 in
theorem gcd_ok (B X Y : Nat) (w : World) (hI : Inv FDx B w) (hX : X < 4294967296) (hY : Y < 4294967296) : Ret Try.prog 116 [.int .u32 (X : Int), .int .u32 (Y : Int)] w fun v w' => v = .int .u32 (Gam.gcd X Y : Int) ∧ St FDx B w w'  := by
 refine enter 13 [(0, .int .u32 (X : Int)), (1, .int .u32 (Y : Int))] 4 Try.func116 rfl rfl rfl rfl rfl ?_; intro a hF
 have hS := St.refl hI
 refine W_sr rfl (fun K hK => ?_)
 refine sv hF (v_assign rfl) rfl ?_; clear hF a; intro a hF
 refine WL_nil (hK _ _ ?_)
 clear hK K
 refine W_seq ?_
 refine W_block ?_
 refine W_loop (fun m a w1 => ∃ x y : Nat, Fr 13 [(0, .int .u32 (x : Int)), (1, .int .u32 (y : Int))] a ∧ St FDx B w w1 ∧ Gam.gcd x y = Gam.gcd X Y ∧ x < 4294967296 ∧ y < 4294967296 ∧ m = y) (Y) ?_ ?_
 ·
  skip
  exact ⟨_, _, hF.sub _ (c_ 0 rfl (c_ 1 rfl n_)), hS, rfl, hX, hY, rfl⟩
 ·
  skip
  clear hF
  clear hS
  rintro m a w1 ⟨x, y, hF, hS, hg, hx, hy, rfl⟩
  refine W_seq ?_
  refine W_sr rfl (fun K hK => ?_)
  refine sv hF (v_move rfl) rfl ?_; clear hF a; intro a hF
  refine sv hF (v_neq rfl rfl) rfl ?_; clear hF a; intro a hF
  refine WL_nil (hK _ _ ?_)
  clear hK K
  replace hF := hF.sub _ (c_ 6 rfl (c_ 0 rfl (c_ 1 rfl (n_))))
  refine W_if hF rfl (fun hc1 => ?_) (fun hc1 => ?_)
  ·
   skip
   try simp only [dcl] at hc1
   have hy0 : m ≠ 0 := by omega
   rw [gcd_step x hy0] at hg
   have hml := mod_lt_self x hy0
   refine W_skip ?_
   refine W_block ?_
   refine W_reg rfl (fun K hK => ?_)
   refine sv2 hF (v_move rfl) (v_move rfl) rfl rfl ?_; clear hF a; intro a hF
   refine sv hF (v_cv Try.underlying24 Try.underlying115 rfl (wrap_u64 _ (by omega))) rfl ?_; clear hF a; intro a hF
   refine sv hF (v_move rfl) rfl ?_; clear hF a; intro a hF
   refine sc hF rfl rfl rfl en94 rfl (Mod_ok B x m _ hS.inv (by omega) hy) ?_; clear hF a; intro v w' a hv hF
   obtain ⟨rfl, hS'⟩ := hv
   replace hS := hS.trans hS'
   clear hS'
   refine sv2 hF (v_assign rfl) (v_assign rfl) rfl rfl ?_; clear hF a; intro a hF
   refine WL_nil (hK _ _ ?_)
   clear hK K
   replace hF := hF.sub _ (c_ 1 rfl (c_ 0 rfl (n_)))
   exact ⟨_, hml, _, _, hF.sub _ (c_ 0 rfl (c_ 1 rfl n_)), hS, hg, hy, by omega, rfl⟩
  ·
   skip
   try simp only [dcl] at hc1
   obtain rfl : m = 0 := by omega
   rw [gcd_zero] at hg
   refine W_exit rfl ?_
   refine W_sr rfl (fun K hK => ?_)
   refine sv2 hF (v_move rfl) (v_assign rfl) rfl rfl ?_; clear hF a; intro a hF
   refine WL_nil (hK _ _ ?_)
   clear hK K
   replace hF := hF.sub _ (c_ 4 rfl (c_ 12 rfl (c_ 0 rfl (c_ 1 rfl (n_)))))
   refine W_ret ?_
   refine ⟨_, _, hF, rfl, ?_⟩
   exact ⟨by rw [hg], hS⟩

set_option maxRecDepth 100000 in
set_option maxHeartbeats 1000000 in
theorem power_ok (B X n p : Nat) (w : World) (hI : Inv FDx B w) (hX : X < 4294967296) (hn : n < 9223372036854775808) (hp : p < 4294967296) : Ret Try.prog 104 [.int .u32 (X : Int), .int .i64 (n : Int), .int .u32 (p : Int)] w fun v w' => v = .int .u32 (powB X p (Px.mod 1 p) n : Int) ∧ St FDx B w w'  := by
 refine enter 26 [(0, .int .u32 (X : Int)), (1, .int .i64 (n : Int)), (2, .int .u32 (p : Int))] 6 Try.func104 rfl rfl rfl rfl rfl ?_; intro a hF
 have hS := St.refl hI
 refine W_sr rfl (fun K hK => ?_)
 refine sv hF (v_assign rfl) rfl ?_; clear hF a; intro a hF
 refine WL_nil (hK _ _ ?_)
 clear hK K
 refine W_sr rfl (fun K hK => ?_)
 refine sv hF (v_move rfl) rfl ?_; clear hF a; intro a hF
 refine sc hF rfl rfl rfl en94 rfl (Mod_ok B 1 p _ hS.inv (by decide) hp) ?_; clear hF a; intro v w' a hv hF
 obtain ⟨rfl, hS'⟩ := hv
 replace hS := hS.trans hS'
 clear hS'
 refine sv hF (v_assign rfl) rfl ?_; clear hF a; intro a hF
 refine WL_nil (hK _ _ ?_)
 clear hK K
 replace hF := hF.sub _ (c_ 7 rfl (c_ 6 rfl (c_ 0 rfl (c_ 1 rfl (c_ 2 rfl (n_))))))
 refine W_seq ?_
 refine W_block ?_
 refine W_loop (fun m a w1 => ∃ x o : Nat, Fr 26 [(0, .int .u32 (x : Int)), (1, .int .i64 (m : Int)), (2, .int .u32 (p : Int)), (7, .int .u32 (o : Int))] a ∧ St FDx B w w1 ∧ powB x p o m = powB X p (Px.mod 1 p) n ∧ x < 4294967296 ∧ o < 4294967296 ∧ m < 9223372036854775808) (n) ?_ ?_
 ·
  skip
  exact ⟨_, _, hF.sub _ (c_ 0 rfl (c_ 1 rfl (c_ 2 rfl (c_ 7 rfl n_)))), hS, rfl, hX, mod_lt32 1 hp, hn⟩
 ·
  skip
  clear hF
  clear hS
  rintro m a w1 ⟨x, o, hF, hS, hg, hx, ho, hm⟩
  refine W_seq ?_
  refine W_sr rfl (fun K hK => ?_)
  refine sv hF (v_move rfl) rfl ?_; clear hF a; intro a hF
  refine sv hF (v_gtr rfl rfl) rfl ?_; clear hF a; intro a hF
  refine WL_nil (hK _ _ ?_)
  clear hK K
  replace hF := hF.sub _ (c_ 11 rfl (c_ 0 rfl (c_ 1 rfl (c_ 2 rfl (c_ 7 rfl (n_))))))
  refine W_if hF rfl (fun hc1 => ?_) (fun hc1 => ?_)
  ·
   skip
   try simp only [dcl] at hc1
   refine W_skip ?_
   refine W_seq ?_
   refine W_block ?_
   refine W_seq ?_
   refine W_sr rfl (fun K hK => ?_)
   refine sv hF (v_move rfl) rfl ?_; clear hF a; intro a hF
   refine sv hF (v_andN (n := 1) rfl rfl (fits_i64 hm) (fits_i64 (by decide))) rfl ?_; clear hF a; intro a hF
   refine sv hF (v_eql rfl rfl) rfl ?_; clear hF a; intro a hF
   refine WL_nil (hK _ _ ?_)
   clear hK K
   replace hF := hF.sub _ (c_ 16 rfl (c_ 0 rfl (c_ 1 rfl (c_ 2 rfl (c_ 7 rfl (n_))))))
   refine W_if hF rfl (fun hc2 => ?_) (fun hc2 => ?_)
   ·
    skip
    try simp only [dcl] at hc2
    rw [Nat.and_one_is_mod] at hc2
    rw [powB_odd x p o (by omega)] at hg
    refine W_reg rfl (fun K hK => ?_)
    refine sv3 hF (v_move rfl) (v_move rfl) (v_move rfl) rfl rfl rfl ?_; clear hF a; intro a hF
    refine sc hF rfl rfl rfl en65 rfl (MulMod_ok B o x p _ hS.inv ho hx hp) ?_; clear hF a; intro v w' a hv hF
    obtain ⟨rfl, hS'⟩ := hv
    replace hS := hS.trans hS'
    clear hS'
    refine sv hF (v_assign rfl) rfl ?_; clear hF a; intro a hF
    refine WL_nil (hK _ _ ?_)
    clear hK K
    replace hF := hF.sub _ (c_ 7 rfl (c_ 0 rfl (c_ 1 rfl (c_ 2 rfl (n_)))))
    refine W_reg rfl (fun K hK => ?_)
    refine sv3 hF (v_move rfl) (v_move rfl) (v_move rfl) rfl rfl rfl ?_; clear hF a; intro a hF
    refine sc hF rfl rfl rfl en65 rfl (MulMod_ok B x x p _ hS.inv hx hx hp) ?_; clear hF a; intro v w' a hv hF
    obtain ⟨rfl, hS'⟩ := hv
    replace hS := hS.trans hS'
    clear hS'
    refine sv hF (v_assign rfl) rfl ?_; clear hF a; intro a hF
    refine WL_nil (hK _ _ ?_)
    clear hK K
    replace hF := hF.sub _ (c_ 0 rfl (c_ 7 rfl (c_ 1 rfl (c_ 2 rfl (n_)))))
    refine W_reg rfl (fun K hK => ?_)
    refine sv hF (v_move rfl) rfl ?_; clear hF a; intro a hF
    refine sv hF (v_shrN (m := m) rfl rfl (by decide)) rfl ?_; clear hF a; intro a hF
    refine sv hF (v_assign rfl) rfl ?_; clear hF a; intro a hF
    refine WL_nil (hK _ _ ?_)
    clear hK K
    exact ⟨m / 2, by omega, _, _, hF.sub _ (c_ 0 rfl (c_ 1 rfl (c_ 2 rfl (c_ 7 rfl n_)))), hS, hg, mod_lt32 _ hp, by first | exact mod_lt32 _ hp | exact ho, by omega⟩
   ·
    skip
    try simp only [dcl] at hc2
    rw [Nat.and_one_is_mod] at hc2
    rw [powB_even x p o (by omega) (by omega)] at hg
    refine W_skip ?_
    refine W_reg rfl (fun K hK => ?_)
    refine sv3 hF (v_move rfl) (v_move rfl) (v_move rfl) rfl rfl rfl ?_; clear hF a; intro a hF
    refine sc hF rfl rfl rfl en65 rfl (MulMod_ok B x x p _ hS.inv hx hx hp) ?_; clear hF a; intro v w' a hv hF
    obtain ⟨rfl, hS'⟩ := hv
    replace hS := hS.trans hS'
    clear hS'
    refine sv hF (v_assign rfl) rfl ?_; clear hF a; intro a hF
    refine WL_nil (hK _ _ ?_)
    clear hK K
    replace hF := hF.sub _ (c_ 0 rfl (c_ 1 rfl (c_ 2 rfl (c_ 7 rfl (n_)))))
    refine W_reg rfl (fun K hK => ?_)
    refine sv hF (v_move rfl) rfl ?_; clear hF a; intro a hF
    refine sv hF (v_shrN (m := m) rfl rfl (by decide)) rfl ?_; clear hF a; intro a hF
    refine sv hF (v_assign rfl) rfl ?_; clear hF a; intro a hF
    refine WL_nil (hK _ _ ?_)
    clear hK K
    exact ⟨m / 2, by omega, _, _, hF.sub _ (c_ 0 rfl (c_ 1 rfl (c_ 2 rfl (c_ 7 rfl n_)))), hS, hg, mod_lt32 _ hp, by first | exact mod_lt32 _ hp | exact ho, by omega⟩
  ·
   skip
   try simp only [dcl] at hc1
   obtain rfl : m = 0 := by omega
   rw [powB_zero] at hg
   refine W_exit rfl ?_
   refine W_sr rfl (fun K hK => ?_)
   refine sv2 hF (v_move rfl) (v_assign rfl) rfl rfl ?_; clear hF a; intro a hF
   refine WL_nil (hK _ _ ?_)
   clear hK K
   replace hF := hF.sub _ (c_ 6 rfl (c_ 25 rfl (c_ 0 rfl (c_ 1 rfl (c_ 2 rfl (c_ 7 rfl (n_)))))))
   refine W_ret ?_
   refine ⟨_, _, hF, rfl, ?_⟩
   exact ⟨by rw [hg], hS⟩

set_option maxRecDepth 100000 in
set_option maxHeartbeats 1000000 in
theorem frob_ok (B n p : Nat) (w : World) (hI : Inv FDx B w) (hn : n < 1000) (hp : p < 4294967296) : Ret Try.prog 115 [.int .i64 (n : Int), .int .u32 (p : Int)] w fun v w' => v = .int .u32 (frob p n (Px.mod 2 p) : Int) ∧ St FDx B w w'  := by
 refine enter 17 [(0, .int .i64 (n : Int)), (1, .int .u32 (p : Int))] 4 Try.func115 rfl rfl rfl rfl rfl ?_; intro a hF
 have hS := St.refl hI
 refine W_sr rfl (fun K hK => ?_)
 refine sv hF (v_assign rfl) rfl ?_; clear hF a; intro a hF
 refine WL_nil (hK _ _ ?_)
 clear hK K
 refine W_sr rfl (fun K hK => ?_)
 refine sv hF (v_move rfl) rfl ?_; clear hF a; intro a hF
 refine sc hF rfl rfl rfl en94 rfl (Mod_ok B 2 p _ hS.inv (by decide) hp) ?_; clear hF a; intro v w' a hv hF
 obtain ⟨rfl, hS'⟩ := hv
 replace hS := hS.trans hS'
 clear hS'
 refine sv hF (v_assign rfl) rfl ?_; clear hF a; intro a hF
 refine WL_nil (hK _ _ ?_)
 clear hK K
 replace hF := hF.sub _ (c_ 5 rfl (c_ 4 rfl (c_ 0 rfl (c_ 1 rfl (n_)))))
 refine W_seq ?_
 refine W_sr rfl (fun K hK => ?_)
 refine sv2 hF (v_move rfl) (v_move rfl) rfl rfl ?_; clear hF a; intro a hF
 refine WL_nil (hK _ _ ?_)
 clear hK K
 replace hF := hF.sub _ (c_ 9 rfl (c_ 8 rfl (c_ 5 rfl (c_ 4 rfl (c_ 1 rfl (n_))))))
 refine W_block ?_
 refine W_loop (fun m a w1 => ∃ j : Nat, Fr 17 [(1, .int .u32 (p : Int)), (5, .int .u32 (frob p j (Px.mod 2 p) : Int)), (8, .int .i64 (n : Int)), (9, .int .i64 (j : Int))] a ∧ St FDx B w w1 ∧ j ≤ n ∧ m = n - j) (n) ?_ ?_
 ·
  skip
  exact ⟨0, hF.sub _ (c_ 1 rfl (c_ 5 rfl (c_ 8 rfl (c_ 9 rfl n_)))), hS, by omega, rfl⟩
 ·
  skip
  clear hF
  clear hS
  rintro m a w1 ⟨j, hF, hS, hj, rfl⟩
  refine W_sr rfl (fun K hK => ?_)
  refine sv hF (v_lss rfl rfl) rfl ?_; clear hF a; intro a hF
  refine WL_nil (hK _ _ ?_)
  clear hK K
  refine W_seq ?_
  refine W_if hF rfl (fun hc1 => ?_) (fun hc1 => ?_)
  ·
   skip
   try simp only [dcl] at hc1
   refine W_skip ?_
   refine W_seq ?_
   refine W_block ?_
   refine W_reg rfl (fun K hK => ?_)
   refine sv3 hF (v_move rfl) (v_move rfl) (v_move rfl) rfl rfl rfl ?_; clear hF a; intro a hF
   refine sc hF rfl rfl rfl en65 rfl (MulMod_ok B _ _ p _ hS.inv (frob_lt32 j hp) (frob_lt32 j hp) hp) ?_; clear hF a; intro v w' a hv hF
   obtain ⟨rfl, hS'⟩ := hv
   replace hS := hS.trans hS'
   clear hS'
   refine sv hF (v_assign rfl) rfl ?_; clear hF a; intro a hF
   refine WL_nil (hK _ _ ?_)
   clear hK K
   replace hF := hF.sub _ (c_ 5 rfl (c_ 1 rfl (c_ 8 rfl (c_ 9 rfl (n_)))))
   refine W_reg rfl (fun K hK => ?_)
   refine sv hF (v_addI rfl rfl (by omega)) rfl ?_; clear hF a; intro a hF
   refine sv hF (v_move rfl) rfl ?_; clear hF a; intro a hF
   refine WL_nil (hK _ _ ?_)
   clear hK K
   rw [← frob_succ] at hF
   exact ⟨n - (j + 1), by omega, j + 1, hF.sub _ (c_ 1 rfl (c_ 5 rfl (c_ 8 rfl (c_ 9 rfl n_)))), hS, by omega, rfl⟩
  ·
   skip
   try simp only [dcl] at hc1
   obtain rfl : j = n := by omega
   refine W_exit rfl ?_
   refine W_sr rfl (fun K hK => ?_)
   refine sv2 hF (v_move rfl) (v_assign rfl) rfl rfl ?_; clear hF a; intro a hF
   refine WL_nil (hK _ _ ?_)
   clear hK K
   replace hF := hF.sub _ (c_ 4 rfl (c_ 16 rfl (c_ 1 rfl (c_ 5 rfl (c_ 8 rfl (c_ 9 rfl (n_)))))))
   refine W_ret ?_
   refine ⟨_, _, hF, rfl, ?_⟩
   exact ⟨rfl, hS⟩

set_option maxRecDepth 100000 in
set_option maxHeartbeats 1000000 in
theorem irr_ok (B p : Nat) (w : World) (hI : Inv FDx B w) (hp : p < 4294967296) : Ret Try.prog 102 [.int .u32 (p : Int)] w fun v w' => v = .bool (irr p) ∧ St FDx B w w'  := by
 refine enter 35 [(0, .int .u32 (p : Int))] 2 Try.func102 rfl rfl rfl rfl rfl ?_; intro a hF
 have hS := St.refl hI
 refine W_sr rfl (fun K hK => ?_)
 refine sv hF (v_assign rfl) rfl ?_; clear hF a; intro a hF
 refine WL_nil (hK _ _ ?_)
 clear hK K
 refine W_sr rfl (fun K hK => ?_)
 refine sv hF (v_move rfl) rfl ?_; clear hF a; intro a hF
 refine sv hF (v_cv Try.underlying24 Try.underlying115 rfl (wrap_u64 _ (by omega))) rfl ?_; clear hF a; intro a hF
 refine sc hF rfl rfl rfl en76 rfl (Deg_ok B p _ hS.inv (by omega)) ?_; clear hF a; intro v w' a hv hF
 obtain ⟨rfl, hS'⟩ := hv
 replace hS := hS.trans hS'
 clear hS'
 refine sv hF (v_assign rfl) rfl ?_; clear hF a; intro a hF
 refine WL_nil (hK _ _ ?_)
 clear hK K
 replace hF := hF.sub _ (c_ 3 rfl (c_ 2 rfl (c_ 0 rfl (n_))))
 refine W_seq ?_
 refine W_sr rfl (fun K hK => ?_)
 refine sv hF (v_move rfl) rfl ?_; clear hF a; intro a hF
 refine sb hF (v_lss rfl rfl) rfl ?_ ?_
 ·
  clear hF a; intro hc1 a hF
  try simp only [dcl] at hc1
  refine sv hF (v_move rfl) rfl ?_; clear hF a; intro a hF
  refine svn hF rfl rfl rfl ?_; clear hF a; intro a hF
  refine svn hF rfl rfl rfl ?_; clear hF a; intro a hF
  refine sv2 hF (v_pickT rfl rfl) (v_move rfl) rfl rfl ?_; clear hF a; intro a hF
  refine svn hF rfl rfl rfl ?_; clear hF a; intro a hF
  refine svn hF rfl rfl rfl ?_; clear hF a; intro a hF
  refine svn hF rfl rfl rfl ?_; clear hF a; intro a hF
  refine svn hF rfl rfl rfl ?_; clear hF a; intro a hF
  refine svn hF rfl rfl rfl ?_; clear hF a; intro a hF
  refine svn hF rfl rfl rfl ?_; clear hF a; intro a hF
  refine sv hF (v_pickT rfl rfl) rfl ?_; clear hF a; intro a hF
  refine WL_nil (hK _ _ ?_)
  clear hK K
  replace hF := hF.sub _ (c_ 21 rfl (c_ 3 rfl (c_ 2 rfl (c_ 0 rfl (n_)))))
  refine W_ifT hF rfl ?_
  refine W_sr rfl (fun K hK => ?_)
  refine sv hF (v_assign rfl) rfl ?_; clear hF a; intro a hF
  refine WL_nil (hK _ _ ?_)
  clear hK K
  replace hF := hF.sub _ (c_ 2 rfl (c_ 3 rfl (c_ 0 rfl (n_))))
  refine W_ret ?_
  refine ⟨_, _, hF, rfl, ?_⟩
  first
  | exact ⟨congrArg _ (irr_out (by rw [← deg_range]; omega)).symm, hS⟩
  | exact ⟨congrArg _ (irr_f2 (by assumption)).symm, hS⟩
  | exact ⟨congrArg _ hbad.symm, hS⟩
  | exact ⟨congrArg _ (irr_t hr hfr (fun j hj => hall j (by omega))).symm, hS⟩
 ·
  clear hF a; intro hc1 a hF
  try simp only [dcl] at hc1
  refine sv hF (v_move rfl) rfl ?_; clear hF a; intro a hF
  refine svg hF rfl ?_
  refine sv hF (v_move rfl) rfl ?_; clear hF a; intro a hF
  refine svg hF rfl ?_
  refine sb hF (v_gtr rfl rfl) rfl ?_ ?_
  ·
   clear hF a; intro hc2 a hF
   try simp only [dcl] at hc2
   refine sv2 hF (v_pickF rfl rfl) (v_move rfl) rfl rfl ?_; clear hF a; intro a hF
   refine svn hF rfl rfl rfl ?_; clear hF a; intro a hF
   refine svn hF rfl rfl rfl ?_; clear hF a; intro a hF
   refine svn hF rfl rfl rfl ?_; clear hF a; intro a hF
   refine svn hF rfl rfl rfl ?_; clear hF a; intro a hF
   refine svn hF rfl rfl rfl ?_; clear hF a; intro a hF
   refine svn hF rfl rfl rfl ?_; clear hF a; intro a hF
   refine sv hF (v_pickT rfl rfl) rfl ?_; clear hF a; intro a hF
   refine WL_nil (hK _ _ ?_)
   clear hK K
   replace hF := hF.sub _ (c_ 21 rfl (c_ 3 rfl (c_ 2 rfl (c_ 0 rfl (n_)))))
   refine W_ifT hF rfl ?_
   refine W_sr rfl (fun K hK => ?_)
   refine sv hF (v_assign rfl) rfl ?_; clear hF a; intro a hF
   refine WL_nil (hK _ _ ?_)
   clear hK K
   replace hF := hF.sub _ (c_ 2 rfl (c_ 3 rfl (c_ 0 rfl (n_))))
   refine W_ret ?_
   refine ⟨_, _, hF, rfl, ?_⟩
   first
   | exact ⟨congrArg _ (irr_out (by rw [← deg_range]; omega)).symm, hS⟩
   | exact ⟨congrArg _ (irr_f2 (by assumption)).symm, hS⟩
   | exact ⟨congrArg _ hbad.symm, hS⟩
   | exact ⟨congrArg _ (irr_t hr hfr (fun j hj => hall j (by omega))).symm, hS⟩
  ·
   clear hF a; intro hc2 a hF
   try simp only [dcl] at hc2
   refine sv2 hF (v_pickF rfl rfl) (v_move rfl) rfl rfl ?_; clear hF a; intro a hF
   refine svg hF rfl ?_
   have hr : 2 ≤ p ∧ p < 131072 := deg_range.1 ⟨by assumption, by assumption⟩
   have hp0 : p ≠ 0 := by omega
   have hl := log2_lt hp0 (k := 17) (by omega)
   rw [deg_pos hp0] at hF
   refine sv hF (v_move rfl) rfl ?_; clear hF a; intro a hF
   refine svg hF rfl ?_
   refine sv hF (v_move rfl) rfl ?_; clear hF a; intro a hF
   refine svg hF rfl ?_
   refine sc hF rfl rfl rfl en115 rfl (frob_ok B (Nat.log2 p) p _ hS.inv (by omega) hp) ?_; clear hF a; intro v w' a hv hF
   obtain ⟨rfl, hS'⟩ := hv
   replace hS := hS.trans hS'
   clear hS'
   refine svg hF rfl ?_
   refine sv hF (v_move rfl) rfl ?_; clear hF a; intro a hF
   refine svg hF rfl ?_
   refine sc hF rfl rfl rfl en94 rfl (Mod_ok B 2 p _ hS.inv (by decide) hp) ?_; clear hF a; intro v w' a hv hF
   obtain ⟨rfl, hS'⟩ := hv
   replace hS := hS.trans hS'
   clear hS'
   refine svg hF rfl ?_
   refine sv hF (v_neq rfl rfl) rfl ?_; clear hF a; intro a hF
   refine sv hF (v_pickF rfl rfl) rfl ?_; clear hF a; intro a hF
   refine WL_nil (hK _ _ ?_)
   clear hK K
   replace hF := hF.sub _ (c_ 21 rfl (c_ 3 rfl (c_ 2 rfl (c_ 0 rfl (n_)))))
   refine W_if hF rfl (fun hc3 => ?_) (fun hc3 => ?_)
   ·
    skip
    try simp only [dcl] at hc3
    refine W_sr rfl (fun K hK => ?_)
    refine sv hF (v_assign rfl) rfl ?_; clear hF a; intro a hF
    refine WL_nil (hK _ _ ?_)
    clear hK K
    replace hF := hF.sub _ (c_ 2 rfl (c_ 3 rfl (c_ 0 rfl (n_))))
    refine W_ret ?_
    refine ⟨_, _, hF, rfl, ?_⟩
    first
    | exact ⟨congrArg _ (irr_out (by rw [← deg_range]; omega)).symm, hS⟩
    | exact ⟨congrArg _ (irr_f2 (by assumption)).symm, hS⟩
    | exact ⟨congrArg _ hbad.symm, hS⟩
    | exact ⟨congrArg _ (irr_t hr hfr (fun j hj => hall j (by omega))).symm, hS⟩
   ·
    skip
    try simp only [dcl] at hc3
    refine W_skip ?_
    refine W_seq ?_
    have hfr : frob p (Nat.log2 p) (Px.mod 2 p) = Px.mod 2 p := by omega
    refine W_sr rfl (fun K hK => ?_)
    refine sv hF (v_assign rfl) rfl ?_; clear hF a; intro a hF
    refine WL_nil (hK _ _ ?_)
    clear hK K
    replace hF := hF.sub _ (c_ 4 rfl (c_ 3 rfl (c_ 2 rfl (c_ 0 rfl (n_)))))
    refine W_block ?_
    refine W_loop (fun m a w1 => ∃ i : Nat, Fr 35 [(0, .int .u32 (p : Int)), (3, .int .i64 (Nat.log2 p : Int)), (4, .int .i64 (i : Int))] a ∧ St FDx B w w1 ∧ 1 ≤ i ∧ i ≤ Nat.log2 p + 1 ∧ (∀ j, j + 1 < i → Gam.gcd p (frob p (j + 1) (Px.mod 2 p) ^^^ 2) = 1) ∧ m = Nat.log2 p + 1 - i) (Nat.log2 p) ?_ ?_
    ·
     skip
     exact ⟨1, hF.sub _ (c_ 0 rfl (c_ 3 rfl (c_ 4 rfl n_))), hS, by omega, by omega, fun j hj => by omega, by omega⟩
    ·
     skip
     clear hF
     clear hS
     rintro m a w1 ⟨i, hF, hS, hi1, hi2, hall, rfl⟩
     refine W_seq ?_
     refine W_sr rfl (fun K hK => ?_)
     refine sv2 hF (v_move rfl) (v_move rfl) rfl rfl ?_; clear hF a; intro a hF
     refine sv hF (v_quoI rfl rfl (by omega) (by omega) (by omega)) rfl ?_; clear hF a; intro a hF
     refine sv hF (v_leq rfl rfl) rfl ?_; clear hF a; intro a hF
     refine WL_nil (hK _ _ ?_)
     clear hK K
     replace hF := hF.sub _ (c_ 25 rfl (c_ 0 rfl (c_ 3 rfl (c_ 4 rfl (n_)))))
     refine W_if hF rfl (fun hc4 => ?_) (fun hc4 => ?_)
     ·
      skip
      try simp only [dcl] at hc4
      refine W_skip ?_
      refine W_seq ?_
      refine W_block ?_
      refine W_sr rfl (fun K hK => ?_)
      refine sv3 hF (v_move rfl) (v_move rfl) (v_move rfl) rfl rfl rfl ?_; clear hF a; intro a hF
      refine sc hF rfl rfl rfl en115 rfl (frob_ok B i p _ hS.inv (by omega) hp) ?_; clear hF a; intro v w' a hv hF
      obtain ⟨rfl, hS'⟩ := hv
      replace hS := hS.trans hS'
      clear hS'
      refine sv hF (v_xorN (n := 2) rfl rfl (fits_u32 (frob_lt32 i hp)) (fits_u32 (by decide))) rfl ?_; clear hF a; intro a hF
      refine sc hF rfl rfl rfl en116 rfl (gcd_ok B p _ _ hS.inv hp (Px.xor_lt (k := 32) (frob_lt32 i hp) (by decide))) ?_; clear hF a; intro v w' a hv hF
      obtain ⟨rfl, hS'⟩ := hv
      replace hS := hS.trans hS'
      clear hS'
      refine sv hF (v_neq rfl rfl) rfl ?_; clear hF a; intro a hF
      refine WL_nil (hK _ _ ?_)
      clear hK K
      replace hF := hF.sub _ (c_ 34 rfl (c_ 0 rfl (c_ 3 rfl (c_ 4 rfl (n_)))))
      refine W_if hF rfl (fun hc5 => ?_) (fun hc5 => ?_)
      ·
       skip
       try simp only [dcl] at hc5
       obtain ⟨i, rfl⟩ : ∃ k, i = k + 1 := ⟨i - 1, by omega⟩
       have hbad := irr_f3 i (by omega) (show Gam.gcd p (frob p (i + 1) (Px.mod 2 p) ^^^ 2) ≠ 1 by omega)
       refine W_sr rfl (fun K hK => ?_)
       refine sv hF (v_assign rfl) rfl ?_; clear hF a; intro a hF
       refine WL_nil (hK _ _ ?_)
       clear hK K
       replace hF := hF.sub _ (c_ 2 rfl (c_ 0 rfl (c_ 3 rfl (c_ 4 rfl (n_)))))
       refine W_ret ?_
       refine ⟨_, _, hF, rfl, ?_⟩
       first
       | exact ⟨congrArg _ (irr_out (by rw [← deg_range]; omega)).symm, hS⟩
       | exact ⟨congrArg _ (irr_f2 (by assumption)).symm, hS⟩
       | exact ⟨congrArg _ hbad.symm, hS⟩
       | exact ⟨congrArg _ (irr_t hr hfr (fun j hj => hall j (by omega))).symm, hS⟩
      ·
       skip
       try simp only [dcl] at hc5
       have hall2 : ∀ j, j + 1 < i + 1 → Gam.gcd p (frob p (j + 1) (Px.mod 2 p) ^^^ 2) = 1 := fun j hj => by
        by_cases h9 : j + 1 < i
        ·
         exact hall j h9
        ·
         obtain rfl : j + 1 = i := by omega
         omega
       refine W_skip ?_
       refine W_reg rfl (fun K hK => ?_)
       refine sv hF (v_move rfl) rfl ?_; clear hF a; intro a hF
       refine sv hF (v_addI rfl rfl (by omega)) rfl ?_; clear hF a; intro a hF
       refine sv hF (v_assign rfl) rfl ?_; clear hF a; intro a hF
       refine WL_nil (hK _ _ ?_)
       clear hK K
       replace hF := hF.sub _ (c_ 4 rfl (c_ 27 rfl (c_ 26 rfl (c_ 0 rfl (c_ 3 rfl (n_))))))
       exact ⟨Nat.log2 p + 1 - (i + 1), by omega, i + 1, hF.sub _ (c_ 0 rfl (c_ 3 rfl (c_ 4 rfl n_))), hS, by omega, by omega, hall2, rfl⟩
     ·
      skip
      try simp only [dcl] at hc4
      refine W_exit rfl ?_
      refine W_sr rfl (fun K hK => ?_)
      refine sv hF (v_assign rfl) rfl ?_; clear hF a; intro a hF
      refine WL_nil (hK _ _ ?_)
      clear hK K
      replace hF := hF.sub _ (c_ 2 rfl (c_ 0 rfl (c_ 3 rfl (c_ 4 rfl (n_)))))
      refine W_ret ?_
      refine ⟨_, _, hF, rfl, ?_⟩
      first
      | exact ⟨congrArg _ (irr_out (by rw [← deg_range]; omega)).symm, hS⟩
      | exact ⟨congrArg _ (irr_f2 (by assumption)).symm, hS⟩
      | exact ⟨congrArg _ hbad.symm, hS⟩
      | exact ⟨congrArg _ (irr_t hr hfr (fun j hj => hall j (by omega))).symm, hS⟩

set_option maxRecDepth 100000 in
set_option maxHeartbeats 1000000 in
theorem divs_ok (B M : Nat) (w : World) (hI : Inv FDx B w) (hM : 1 ≤ M) (hM2 : M < 65536) : Ret Try.prog 103 [.int .i64 (M : Int)] w fun v w' => ∃ l, Row FDx B w'.heap.size w' v (ints l) ∧ ((∀ r ∈ l, 2 ≤ r ∧ r ∣ M) ∧ (∀ m, 2 ≤ m → m ∣ M → ∃ r ∈ l, r ∣ m) ∧ (∀ r ∈ l, r < 65536) ∧ l.length ≤ 65536) ∧ St FDx B w w'  := by
 refine enter 25 [(0, .int .i64 (M : Int))] 2 Try.func103 rfl rfl rfl rfl rfl ?_; intro a hF
 have hS := St.refl hI
 refine W_sr rfl (fun K hK => ?_)
 refine sv hF (v_assign rfl) rfl ?_; clear hF a; intro a hF
 refine WL_nil (hK _ _ ?_)
 clear hK K
 refine W_sr rfl (fun K hK => ?_)
 refine sv hF (v_assign rfl) rfl ?_; clear hF a; intro a hF
 refine WL_nil (hK _ _ ?_)
 clear hK K
 refine W_seq ?_
 refine W_sr rfl (fun K hK => ?_)
 refine sv hF (v_assign rfl) rfl ?_; clear hF a; intro a hF
 refine WL_nil (hK _ _ ?_)
 clear hK K
 refine W_block ?_
 refine W_loop (fun m a w1 => ∃ n q l v b, Fr 25 [(0, .int .i64 ((n : Nat) : Int)), (3, v), (4, .int .i64 ((q : Nat) : Int))] a ∧ St FDx B w w1 ∧ Gam.Own FDx B w.heap.size w1 3 v b (ints l) ∧ DivAt M n q l ∧ q ≤ M + 2 ∧ m = M + 1 - q + n) (M + 1 - 2 + M) ?_ ?_
 ·
  skip
  exact ⟨_, 2, [], _, _, hF.sub _ (c_ 0 rfl (c_ 3 rfl (c_ 4 rfl n_))), hS, Gam.Own.nil _ _ _ _ _, divAt_start hM, by omega, rfl⟩
 ·
  skip
  clear hF
  clear hS
  rintro m a w1 ⟨n, q, l, v, b, hF, hS, ho, hd, hqM, rfl⟩
  have hq2 := hd.two
  have hnM := hd.le
  have hn1 := hd.pos
  refine W_seq ?_
  refine W_sr rfl (fun K hK => ?_)
  refine sv hF (v_move rfl) rfl ?_; clear hF a; intro a hF
  refine sv hF (v_gtr rfl rfl) rfl ?_; clear hF a; intro a hF
  refine WL_nil (hK _ _ ?_)
  clear hK K
  replace hF := hF.sub _ (c_ 6 rfl (c_ 0 rfl (c_ 3 rfl (c_ 4 rfl (n_)))))
  refine W_if hF rfl (fun hc1 => ?_) (fun hc1 => ?_)
  ·
   skip
   try simp only [dcl] at hc1
   have hqn := divAt_le hd (by omega)
   have hlen := hd.len
   refine W_skip ?_
   refine W_seq ?_
   refine W_block ?_
   refine W_cut (fun a w2 => ∃ l2 v b, Fr 25 [(0, .int .i64 (n : Int)), (3, v), (4, .int .i64 (q : Int))] a ∧ St FDx B w w2 ∧ Gam.Own FDx B w.heap.size w2 3 v b (ints l2) ∧ DivOut M n q l2) ?_ ?_
   ·
    skip
    refine W_sr rfl (fun K hK => ?_)
    refine sv2 hF (v_move rfl) (v_move rfl) rfl rfl ?_; clear hF a; intro a hF
    refine sv hF (v_remI rfl rfl (by omega) (by omega)) rfl ?_; clear hF a; intro a hF
    refine sv hF (v_eql rfl rfl) rfl ?_; clear hF a; intro a hF
    refine WL_nil (hK _ _ ?_)
    clear hK K
    replace hF := hF.sub _ (c_ 12 rfl (c_ 0 rfl (c_ 3 rfl (c_ 4 rfl (n_)))))
    refine W_if hF rfl (fun hc2 => ?_) (fun hc2 => ?_)
    ·
     skip
     try simp only [dcl] at hc2
     refine W_reg rfl (fun K hK => ?_)
     refine sv2 hF (v_move rfl) (v_move rfl) rfl rfl ?_; clear hF a; intro a hF
     refine s_bs (D := FDx) (B := B) hF sl37 rfl rfl (by decide) (by simp [Value.cells]) (by decide) hS.inv rfl ?_; clear hF a; intro w' a hm hI' hb hF
     replace ho := ho.mb hm (fun _ _ => by simp)
     replace hS := hS.mb0 hm
     clear hm hI'
     refine s_app (D := FDx) (B := B) hF rfl sl37 rfl rfl ho (hb.row (by decide)) (by simp [Value.oneCell']) (by simp; omega) (by simp [maxLen]; omega) (hS.ext.size) (by decide) hS.inv rfl ?_; clear hF a; intro v' b' w' a ho' hm hI' hb' hF
     replace hS := hS.mb hm (fun k h => Nat.le_trans (Nat.le_refl _) (ho.lt k h).1)
     replace ho := ho'
     clear hm hI' ho' hb
     refine sv hF (v_assign rfl) rfl ?_; clear hF a; intro a hF
     refine WL_nil (hK _ _ ?_)
     clear hK K
     replace hF := hF.sub _ (c_ 3 rfl (c_ 0 rfl (c_ 4 rfl (n_))))
     exact ⟨_, _, _, hF.sub _ (c_ 0 rfl (c_ 3 rfl (c_ 4 rfl n_))), hS, by rw [ints_snoc]; exact ho, divAt_found hd (mod_dvd hc2)⟩
    ·
     skip
     try simp only [dcl] at hc2
     refine W_skip ?_
     exact ⟨_, _, _, hF.sub _ (c_ 0 rfl (c_ 3 rfl (c_ 4 rfl n_))), hS, ho, divAt_none hd (mod_ndvd hc2)⟩
   ·
    skip
    clear hF
    clear hS ho
    rintro a w2 ⟨l2, v, b, hF, hS, ho, hd2⟩
    refine W_block ?_
    refine W_loop (fun m a w3 => Fr 25 [(0, .int .i64 (m : Int)), (3, v), (4, .int .i64 (q : Int))] a ∧ w2 = w3 ∧ m ≤ n ∧ DivOut M m q l2) (n) ?_ ?_
    ·
     skip
     exact ⟨hF, rfl, Nat.le_refl _, hd2⟩
    ·
     skip
     clear hF
     rintro m a _ ⟨hF, rfl, hmn, hd2⟩
     refine W_seq ?_
     refine W_sr rfl (fun K hK => ?_)
     refine sv2 hF (v_move rfl) (v_move rfl) rfl rfl ?_; clear hF a; intro a hF
     refine sv hF (v_remI rfl rfl (by omega) (by omega)) rfl ?_; clear hF a; intro a hF
     refine sv hF (v_eql rfl rfl) rfl ?_; clear hF a; intro a hF
     refine WL_nil (hK _ _ ?_)
     clear hK K
     replace hF := hF.sub _ (c_ 20 rfl (c_ 0 rfl (c_ 3 rfl (c_ 4 rfl (n_)))))
     refine W_if hF rfl (fun hc3 => ?_) (fun hc3 => ?_)
     ·
      skip
      try simp only [dcl] at hc3
      have hst := divOut_step hd2 (mod_dvd hc3)
      refine W_skip ?_
      refine W_block ?_
      refine W_reg rfl (fun K hK => ?_)
      refine sv2 hF (v_move rfl) (v_move rfl) rfl rfl ?_; clear hF a; intro a hF
      refine sv hF (v_quoN (m := m) (n := q) rfl rfl (by omega) (fits_i64 (by omega))) rfl ?_; clear hF a; intro a hF
      refine sv hF (v_assign rfl) rfl ?_; clear hF a; intro a hF
      refine WL_nil (hK _ _ ?_)
      clear hK K
      replace hF := hF.sub _ (c_ 0 rfl (c_ 3 rfl (c_ 4 rfl (n_))))
      exact ⟨_, hst.2, hF.sub _ (c_ 0 rfl (c_ 3 rfl (c_ 4 rfl n_))), rfl, by omega, hst.1⟩
     ·
      skip
      try simp only [dcl] at hc3
      have hd3 := divOut_end hd2 (mod_ndvd hc3)
      refine W_exit rfl ?_
      refine W_reg rfl (fun K hK => ?_)
      refine sv hF (v_move rfl) rfl ?_; clear hF a; intro a hF
      refine sv hF (v_addI rfl rfl (by omega)) rfl ?_; clear hF a; intro a hF
      refine sv hF (v_assign rfl) rfl ?_; clear hF a; intro a hF
      refine WL_nil (hK _ _ ?_)
      clear hK K
      replace hF := hF.sub _ (c_ 4 rfl (c_ 8 rfl (c_ 7 rfl (c_ 0 rfl (c_ 3 rfl (n_))))))
      exact ⟨_, by omega, m, q + 1, _, _, _, hF.sub _ (c_ 0 rfl (c_ 3 rfl (c_ 4 rfl n_))), hS, ho, hd3, by omega, rfl⟩
  ·
   skip
   try simp only [dcl] at hc1
   refine W_exit rfl ?_
   refine W_sr rfl (fun K hK => ?_)
   refine sv2 hF (v_move rfl) (v_assign rfl) rfl rfl ?_; clear hF a; intro a hF
   refine WL_nil (hK _ _ ?_)
   clear hK K
   replace hF := hF.sub _ (c_ 2 rfl (c_ 24 rfl (c_ 0 rfl (c_ 3 rfl (c_ 4 rfl (n_))))))
   refine W_ret ?_
   refine ⟨_, _, hF, rfl, ?_⟩
   exact ⟨l, ho.row (by decide), ⟨hd.mem, divAt_end hd (by omega), fun r hr => Nat.lt_of_le_of_lt (Nat.le_of_dvd (by omega) (hd.mem r hr).2) hM2, by have := hd.len; omega⟩, hS⟩

set_option maxRecDepth 100000 in
set_option maxHeartbeats 1000000 in
theorem prim_ok (B p : Nat) (w : World) (hI : Inv FDx B w) (hp : p < 4294967296) : Ret Try.prog 77 [.int .u32 (p : Int)] w fun v w' => v = .bool (prim p) ∧ St FDx B w w'  := by
 refine enter 33 [(0, .int .u32 (p : Int))] 2 Try.func77 rfl rfl rfl rfl rfl ?_; intro a hF
 have hS := St.refl hI
 refine W_sr rfl (fun K hK => ?_)
 refine sv hF (v_assign rfl) rfl ?_; clear hF a; intro a hF
 refine WL_nil (hK _ _ ?_)
 clear hK K
 refine W_seq ?_
 refine W_sr rfl (fun K hK => ?_)
 refine sv hF (v_move rfl) rfl ?_; clear hF a; intro a hF
 refine sc hF rfl rfl rfl en102 rfl (irr_ok B p _ hS.inv hp) ?_; clear hF a; intro v w' a hv hF
 obtain ⟨rfl, hS'⟩ := hv
 replace hS := hS.trans hS'
 clear hS'
 refine sb hF (v_not rfl) rfl ?_ ?_
 ·
  clear hF a; intro hc1 a hF
  try simp only [dcl] at hc1
  refine sv hF (v_move rfl) rfl ?_; clear hF a; intro a hF
  refine svn hF rfl rfl rfl ?_; clear hF a; intro a hF
  refine svn hF rfl rfl rfl ?_; clear hF a; intro a hF
  refine svn hF rfl rfl rfl ?_; clear hF a; intro a hF
  refine sv hF (v_pickT rfl rfl) rfl ?_; clear hF a; intro a hF
  refine WL_nil (hK _ _ ?_)
  clear hK K
  replace hF := hF.sub _ (c_ 13 rfl (c_ 2 rfl (c_ 0 rfl (n_))))
  refine W_ifT hF rfl ?_
  refine W_sr rfl (fun K hK => ?_)
  refine sv hF (v_assign rfl) rfl ?_; clear hF a; intro a hF
  refine WL_nil (hK _ _ ?_)
  clear hK K
  replace hF := hF.sub _ (c_ 2 rfl (c_ 0 rfl (n_)))
  refine W_ret ?_
  refine ⟨_, _, hF, rfl, ?_⟩
  first
  | exact ⟨congrArg _ (prim_f1 (by assumption)).symm, hS⟩
  | exact ⟨congrArg _ (prim_f2 (p := p) (by omega)).symm, hS⟩
  | exact ⟨congrArg _ hbad.symm, hS⟩
  | exact ⟨congrArg _ hgood.symm, hS⟩
 ·
  clear hF a; intro hc1 a hF
  try simp only [dcl] at hc1
  refine sv hF (v_move rfl) rfl ?_; clear hF a; intro a hF
  refine svg hF rfl ?_
  refine sv hF (v_move rfl) rfl ?_; clear hF a; intro a hF
  refine svg hF rfl ?_
  refine sc hF rfl rfl rfl en94 rfl (Mod_ok B 2 p _ hS.inv (by decide) hp) ?_; clear hF a; intro v w' a hv hF
  obtain ⟨rfl, hS'⟩ := hv
  replace hS := hS.trans hS'
  clear hS'
  refine svg hF rfl ?_
  refine sv hF (v_eql rfl rfl) rfl ?_; clear hF a; intro a hF
  refine sv hF (v_pickF rfl rfl) rfl ?_; clear hF a; intro a hF
  refine WL_nil (hK _ _ ?_)
  clear hK K
  replace hF := hF.sub _ (c_ 13 rfl (c_ 2 rfl (c_ 0 rfl (n_))))
  refine W_if hF rfl (fun hc2 => ?_) (fun hc2 => ?_)
  ·
   skip
   try simp only [dcl] at hc2
   refine W_sr rfl (fun K hK => ?_)
   refine sv hF (v_assign rfl) rfl ?_; clear hF a; intro a hF
   refine WL_nil (hK _ _ ?_)
   clear hK K
   replace hF := hF.sub _ (c_ 2 rfl (c_ 0 rfl (n_)))
   refine W_ret ?_
   refine ⟨_, _, hF, rfl, ?_⟩
   first
   | exact ⟨congrArg _ (prim_f1 (by assumption)).symm, hS⟩
   | exact ⟨congrArg _ (prim_f2 (p := p) (by omega)).symm, hS⟩
   | exact ⟨congrArg _ hbad.symm, hS⟩
   | exact ⟨congrArg _ hgood.symm, hS⟩
  ·
   skip
   try simp only [dcl] at hc2
   refine W_skip ?_
   have hr := irr_range hc1
   have hp0 : p ≠ 0 := by omega
   have hl := log2_lt hp0 (k := 17) (by omega)
   have hl1 := log2_pos hr.1
   have hpw : 2 ^ Nat.log2 p ≤ 65536 := Nat.pow_le_pow_right (n := 2) (by decide) (show Nat.log2 p ≤ 16 by omega)
   have hpw1 : 2 ≤ 2 ^ Nat.log2 p := Nat.pow_le_pow_right (n := 2) (by decide) hl1
   refine W_sr rfl (fun K hK => ?_)
   refine sv hF (v_move rfl) rfl ?_; clear hF a; intro a hF
   refine sv hF (v_cv Try.underlying24 Try.underlying115 rfl (wrap_u64 _ (by omega))) rfl ?_; clear hF a; intro a hF
   refine sc hF rfl rfl rfl en76 rfl (Deg_ok B p _ hS.inv (by omega)) ?_; clear hF a; intro v w' a hv hF
   obtain ⟨rfl, hS'⟩ := hv
   replace hS := hS.trans hS'
   clear hS'
   rw [deg_pos hp0] at hF
   refine sv hF ((v_shl rfl rfl (by omega)).as (congrArg _ (shl_one (by omega)))) rfl ?_; clear hF a; intro a hF
   refine sv hF (v_subN (n := 1) rfl rfl (by omega) (by omega)) rfl ?_; clear hF a; intro a hF
   refine sv hF (v_assign rfl) rfl ?_; clear hF a; intro a hF
   refine WL_nil (hK _ _ ?_)
   clear hK K
   replace hF := hF.sub _ (c_ 3 rfl (c_ 2 rfl (c_ 0 rfl (n_))))
   generalize hN : 2 ^ Nat.log2 p - 1 = N at *
   have hN1 : 1 ≤ N := by omega
   have hN2 : N < 65536 := by omega
   refine W_seq ?_
   refine W_sr rfl (fun K hK => ?_)
   refine sv hF (v_move rfl) rfl ?_; clear hF a; intro a hF
   refine sc hF rfl rfl rfl en103 rfl (divs_ok B N _ hS.inv hN1 hN2) ?_; clear hF a; intro v w' a hv hF
   obtain ⟨l, hrow, ⟨hl1, hl2, hl3, hl4⟩, hS'⟩ := hv
   obtain ⟨sa, cp, rfl⟩ := hrow.sl
   replace hS := hS.trans hS'
   clear hS'
   refine sv hF (v_lenS rfl sl37 rfl) rfl ?_; clear hF a; intro a hF
   refine sv hF (v_move rfl) rfl ?_; clear hF a; intro a hF
   refine WL_nil (hK _ _ ?_)
   clear hK K
   replace hF := hF.sub _ (c_ 22 rfl (c_ 21 rfl (c_ 20 rfl (c_ 3 rfl (c_ 2 rfl (c_ 0 rfl (n_)))))))
   generalize w'.heap.size = M0 at hrow
   rw [ints_length] at hF hrow
   subst hN
   refine W_block ?_
   refine W_loop (fun m a w1 => ∃ i : Nat, Fr 33 [(0, .int .u32 (p : Int)), (3, .int .i64 ((2 ^ Nat.log2 p - 1 : Nat) : Int)), (20, .slice sa l.length cp), (21, .int .i64 (l.length : Int)), (22, .int .i64 (i : Int))] a ∧ St FDx B w w1 ∧ Row FDx B M0 w1 (.slice sa l.length cp) (ints l) ∧ i ≤ l.length ∧ (∀ j q, j < i → l[j]? = some q → Px.pow 2 p ((2 ^ Nat.log2 p - 1) / q) ≠ 1) ∧ m = l.length - i) (l.length) ?_ ?_
   ·
    skip
    exact ⟨0, hF.sub _ (c_ 0 rfl (c_ 3 rfl (c_ 20 rfl (c_ 21 rfl (c_ 22 rfl n_))))), hS, hrow, by omega, fun j q hj => by omega, by omega⟩
   ·
    skip
    clear hF
    clear hS hrow
    rintro m a w1 ⟨i, hF, hS, hrow, hi, hall, rfl⟩
    refine W_sr rfl (fun K hK => ?_)
    refine sv hF (v_lss rfl rfl) rfl ?_; clear hF a; intro a hF
    refine WL_nil (hK _ _ ?_)
    clear hK K
    refine W_seq ?_
    refine W_if hF rfl (fun hc3 => ?_) (fun hc3 => ?_)
    ·
     skip
     try simp only [dcl] at hc3
     obtain ⟨q, hq⟩ : ∃ q, l[i]? = some q := ⟨_, List.getElem?_eq_getElem (by omega)⟩
     obtain ⟨-, g, o, rfl, hcell⟩ := hrow.at (Gam.ints_at hq)
     have hqm := List.mem_of_getElem? hq
     have hq2 := hl1 q hqm
     refine W_skip ?_
     refine W_seq ?_
     refine W_block ?_
     refine W_sr rfl (fun K hK => ?_)
     refine sv hF (v_ixS sl37 rfl rfl (by omega) (by omega)) rfl ?_; clear hF a; intro a hF
     refine sv hF (v_load sc3 rfl (by first | assumption | (rw [toNat_c]; assumption) | exact KC.c (by assumption) | (rw [toNat_c]; exact KC.c (by assumption)) | exact Box.at (by assumption))) rfl ?_; clear hF a; intro a hF
     refine sv hF (v_assign rfl) rfl ?_; clear hF a; intro a hF
     refine WL_nil (hK _ _ ?_)
     clear hK K
     replace hF := hF.sub _ (c_ 5 rfl (c_ 0 rfl (c_ 3 rfl (c_ 20 rfl (c_ 21 rfl (c_ 22 rfl (n_)))))))
     refine W_sr rfl (fun K hK => ?_)
     refine sv2 hF (v_move rfl) (v_move rfl) rfl rfl ?_; clear hF a; intro a hF
     refine sv hF (v_quoN (m := 2 ^ Nat.log2 p - 1) (n := q) rfl rfl (by omega) (fits_i64 (by omega))) rfl ?_; clear hF a; intro a hF
     refine sv hF (v_move rfl) rfl ?_; clear hF a; intro a hF
     refine sc hF rfl rfl rfl en104 rfl (power_ok B 2 ((2 ^ Nat.log2 p - 1) / q) p _ hS.inv (by decide) (by have := Nat.div_le_self (2 ^ Nat.log2 p - 1) q; omega) hp) ?_; clear hF a; intro v w' a hv hF
     obtain ⟨rfl, hS'⟩ := hv
     have hS1 := hS'
     replace hS := hS.trans hS'
     clear hS'
     rw [powB_one] at hF
     replace hrow := hrow.st hS1
     refine sv hF (v_eql rfl rfl) rfl ?_; clear hF a; intro a hF
     refine WL_nil (hK _ _ ?_)
     clear hK K
     replace hF := hF.sub _ (c_ 31 rfl (c_ 0 rfl (c_ 3 rfl (c_ 20 rfl (c_ 21 rfl (c_ 22 rfl (n_)))))))
     refine W_if hF rfl (fun hc4 => ?_) (fun hc4 => ?_)
     ·
      skip
      try simp only [dcl] at hc4
      have hbad := prim_f3 hq2.1 hq2.2 (by omega)
      refine W_sr rfl (fun K hK => ?_)
      refine sv hF (v_assign rfl) rfl ?_; clear hF a; intro a hF
      refine WL_nil (hK _ _ ?_)
      clear hK K
      replace hF := hF.sub _ (c_ 2 rfl (c_ 0 rfl (c_ 3 rfl (c_ 20 rfl (c_ 21 rfl (c_ 22 rfl (n_)))))))
      refine W_ret ?_
      refine ⟨_, _, hF, rfl, ?_⟩
      first
      | exact ⟨congrArg _ (prim_f1 (by assumption)).symm, hS⟩
      | exact ⟨congrArg _ (prim_f2 (p := p) (by omega)).symm, hS⟩
      | exact ⟨congrArg _ hbad.symm, hS⟩
      | exact ⟨congrArg _ hgood.symm, hS⟩
     ·
      skip
      try simp only [dcl] at hc4
      have hall2 : ∀ j r, j < i + 1 → l[j]? = some r → Px.pow 2 p ((2 ^ Nat.log2 p - 1) / r) ≠ 1 := fun j r hj hr => by
       by_cases h9 : j < i
       ·
        exact hall j r h9 hr
       ·
        obtain rfl : j = i := by omega
        rw [hq] at hr
        obtain rfl := Option.some.inj hr
        omega
      refine W_skip ?_
      refine W_reg rfl (fun K hK => ?_)
      refine sv hF (v_addI rfl rfl (by omega)) rfl ?_; clear hF a; intro a hF
      refine sv hF (v_move rfl) rfl ?_; clear hF a; intro a hF
      refine WL_nil (hK _ _ ?_)
      clear hK K
      replace hF := hF.sub _ (c_ 22 rfl (c_ 32 rfl (c_ 0 rfl (c_ 3 rfl (c_ 20 rfl (c_ 21 rfl (n_)))))))
      exact ⟨l.length - (i + 1), by omega, i + 1, hF.sub _ (c_ 0 rfl (c_ 3 rfl (c_ 20 rfl (c_ 21 rfl (c_ 22 rfl n_))))), hS, hrow, by omega, hall2, rfl⟩
    ·
     skip
     try simp only [dcl] at hc3
     have hgood := prim_list hc1 (by omega) hl1 hl2 (fun q hq => by
      obtain ⟨j, hj, e⟩ := List.getElem_of_mem hq
      exact hall j q (by omega) (by rw [List.getElem?_eq_getElem hj, e]))
     refine W_exit rfl ?_
     refine W_sr rfl (fun K hK => ?_)
     refine sv hF (v_assign rfl) rfl ?_; clear hF a; intro a hF
     refine WL_nil (hK _ _ ?_)
     clear hK K
     replace hF := hF.sub _ (c_ 2 rfl (c_ 0 rfl (c_ 3 rfl (c_ 20 rfl (c_ 21 rfl (c_ 22 rfl (n_)))))))
     refine W_ret ?_
     refine ⟨_, _, hF, rfl, ?_⟩
     first
     | exact ⟨congrArg _ (prim_f1 (by assumption)).symm, hS⟩
     | exact ⟨congrArg _ (prim_f2 (p := p) (by omega)).symm, hS⟩
     | exact ⟨congrArg _ hbad.symm, hS⟩
     | exact ⟨congrArg _ hgood.symm, hS⟩

end Go.Proofs.Ytaeljbdpjiciaaa
