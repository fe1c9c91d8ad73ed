/- Ranges over functions: what a round may turn, an iterator's contract, the statement's rule, a function's end with marks. No program in sight. -/
import Derived.Test.YtkoiolamnnmokaaDoorGDraw
import Derived.RangeFuncNested
import Derived.RangeFuncLeaves
import Derived.TacticsIn
import Derived.OrdersIn
set_option linter.unusedVariables false
set_option linter.unusedSimpArgs false
namespace Go.Gam
open Go

/-! ### weaker steps -/
def isC (o : Obj) : Prop := ∃ c e fr, o = .cells c e fr
theorem notT_nc {D : FD} {w : World} {k : Nat} {o : Obj} (h : w.heap[k]? = some o) (ho : o.isCells = false) : notT D w k := by
  intro c fr e
  rw [h] at e
  obtain rfl := Option.some.inj e
  cases ho

/-- From w to w': rows and what lies below n stay (but fields from B on may have made their tables). -/
structure Xt (D : FD) (B n : Nat) (w w' : World) : Prop where
  os : w'.os = w.os
  tape : w'.tape = w.tape
  output : w'.output = w.output
  size : w.heap.size ≤ w'.heap.size
  keep : ∀ k, k < w.heap.size → (k < n ∨ ∃ c e fr, w.heap[k]? = some (.cells c e fr)) → (k < B ∨ notT D w k) → w'.heap[k]? = w.heap[k]?
  fld : ∀ k wb p, FOK D B w k wb p → FOK D B w' k wb p
  priv : ∀ b, b < w.heap.size → Priv D B w b → Priv D B w' b
  made : ∀ k wb p ge gl, Made D B w k wb p ge gl → Made D B w' k wb p ge gl
  inv : Inv D B w'

theorem St.xt {D : FD} {B n : Nat} {w w' : World} (h : St D B w w') : Xt D B n w w' :=
  ⟨h.ext.os, h.ext.tape, h.ext.output, h.ext.size, fun k hk _ hc => h.ext.keep k hk hc, h.ext.fld, h.ext.priv, h.ext.made, h.inv⟩

/-- Two worlds with the same rows. -/
def SameC (w w' : World) : Prop := ∀ (k : Nat) (c : Array Value) (e : TypeId) (fr : Nat × Nat), (w.heap[k]? = some (Obj.cells c e fr)) ↔ (w'.heap[k]? = some (Obj.cells c e fr))
theorem SameC.tab {w w' : World} (h : SameC w w') {E B : Nat} {v : Value} {xs : List Value} (ht : Tab E B w v xs) : Tab E B w' v xs := by
  obtain ⟨g, h1, h2, h3⟩ := ht
  exact ⟨g, h1, h2, (h _ _ _ _).1 h3⟩
theorem SameC.fok {D : FD} {B : Nat} {w w' : World} (h : SameC w w') {k wb p : Nat} (hf : FOK D B w k wb p) : FOK D B w' k wb p := by
  obtain ⟨hB, hf | ⟨e, l, h1, h2, h3⟩⟩ := hf
  · exact ⟨hB, .inl ((h _ _ _ _).1 hf)⟩
  · exact ⟨hB, .inr ⟨e, l, (h _ _ _ _).1 h1, h.tab h2, h.tab h3⟩⟩
theorem SameC.made {D : FD} {B : Nat} {w w' : World} (h : SameC w w') {k wb p ge gl : Nat} (hf : Made D B w k wb p ge gl) : Made D B w' k wb p ge gl := by
  obtain ⟨hB, h1, h2, h3⟩ := hf
  exact ⟨hB, (h _ _ _ _).1 h1, h.tab h2, h.tab h3⟩
theorem SameC.priv {D : FD} {B : Nat} {w w' : World} (h : SameC w w') {b : Nat} (hp : Priv D B w b) : Priv D B w' b :=
  fun k hk c fr hc => hp k hk c fr ((h _ _ _ _).2 hc)
theorem SameC.inv {D : FD} {B : Nat} {w w' : World} (h : SameC w w') (hs : w.heap.size ≤ w'.heap.size) (hI : Inv D B w) : Inv D B w' :=
  ⟨Nat.le_trans hI.1 hs, fun k hk c fr hc => let ⟨wb, p, hf⟩ := hI.2 k hk c fr ((h _ _ _ _).2 hc); ⟨wb, p, h.fok hf⟩⟩

theorem sameC_put {w : World} {l : Nat} {o o' : Obj} (h : w.heap[l]? = some o) (ho : o.isCells = false) (ho' : o'.isCells = false) : SameC w (w.putObj l o') := by
  intro k c e fr
  by_cases hk : k = l
  · subst hk
    rw [World.putObj_heap_same (heap_lt h), h]
    constructor
    · intro hh; obtain rfl := Option.some.inj hh; cases ho
    · intro hh; obtain rfl := Option.some.inj hh; cases ho'
  · rw [World.putObj_heap_other hk]
theorem sameC_new {w : World} {o : Obj} (ho : o.isCells = false) : SameC w (w.alloc o) := by
  intro k c e fr
  by_cases hk : k < w.heap.size
  · rw [RowKit.Below.heap_alloc w o k hk]
  · constructor
    · intro hh; exact absurd (heap_lt hh) hk
    · intro hh
      have h1 := heap_lt hh
      have h2 : (w.alloc o).heap.size = w.heap.size + 1 := by simp
      have : k = w.heap.size := by omega
      subst this
      rw [alloc_new] at hh
      obtain rfl := Option.some.inj hh
      cases ho

theorem Xt.put {D : FD} {B n : Nat} {w : World} {l : Nat} {o o' : Obj} (hI : Inv D B w) (hn : n ≤ l) (h : w.heap[l]? = some o) (ho : o.isCells = false) (ho' : o'.isCells = false) : Xt D B n w (w.putObj l o') := by
  have hs := sameC_put h ho ho'
  refine ⟨rfl, rfl, rfl, by simp, fun k hk hc _ => ?_, fun _ _ _ => hs.fok, fun _ _ => hs.priv, fun _ _ _ _ _ => hs.made, hs.inv (by simp) hI⟩
  refine World.putObj_heap_other ?_
  rintro rfl
  rcases hc with hc | ⟨c, e, fr, hc⟩
  · omega
  · rw [h] at hc; obtain rfl := Option.some.inj hc; cases ho

theorem St.new {D : FD} {B : Nat} {w : World} {o : Obj} (hI : Inv D B w) (ho : o.isCells = false) : St D B w (w.alloc o) := by
  have hs := sameC_new (w := w) ho
  exact ⟨⟨rfl, rfl, rfl, by simp, fun k hk _ => RowKit.Below.heap_alloc w o k hk, fun _ _ _ => hs.fok, fun _ _ => hs.priv, fun _ _ _ _ _ => hs.made⟩, hs.inv (by simp) hI⟩

theorem Xt.refl {D : FD} {B n : Nat} {w : World} (hI : Inv D B w) : Xt D B n w w := (St.refl hI).xt
theorem Xt.trans {D : FD} {B n : Nat} {a b c : World} (h : Xt D B n a b) (k : Xt D B n b c) : Xt D B n a c := by
  refine ⟨k.os.trans h.os, k.tape.trans h.tape, k.output.trans h.output, Nat.le_trans h.size k.size, fun i hi h1 h2 => ?_, fun i wb p hf => k.fld i wb p (h.fld i wb p hf), fun b hb hp => k.priv b (Nat.lt_of_lt_of_le hb h.size) (h.priv b hb hp), fun i wb p e l hf => k.made i wb p e l (h.made i wb p e l hf), k.inv⟩
  have e := h.keep i hi h1 h2
  exact (k.keep i (Nat.lt_of_lt_of_le hi h.size) (h1.imp id fun ⟨c, t, fr, hc⟩ => ⟨c, t, fr, e.trans hc⟩) (h2.imp id (notT_of e))).trans e

theorem Row.xt {D : FD} {B n M : Nat} {w w' : World} {v : Value} {xs : List Value} (h : Row D B M w v xs) (hs : Xt D B n w w') : Row D B M w' v xs := by
  rcases h with h | ⟨g, o, cap, rfl, h0, h1, h2, h3, h4⟩
  · exact .inl h
  · by_cases hx : xs = []
    · subst hx; exact .inl ⟨_, _, rfl, rfl⟩
    · obtain ⟨u, hu⟩ : ∃ u, xs[0]? = some u := ⟨_, List.getElem?_eq_getElem (List.length_pos_iff.2 hx)⟩
      have hc := h4 0 u hu
      have hcell : ∃ c e fr, w.heap[g]? = some (.cells c e fr) := by
        unfold World.cell? at hc
        split at hc
        · rename_i c e fr hh; exact ⟨c, e, fr, hh⟩
        · cases hc
      have hk := hs.keep g h3 (.inr hcell) h2
      exact .inr ⟨g, o, cap, rfl, h0, h1, h2.imp id (notT_of hk), Nat.lt_of_lt_of_le h3 hs.size, fun i u hu => (cell_of_heap hk).trans (h4 i u hu)⟩
theorem Own.xt {D : FD} {B n N : Nat} {w w' : World} {E : TypeId} {v : Value} {b : Option Nat} {xs : List Value} (h : Own D B N w E v b xs) (hE : E ≠ D.T) (hs : Xt D B n w w') : Own D B N w' E v b xs := by
  rcases h with h | ⟨g, cap, cur, rfl, rfl, h1, hB, h2, h3, h4, h5, h6, h7⟩
  · exact .inl h
  · refine .inr ⟨g, cap, cur, rfl, rfl, h1, hB, ?_, h3, h4, h5, h6, hs.priv g (heap_lt h2) h7⟩
    rw [hs.keep g (heap_lt h2) (.inr ⟨_, _, _, h2⟩) (.inr fun c fr e => by rw [h2] at e; exact hE (Obj.cells.inj (Option.some.inj e)).2.1)]
    exact h2
theorem Blk.xt {D : FD} {B n : Nat} {w w' : World} {g : Nat} {E : TypeId} {cs : List Value} (h : Blk w g E cs) (hE : E ≠ D.T) (hs : Xt D B n w w') : Blk w' g E cs := by
  unfold Blk at *
  rw [hs.keep g (heap_lt h) (.inr ⟨_, _, _, h⟩) (.inr fun c fr e => by rw [h] at e; exact hE (Obj.cells.inj (Option.some.inj e)).2.1)]
  exact h
theorem St.thenX {D : FD} {B n : Nat} {a b c : World} (h : St D B a b) (k : Xt D B n b c) (hn : a.heap.size ≤ n) : St D B a c := by
  refine ⟨⟨k.os.trans h.ext.os, k.tape.trans h.ext.tape, k.output.trans h.ext.output, Nat.le_trans h.ext.size k.size, fun i hi hc => ?_, fun i wb p hf => k.fld i wb p (h.ext.fld i wb p hf), fun b hb hp => k.priv b (Nat.lt_of_lt_of_le hb h.ext.size) (h.ext.priv b hb hp), fun i wb p e l hf => k.made i wb p e l (h.ext.made i wb p e l hf)⟩, k.inv⟩
  have e := h.ext.keep i hi hc
  exact (k.keep i (Nat.lt_of_lt_of_le hi h.ext.size) (.inl (by omega)) (hc.imp id (notT_of e))).trans e

/-- From w to w', where the blocks of Z may turn; what is no row stays. -/
structure ExtZ (D : FD) (B : Nat) (Z : Nat → Prop) (w w' : World) : Prop where
  os : w'.os = w.os
  tape : w'.tape = w.tape
  output : w'.output = w.output
  size : w.heap.size ≤ w'.heap.size
  keep : ∀ k, k < w.heap.size → ¬ Z k → (k < B ∨ notT D w k) → w'.heap[k]? = w.heap[k]?
  oth : ∀ (k : Nat) (o : Obj), w.heap[k]? = some o → o.isCells = false → w'.heap[k]? = some o
  fld : ∀ k wb p, FOK D B w k wb p → FOK D B w' k wb p
  priv : ∀ b, b < w.heap.size → Priv D B w b → Priv D B w' b
  made : ∀ k wb p ge gl, Made D B w k wb p ge gl → Made D B w' k wb p ge gl
structure StZ (D : FD) (B : Nat) (Z : Nat → Prop) (w w' : World) : Prop where
  ext : ExtZ D B Z w w'
  inv : Inv D B w'

theorem St.z {D : FD} {B : Nat} {Z : Nat → Prop} {w w' : World} (h : St D B w w') : StZ D B Z w w' :=
  ⟨⟨h.ext.os, h.ext.tape, h.ext.output, h.ext.size, fun k hk _ hc => h.ext.keep k hk hc, fun k o hk ho => (h.ext.keep k (heap_lt hk) (.inr (notT_nc hk ho))).trans hk, h.ext.fld, h.ext.priv, h.ext.made⟩, h.inv⟩
theorem StZ.refl {D : FD} {B : Nat} {Z : Nat → Prop} {w : World} (h : Inv D B w) : StZ D B Z w w := (St.refl h).z
theorem StZ.transZ {D : FD} {B : Nat} {Z : Nat → Prop} {a b c : World} (h : StZ D B Z a b) (k : StZ D B Z b c) : StZ D B Z a c := by
  refine ⟨⟨k.ext.os.trans h.ext.os, k.ext.tape.trans h.ext.tape, k.ext.output.trans h.ext.output, Nat.le_trans h.ext.size k.ext.size, fun i hi hz hc => ?_, fun i o hi ho => k.ext.oth i o (h.ext.oth i o hi ho) ho, fun i wb p hf => k.ext.fld i wb p (h.ext.fld i wb p hf), fun b hb hp => k.ext.priv b (Nat.lt_of_lt_of_le hb h.ext.size) (h.ext.priv b hb hp), fun i wb p e l hf => k.ext.made i wb p e l (h.ext.made i wb p e l hf)⟩, k.inv⟩
  have e := h.ext.keep i hi hz hc
  exact (k.ext.keep i (Nat.lt_of_lt_of_le hi h.ext.size) hz (hc.imp id (notT_of e))).trans e
theorem StZ.trans {D : FD} {B : Nat} {Z : Nat → Prop} {a b c : World} (h : StZ D B Z a b) (k : St D B b c) : StZ D B Z a c := h.transZ k.z
/-- A step that changes a block of Z, or one that is newer than w. -/
theorem StZ.mb {D : FD} {B : Nat} {Z : Nat → Prop} {b : Option Nat} {w0 w w' : World} (hs : StZ D B Z w0 w) (h : Mb D B b w w') (hb : ∀ k, b = some k → Z k ∧ ∃ c e fr, w.heap[k]? = some (.cells c e fr)) : StZ D B Z w0 w' := by
  refine hs.transZ ⟨⟨h.os, h.tape, h.output, h.size, fun k hk hz _ => h.keep k hk (fun e => hz (hb k e.symm).1), fun k o hk ho => (h.keep k (heap_lt hk) (fun e => ?_)).trans hk, fun _ _ _ => h.fok, fun _ _ => h.priv, fun _ _ _ _ _ => h.made⟩, h.inv hs.inv⟩
  obtain ⟨c, e', fr, hc⟩ := (hb k e.symm).2
  rw [hk] at hc
  obtain rfl := Option.some.inj hc
  cases ho
theorem StZ.mb0 {D : FD} {B : Nat} {Z : Nat → Prop} {w0 w w' : World} (hs : StZ D B Z w0 w) (h : Mb D B none w w') : StZ D B Z w0 w' := hs.mb h (fun k e => by cases e)
theorem StZ.weak {D : FD} {B : Nat} {Z Z' : Nat → Prop} {w w' : World} (h : StZ D B Z w w') (hz : ∀ k, Z k → Z' k) : StZ D B Z' w w' :=
  ⟨⟨h.ext.os, h.ext.tape, h.ext.output, h.ext.size, fun k hk hn hc => h.ext.keep k hk (fun hh => hn (hz k hh)) hc, h.ext.oth, h.ext.fld, h.ext.priv, h.ext.made⟩, h.inv⟩
theorem Row.stz {D : FD} {B M : Nat} {Z : Nat → Prop} {w w' : World} {v : Value} {xs : List Value} (h : Row D B M w v xs) (hs : StZ D B Z w w') (hz : ∀ k, k < M → ¬ Z k) : Row D B M w' v xs := by
  rcases h with h | ⟨g, o, cap, rfl, h0, h1, h2, h3, h4⟩
  · exact .inl h
  · have hk := hs.ext.keep g h3 (hz g h1) h2
    exact .inr ⟨g, o, cap, rfl, h0, h1, h2.imp id (notT_of hk), Nat.lt_of_lt_of_le h3 hs.ext.size, fun i u hu => (cell_of_heap hk).trans (h4 i u hu)⟩
theorem Blk.stz {D : FD} {B : Nat} {Z : Nat → Prop} {w w' : World} {g : Nat} {E : TypeId} {cs : List Value} (h : Blk w g E cs) (hE : E ≠ D.T) (hs : StZ D B Z w w') (hz : ¬ Z g) : Blk w' g E cs := by
  unfold Blk at *
  rw [hs.ext.keep g (heap_lt h) hz (.inr fun c fr e => by rw [h] at e; exact hE (Obj.cells.inj (Option.some.inj e)).2.1)]
  exact h
/-- A step that leaves what is below n, and turns nothing of Z below n, is a plain one. -/
theorem StZ.plain {D : FD} {B : Nat} {Z : Nat → Prop} {w w' : World} (h : StZ D B Z w w') (hz : ∀ k, k < w.heap.size → ¬ Z k) : St D B w w' :=
  ⟨⟨h.ext.os, h.ext.tape, h.ext.output, h.ext.size, fun k hk hc => h.ext.keep k hk (hz k hk) hc, h.ext.fld, h.ext.priv, h.ext.made⟩, h.inv⟩
theorem St.thenZ {D : FD} {B : Nat} {Z : Nat → Prop} {a b c : World} (h : St D B a b) (k : StZ D B Z b c) (hz : ∀ k, k < a.heap.size → ¬ Z k) : St D B a c := (h.z.transZ k).plain hz

/-! ### fences: everything may be called; a round's frame, or not -/
abbrev FW (r : Option Nat) : Fence := { Fence.wide with round := r }

section
variable {P : Program} {r : Option Nat}

theorem opIn_of {o : Oper} {a : Act} {w : World} {next : Act → World → Prop} {Q : Exit → Act → World → Prop} (hnd : ∀ c, o.op ≠ .defer c) (h : o.wp P a w next Q) : o.wpIn (FW r) 0 P a w next Q := by
  refine ⟨fun _ _ => trivial, ?_⟩
  rw [Oper.semAt_eq _ _ _ hnd]
  unfold Oper.wp at h
  cases hr : (execOp a.eval o).run P w with
  | ok nx w' =>
    rw [hr] at h
    cases nx <;> simp only [Oper.upon, Oper.uponIn] at h ⊢ <;> try exact h
    · exact ⟨fun hd => by simp [FW, Fence.wide] at hd, Calls.mono h (fun e w'' he => by cases e <;> exact he) |> callsIn_wide.2⟩
    · exact ⟨fun hd => by simp [FW, Fence.wide] at hd, fun c cs _ => let ⟨v, w1, h1, h2⟩ := h c cs; ⟨v, w1, h1, stepsIn_wide.2 h2⟩⟩
    all_goals exact h.elim
  | halt x w' =>
    rw [hr] at h
    cases x <;> simp only [Oper.upon, Oper.uponIn] at h ⊢ <;> exact h

def noDefer (ops : List Oper) : Bool := ops.all fun o => match o.op with | .defer _ => false | _ => true
theorem noDefer_op {ops : List Oper} (h : noDefer ops = true) {o : Oper} (ho : o ∈ ops) : ∀ c, o.op ≠ .defer c := by
  intro c e
  have := List.all_eq_true.1 h o ho
  rw [e] at this
  cases this
theorem listIn_of {ops : Array Oper} {Q : Exit → Act → World → Prop} (hno : ¬ LetsOut Q) : ∀ (l : List Oper) (a : Act) (w : World), noDefer l = true → wpList P ops Q l a w → wpListIn (FW r) 0 P ops Q l a w
  | [], a, w, _, h => h
  | o :: rest, a, w, hd, h => by
    have hd2 : noDefer rest = true := by simp only [noDefer, List.all_cons, Bool.and_eq_true] at hd ⊢; exact hd.2
    have ih := fun a w => listIn_of (ops := ops) hno rest a w hd2
    unfold wpListIn
    unfold wpList at h
    split
    · rename_i hw
      rw [if_pos hw] at h
      rcases h with h | ⟨_, h⟩
      · exact Oper.wpIn_mono ih (opIn_of (noDefer_op hd (by simp)) h)
      · exact absurd h hno
    · rename_i hw
      rw [if_neg hw] at h
      exact ⟨fun _ _ => trivial, ih _ _ h⟩
theorem opsIn_of {ops : Array Oper} {Q : Exit → Act → World → Prop} (hno : ¬ LetsOut Q) (hd : noDefer ops.toList = true) : ∀ (l : List Nat) (a : Act) (w : World), wpOps P ops Q l a w → wpOpsIn (FW r) 0 P ops Q l a w
  | [], a, w, h => h
  | i :: rest, a, w, h => by
    have ih := opsIn_of hno hd rest
    unfold wpOpsIn
    unfold wpOps at h
    cases ho : ops[i]? with
    | none => rw [ho] at h; exact ih a w h
    | some o =>
      rw [ho] at h
      simp only at h ⊢
      split
      · rename_i hw
        rw [if_pos hw] at h
        rcases h with h | ⟨_, h⟩
        · refine Oper.wpIn_mono ih (opIn_of (noDefer_op hd ?_) h)
          rw [← Array.getElem?_toList] at ho
          exact List.mem_of_getElem? ho
        · exact absurd h hno
      · rename_i hw
        rw [if_neg hw] at h
        exact ⟨fun _ _ => trivial, ih _ _ h⟩

/-- The code c in a frame of round r (none: in no round's). -/
def WI (P : Program) (r : Option Nat) (c : Code) (N : Kont) (X : List (Nat × Kont)) (R : Kont) (a : Act) (w : World) : Prop := c.wpIn (FW r) 0 P (Qof N X R) a w

variable {N : Kont} {X : List (Nat × Kont)} {R : Kont} {a : Act} {w : World}
theorem W_of {c : Code} (h : WI P none c N X R a w) : W P c N X R a w := wpIn_wide.1 h
theorem WI_of {c : Code} (h : W P c N X R a w) : WI P none c N X R a w := wpIn_wide.2 h
theorem qof_no : ¬ LetsOut (Qof N X R) := fun ⟨_, _, h⟩ => h
theorem WI_mono {c : Code} {N' : Kont} {X' : List (Nat × Kont)} {R' : Kont} (h : WI P r c N X R a w) (hN : ∀ a w, N a w → N' a w)
    (hX : ∀ id K, lookX X id = some K → ∀ a w, K a w → ∃ K', lookX X' id = some K' ∧ K' a w) (hR : ∀ a w, R a w → R' a w) : WI P r c N' X' R' a w :=
  wpIn_mono h fun e a w hq => by
    cases e with
    | normal => exact hN _ _ hq
    | exit id =>
      simp only [Qof] at hq ⊢
      split at hq
      · rename_i K hK
        obtain ⟨K', h1, h2⟩ := hX id K hK a w hq
        rw [h1]; exact h2
      · exact hq.elim
    | ret => exact hR _ _ hq
    | goto l => exact hq.elim
    | panic c => exact hq.elim
    | outgrown => exact hq.elim
/-- A function's frame is no round's: W and WI are one. -/
theorem WI_iff {c : Code} : WI P none c N X R a w ↔ W P c N X R a w := wpIn_wide

namespace Rd
variable {l : Nat}
theorem W_seq {x y : Code} (h : WI P r x (fun a w => WI P r y N X R a w) X R a w) : WI P r (.seq x y) N X R a w :=
  wpIn_seq (wpIn_mono h fun e a w hq => by cases e <;> exact hq)
theorem W_cut {x y : Code} (M : Kont) (h : WI P r x M X R a w) (h2 : ∀ a w, M a w → WI P r y N X R a w) : WI P r (.seq x y) N X R a w :=
  W_seq (WI_mono h h2 (fun id K hK a w hk => ⟨K, hK, hk⟩) (fun _ _ h => h))
theorem W_block {id : Nat} {c : Code} (h : WI P r c N ((id, N) :: X) R a w) : WI P r (.block id c) N X R a w :=
  wpIn_block (wpIn_mono h fun e a w hq => by
    cases e with
    | exit i =>
      simp only [Exit.inBlock]
      simp only [Qof, lookX] at hq
      by_cases e : i = id
      · subst e; rw [if_pos rfl]; simp only [Nat.beq_refl, cond_true] at hq; exact hq
      · rw [if_neg e]
        have hb : Nat.beq id i = false := by
          cases hb : Nat.beq id i with
          | false => rfl
          | true => exact absurd (Nat.eq_of_beq_eq_true hb).symm e
        rw [hb] at hq
        simpa [Qof] using hq
    | normal => exact hq
    | ret => exact hq
    | goto l => exact hq
    | panic c => exact hq
    | outgrown => exact hq)
theorem W_skip (h : N a w) : WI P r .skip N X R a w := wpIn_skip h
theorem W_ret (h : R a w) : WI P r .ret N X R a w := wpIn_ret h
theorem W_exit {id : Nat} {K : Kont} (hX : lookX X id = some K) (h : K a w) : WI P r (.exit id) N X R a w := by
  refine wpIn_exit ?_
  simp only [Qof, hX]
  exact h
theorem W_if {n : NN} {F : Fs} {c : Operand} {x y : Code} {b : Bool} (hF : Fr n F a) (hc : ev F c = some (.bool b)) (ht : b = true → WI P r x N X R a w) (hf : b = false → WI P r y N X R a w) :
    WI P r (.cond c x y) N X R a w := wpIn_cond_split (hF.eval hc) ht hf
theorem W_ifT {n : NN} {F : Fs} {c : Operand} {x y : Code} (hF : Fr n F a) (hc : ev F c = some (.bool true)) (h : WI P r x N X R a w) : WI P r (.cond c x y) N X R a w := wpIn_cond_true (hF.eval hc) h
theorem W_ifF {n : NN} {F : Fs} {c : Operand} {x y : Code} (hF : Fr n F a) (hc : ev F c = some (.bool false)) (h : WI P r y N X R a w) : WI P r (.cond c x y) N X R a w := wpIn_cond_false (hF.eval hc) h
theorem qof_reg {K : Kont} : ∀ e a w, Qof K [] (fun _ _ => False) e a w → Qof K X R e a w := fun e a w hq => by
  cases e with
  | exit i => simp [Qof, lookX] at hq
  | normal => exact hq
  | ret => exact hq.elim
  | goto l => exact hq.elim
  | panic c => exact hq.elim
  | outgrown => exact hq.elim
theorem W_reg {id : Nat} {ops : Array Oper} {l : List Oper} (hl : ops.toList = l) (hd : noDefer l = true) (h : ∀ K : Kont, (∀ a w, N a w → K a w) → WL P ops K l a w) : WI P r (.region id ops false) N X R a w :=
  wpIn_mono (wpIn_region_list (by rw [hl]; exact listIn_of qof_no l a w hd (h N (fun _ _ h => h)))) (qof_reg)
theorem W_sr {id : Nat} {ops : Array Oper} {l : List Oper} {y : Code} (hl : ops.toList = l) (hd : noDefer l = true) (h : ∀ K : Kont, (∀ a w, WI P r y N X R a w → K a w) → WL P ops K l a w) :
    WI P r (.seq (.region id ops false) y) N X R a w := W_seq (W_reg hl hd h)
theorem W_draw {D : FD} {B : Nat} {ops : Array Oper} {id m : Nat} (hsz : ops.size = m) (hm : P.follows .mixedOrders = true) (hI : Inv D B w) (hd : noDefer ops.toList = true)
    (h : ∀ K : Kont, (∀ a w, N a w → K a w) → ∀ w', St D B w w' → w'.heap = w.heap → WA P D B ops K m (Array.replicate m false) a w') : WI P r (.region id ops true) N X R a w := by
  subst hsz
  refine wpIn_mono (wpIn_region_draw fun t => ?_) qof_reg
  simp only [Region.schedule, hm, Bool.true_or, if_true]
  exact opsIn_of qof_no hd _ _ _ (wpAny_sound ops.size t _ a _ (wpAny_of_held _ _ _ _ (h N (fun _ _ h => h) { w with drawn := w.drawn + 1 } ⟨ext_drew D B w, hI⟩ rfl)))
theorem W_sd {D : FD} {B : Nat} {ops : Array Oper} {id m : Nat} {y : Code} (hsz : ops.size = m) (hm : P.follows .mixedOrders = true) (hI : Inv D B w) (hd : noDefer ops.toList = true)
    (h : ∀ K : Kont, (∀ a w, WI P r y N X R a w → K a w) → ∀ w', St D B w w' → w'.heap = w.heap → WA P D B ops K m (Array.replicate m false) a w') : WI P r (.seq (.region id ops true) y) N X R a w :=
  W_seq (W_draw hsz hm hI hd h)
end Rd

/-! ### yield -/
/-- Yield of loop l, handed v: the round hands back a Bool. -/
def YieldOk (P : Program) (l : Nat) (v : Value) (w : World) (R : Bool → World → Prop) : Prop :=
  ∃ fn tmps assign body, (Instr.yield l #[v]).run P w = .ok (.round l fn tmps assign body) w ∧ RoundIn Fence.wide 0 P l fn tmps assign body w fun e w' => ∃ b, e = .returned (.bool b) ∧ R b w'

theorem YieldOk.mono {l : Nat} {v : Value} {R R' : Bool → World → Prop} (h : YieldOk P l v w R) (hr : ∀ b w', R b w' → R' b w') : YieldOk P l v w R' := by
  obtain ⟨fn, t, x, y, h1, h2⟩ := h
  exact ⟨fn, t, x, y, h1, h2.mono fun e w' ⟨b, h3, h4⟩ => ⟨b, h3, hr _ _ h4⟩⟩

section
variable {ops : Array Oper} {K : Kont} {rest : List Oper} {n : NN} {F : Fs} {op : Op} {T : TypeId} {pp : String} {af : Array Edge} {v : Value} {d : Nat}
/-- The operations l of a region, in a frame of round r. -/
def WLI (P : Program) (r : Option Nat) (ops : Array Oper) (K : Kont) (l : List Oper) (a : Act) (w : World) : Prop := wpListIn (FW r) 0 P ops (Qof K [] (fun _ _ => False)) l a w
theorem WLI_of {l : List Oper} (hd : noDefer l = true) (h : WL P ops K l a w) : WLI P r ops K l a w := listIn_of qof_no l a w hd h
theorem svI (hF : Fr n F a) (hnd : noDefer [⟨some d, op, T, pp, af, none⟩] = true) (hv : Val P op T F w v) (hd : Nat.blt d n.n = true) (k : ∀ a, Fr n ((d, v) :: F) a → WLI P r ops K rest a w) :
    WLI P r ops K (⟨some d, op, T, pp, af, none⟩ :: rest) a w := by
  unfold WLI wpListIn
  rw [if_pos (by simp [Region.wanted])]
  refine opIn_of (noDefer_op hnd (by simp)) ?_
  unfold Oper.wp
  rw [hv a.eval hF.reads]
  exact k _ (hF.put hd)
theorem syI {l : Nat} {x y : Operand} {ats : Array TypeId} (hF : Fr n F a) (hx : ev F x = some (.func (.yield l) #[] #[])) (hy : ev F y = some v) (hd : Nat.blt d n.n = true)
    (h : YieldOk P l v w fun b w' => ∀ a, Fr n ((d, .bool b) :: F) a → WLI P r ops K rest a w') : WLI P r ops K (⟨some d, .call ⟨.value x, #[y], ats⟩, T, pp, af, none⟩ :: rest) a w := by
  obtain ⟨fn, tmps, assign, body, h1, h2⟩ := h
  unfold WLI wpListIn
  rw [if_pos (by simp [Region.wanted])]
  refine ⟨fun _ _ => trivial, ?_⟩
  rw [Oper.semAt_eq _ _ _ (by intro c e; cases e)]
  have hrun : (execOp a.eval ⟨some d, .call ⟨.value x, #[y], ats⟩, T, pp, af, none⟩).run P w = .ok (.round l fn tmps assign body) w := by
    simp [execOp, resolve, invoke, Deferred.ofValue, hF.reads x _ hx, hF.reads y _ hy, h1]
  rw [hrun]
  simp only [Oper.uponIn]
  refine ⟨fun hd => by simp [FW, Fence.wide] at hd, RoundIn.mono (F := FW r) h2 ?_⟩
  rintro e w' ⟨b, rfl, h3⟩
  exact h3 _ (hF.put hd)
theorem W_srY {id : Nat} {l : List Oper} {y : Code} (hl : ops.toList = l) (h : ∀ K : Kont, (∀ a w, W P y N X R a w → K a w) → WLI P none ops K l a w) :
    W P (.seq (.region id ops false) y) N X R a w := W_seq (W_of (wpIn_mono (wpIn_region_list (by rw [hl]; exact h _ (fun _ _ h => h))) Rd.qof_reg))
theorem Rd.W_srY {id : Nat} {l : List Oper} {y : Code} (hl : ops.toList = l) (h : ∀ K : Kont, (∀ a w, WI P r y N X R a w → K a w) → WLI P r ops K l a w) :
    WI P r (.seq (.region id ops false) y) N X R a w := Rd.W_seq (wpIn_mono (wpIn_region_list (by rw [hl]; exact h _ (fun _ _ h => h))) Rd.qof_reg)
end

/-! ### iterators -/
/-- Non-rows stay, but block l. -/
def Oth (l : Nat) (w w' : World) : Prop := w.heap.size ≤ w'.heap.size ∧ ∀ (k : Nat) (o : Obj), k ≠ l → w.heap[k]? = some o → o.isCells = false → w'.heap[k]? = some o

/-- Function gf with lb captured, called with yield, hands over the elements xs, one behind the other, until a round has had enough. enc: what stands for an element. Rounds may turn the blocks of Z. -/
def Seq (P : Program) (D : FD) (B : Nat) {α : Type} (gf : FuncId) (lb : List Value) (enc : α → World → Value → Prop) (xs : List α) (Z : Nat → Prop) (w0 : World) : Prop :=
  ∀ (l : Nat) (J Jx : Nat → World → Prop) (W : World), w0.heap.size ≤ l → St D B w0 W →
    (∀ i A C, J i A → St D B A C → J i C) →
    (∀ i x v A, xs[i]? = some x → J i A → StZ D B Z w0 A → enc x A v → YieldOk P l v A fun b A' => (b = true ∧ J (i + 1) A' ∧ StZ D B Z A A') ∨ (b = false ∧ Jx (i + 1) A')) →
    J 0 W → Calls P gf (#[.func (.yield l) #[] #[]] ++ lb.toArray) W fun e A' => ∃ v, e = .returned v ∧ ((J xs.length A' ∧ StZ D B Z w0 A') ∨ ∃ i, Jx i A')

/-- Deferred marks are whole. -/
def Mk (n : Nat) (ds : List Nat) (w : World) : Prop := ds.Nodup ∧ ∀ D ∈ ds, n ≤ D ∧ w.heap[D]? = some (.deferred (some []))
theorem Mk.nil (n : Nat) (w : World) : Mk n [] w := ⟨List.nodup_nil, fun _ h => by cases h⟩
theorem Mk.st {D : FD} {B n : Nat} {ds : List Nat} {w w' : World} (h : Mk n ds w) (hs : St D B w w') : Mk n ds w' :=
  ⟨h.1, fun k hk => ⟨(h.2 k hk).1, (hs.ext.keep k (heap_lt (h.2 k hk).2) (.inr (notT_nc (h.2 k hk).2 rfl))).trans (h.2 k hk).2⟩⟩
theorem Mk.stz {D : FD} {B n : Nat} {Z : Nat → Prop} {ds : List Nat} {w w' : World} (h : Mk n ds w) (hs : StZ D B Z w w') : Mk n ds w' :=
  ⟨h.1, fun k hk => ⟨(h.2 k hk).1, hs.ext.oth k _ (h.2 k hk).2 rfl⟩⟩
theorem Mk.mb {D : FD} {B n : Nat} {b : Option Nat} {ds : List Nat} {w w' : World} (h : Mk n ds w) (hm : Mb D B b w w') (hb : ∀ k, b = some k → ∃ c e fr, w.heap[k]? = some (.cells c e fr)) : Mk n ds w' :=
  ⟨h.1, fun k hk => ⟨(h.2 k hk).1, (hm.keep k (heap_lt (h.2 k hk).2) (fun e => by obtain ⟨c, e', fr, hc⟩ := hb k e.symm; rw [(h.2 k hk).2] at hc; cases hc)).trans (h.2 k hk).2⟩⟩
theorem Mk.cons {D : FD} {B n : Nat} {ds : List Nat} {w w' : World} (h : Mk n ds w) {d : Nat} (hd : w.heap.size ≤ d) (hn : n ≤ w.heap.size) (h' : Mk n ds w') (hw : w'.heap[d]? = some (.deferred (some []))) : Mk n (d :: ds) w' := by
  refine ⟨List.nodup_cons.2 ⟨fun hm => ?_, h.1⟩, fun k hk => ?_⟩
  · have := heap_lt (h.2 d hm).2; omega
  · rcases List.mem_cons.1 hk with rfl | hk
    · exact ⟨by omega, hw⟩
    · exact h'.2 k hk

/-- The blocks of a cell of a row are rows. -/
theorem Own.isrow {D : FD} {B n : Nat} {w : World} {E : TypeId} {v : Value} {b : Option Nat} {xs : List Value} (h : Own D B n w E v b xs) : ∀ k, b = some k → ∃ c e fr, w.heap[k]? = some (.cells c e fr) := by
  rintro k rfl
  rcases h with ⟨_, h, _⟩ | ⟨g, cap, cur, rfl, hb, h1, hB, h2, h3⟩
  · cases h
  · obtain rfl := Option.some.inj hb
    exact ⟨_, _, _, h2⟩

theorem StZ.put {D : FD} {B : Nat} {Z : Nat → Prop} {w A : World} {l : Nat} {o o' : Obj} (h : StZ D B Z w A) (hI : Inv D B A) (hl : A.heap[l]? = some o) (ho : o.isCells = false) (ho' : o'.isCells = false) (hn : w.heap.size ≤ l) (hz : Z l) : StZ D B Z w (A.putObj l o') := by
  have hs := sameC_put hl ho ho'
  refine ⟨⟨h.ext.os, h.ext.tape, h.ext.output, by simpa using h.ext.size, fun k hk hk' hc => ?_, fun k o1 hk ho1 => ?_, fun k wb p hf => hs.fok (h.ext.fld k wb p hf), fun b hb hp => hs.priv (h.ext.priv b hb hp), fun k wb p e g hf => hs.made (h.ext.made k wb p e g hf)⟩, hs.inv (by simp) hI⟩
  · exact (World.putObj_heap_other (show k ≠ l from fun e => hk' (by rw [e]; exact hz))).trans (h.ext.keep k hk hk' hc)
  · have := heap_lt hk
    exact (World.putObj_heap_other (by omega)).trans (h.ext.oth k o1 hk ho1)
/-- A whole round: the loop's record is as it was. -/
theorem StZ.round {D : FD} {B : Nat} {Z : Nat → Prop} {A A2 A' : World} {l : Nat} {o1 o2 : Obj} (h : St D B A A2) (h2 : StZ D B Z (A2.putObj l o1) A') (hl : A.heap[l]? = some o2) (ho2 : o2.isCells = false) (ho1 : o1.isCells = false) (hz : Z l) : StZ D B Z A (A'.putObj l o2) := by
  have hl2 : A2.heap[l]? = some o2 := (h.z (Z := Z)).ext.oth l o2 hl ho2
  have hs := sameC_put hl2 ho2 ho1
  have hl3 : (A2.putObj l o1).heap[l]? = some o1 := World.putObj_heap_same (heap_lt hl2)
  have hl4 : A'.heap[l]? = some o1 := h2.ext.oth l o1 hl3 ho1
  have hs4 := sameC_put hl4 ho1 ho2
  refine ⟨⟨h2.ext.os.trans h.ext.os, h2.ext.tape.trans h.ext.tape, h2.ext.output.trans h.ext.output, ?_, fun k hk hk' hc => ?_, fun k o hk ho => ?_, fun k wb p hf => hs4.fok (h2.ext.fld k wb p (hs.fok (h.ext.fld k wb p hf))),
    fun b hb hp => hs4.priv (h2.ext.priv b (by have := h.ext.size; simp; omega) (hs.priv (h.ext.priv b hb hp))), fun k wb p e g hf => hs4.made (h2.ext.made k wb p e g (hs.made (h.ext.made k wb p e g hf)))⟩, hs4.inv (by simp) h2.inv⟩
  · have h1 := h.ext.size; have h3 := h2.ext.size; simp at h3 ⊢; omega
  · have hne : k ≠ l := fun e => hk' (by rw [e]; exact hz)
    have e1 := h.ext.keep k hk hc
    have e2 : (A2.putObj l o1).heap[k]? = A.heap[k]? := (World.putObj_heap_other hne).trans e1
    have e3 := h2.ext.keep k (by have := h.ext.size; simp; omega) hk' (hc.imp id (notT_of e2))
    exact (World.putObj_heap_other hne).trans (e3.trans e2)
  · by_cases hne : k = l
    · subst hne
      rw [hl] at hk
      obtain rfl := Option.some.inj hk
      exact World.putObj_heap_same (heap_lt hl4)
    · have e1 := (h.z (Z := Z)).ext.oth k o hk ho
      have e2 : (A2.putObj l o1).heap[k]? = some o := (World.putObj_heap_other hne).trans e1
      exact (World.putObj_heap_other hne).trans (h2.ext.oth k o e2 ho)

/-- **A range over a function, in no round's frame.** -/
theorem W_rf {D : FD} {B : Nat} {α : Type} {g : Operand} {p : Tmp} {assign body : Code} {n : NN} {F : Fs} {gf : FuncId} {lb : List Value} {enc : α → World → Value → Prop} {xs : List α} {Z : Nat → Prop}
    (J : Nat → World → Prop) (Jr : World → Prop) (G : Value → Act → World → Prop)
    (hF : Fr n F a) (hg : ev F g = some (.func (.func gf) #[] lb.toArray)) (hp : Nat.blt p n.n = true) (eg : Ent P gf) (hI : Inv D B w)
    (hseq : Seq P D B gf lb enc xs Z w) (hZ : ∀ k, w.heap.size ≤ k → Z k)
    (hJ : ∀ i A C, J i A → Xt D B w.heap.size A C → J i C) (hJr : ∀ A C, Jr A → Xt D B w.heap.size A C → Jr C) (hG : ∀ v a A C, G v a A → Xt D B w.heap.size A C → G v a C)
    (hE : ∀ x v A C, enc x A v → Xt D B w.heap.size A C → enc x C v) (h0 : J 0 w)
    (hassign : ∀ l i x v A a', xs[i]? = some x → J i A → Inv D B A → enc x A v → Fr ⟨n.n, []⟩ ((p, v) :: F) a' → WI P (some l) assign (fun a2 A2 => St D B A A2 ∧ G v a2 A2) [] (fun _ _ => False) a' A)
    (hbody : ∀ l i x v A a2, xs[i]? = some x → J i A → StZ D B Z w A → enc x A v → G v a2 A → WI P (some l) body (fun _ A' => J (i + 1) A' ∧ StZ D B Z A A') [] (fun _ A' => Jr A' ∧ StZ D B Z A A') a2 A)
    (hdone : ∀ a' W, Fr ⟨n.n, w.heap.size :: n.ds⟩ F a' → W.heap[w.heap.size]? = some (.deferred (some [])) → J xs.length W → StZ D B Z w W → N a' W)
    (hret : ∀ a' W, Fr ⟨n.n, w.heap.size :: n.ds⟩ F a' → W.heap[w.heap.size]? = some (.deferred (some [])) → Jr W → Inv D B W → R a' W) :
    W P (.rangeFunc g #[p] assign body) N X R a w := by
  refine W_of (wpIn_rangeFunc fun fn _ => ?_)
  obtain ⟨rec, hrec⟩ : ∃ rec : LoopState → Option Code → Loop, rec = fun st pe => { state := st, pending := pe, fn, tmps := a.tmps, params := #[p], assign, body, defers := w.heap.size } := ⟨_, rfl⟩
  obtain ⟨W1, hW1⟩ : ∃ W1, (w.alloc (.deferred (some []))).alloc (.loop (rec .ready none)) = W1 := ⟨_, rfl⟩
  have hs0 : St D B w (w.alloc (.deferred (some []))) := St.new hI rfl
  have hs1 : St D B w W1 := by rw [← hW1]; exact hs0.trans (St.new hs0.inv rfl)
  have hL1 : W1.heap[w.heap.size + 1]? = some (.loop (rec .ready none)) := by
    rw [← hW1]; have := World.alloc_heap_new (w.alloc (.deferred (some []))) (.loop (rec .ready none)); rwa [World.size_alloc] at this
  have hK1 : W1.heap[w.heap.size]? = some (.deferred (some [])) := by
    rw [← hW1]; exact (RowKit.Below.heap_alloc _ _ _ (by simp)).trans (World.alloc_heap_new w _)
  refine ⟨w.heap.size + 1, [{ target := .collected w.heap.size, args := #[] }], W1, { target := .fn (.func gf) lb.toArray, args := #[.func (.yield (w.heap.size + 1)) #[] #[]] }, W1, gf,
    #[.func (.yield (w.heap.size + 1)) #[] #[]] ++ lb.toArray, W1, ?_, ?_, fun _ _ => trivial, ?_, fun hd => by simp [FW, Fence.wide] at hd, ?_⟩
  · rw [← hW1, hrec]; exact run_enterLoop_outer _ _ _ _ _
  · have := hF.reads g _ hg
    simp [resolve, rangeCall, Deferred.ofValue, Act.eval] at this ⊢
    simp [this]
  · have := eg (#[.func (.yield (w.heap.size + 1)) #[] #[]] ++ lb.toArray) W1
    simp [invoke] at this ⊢
    exact this
  · refine callsIn_wide.2 ?_
    have key := hseq (w.heap.size + 1) (fun i A => J i A ∧ Inv D B A ∧ A.heap[w.heap.size + 1]? = some (.loop (rec .ready none)) ∧ A.heap[w.heap.size]? = some (.deferred (some [])))
      (fun i A => ∃ c, (c = .ret ∧ Jr A) ∧ Inv D B A ∧ A.heap[w.heap.size + 1]? = some (.loop (rec .done (some c))) ∧ A.heap[w.heap.size]? = some (.deferred (some [])))
      W1 (by omega) hs1
      (fun i A C ⟨h1, h2, h3, h4⟩ hs => ⟨hJ i A C h1 hs.xt, hs.inv, hs.z (Z := Z) |>.ext.oth _ _ h3 rfl, hs.z (Z := Z) |>.ext.oth _ _ h4 rfl⟩) ?_ ⟨hJ 0 w W1 h0 hs1.xt, hs1.inv, hL1, hK1⟩
    · refine Calls.mono key ?_
      rintro e A' ⟨v, rfl, ⟨⟨h1, h2, h3, h4⟩, hz⟩ | ⟨i, c, ⟨rfl, h1⟩, h2, h3, h4⟩⟩
      · refine ⟨none, _, by subst hrec; exact run_endLoop (P := P) h3 (by simp), ?_⟩
        have hx := Xt.put (n := w.heap.size) h2 (Nat.le_succ _) h3 rfl (o' := .loop { rec .ready none with state := .exhausted }) rfl
        refine hdone _ _ ⟨hF.size, by show _ :: a.defers = _; rw [hF.defers]; rfl, hF.val⟩ ?_ (hJ _ _ _ h1 (by subst hrec; exact hx)) ?_
        · exact (World.putObj_heap_other (by omega)).trans h4
        · exact hz.put h2 h3 rfl rfl (Nat.le_succ _) (hZ _ (Nat.le_succ _))
      · refine ⟨some .ret, _, by subst hrec; exact run_endLoop (P := P) h3 (by simp), ?_⟩
        have hx := Xt.put (n := w.heap.size) h2 (Nat.le_succ _) h3 rfl (o' := .loop { rec .done (some .ret) with state := .exhausted }) rfl
        refine wpIn_ret (hret _ _ ⟨hF.size, by show _ :: a.defers = _; rw [hF.defers]; rfl, hF.val⟩ ?_ (hJr _ _ h1 (by subst hrec; exact hx)) (by subst hrec; exact hx.inv))
        exact (World.putObj_heap_other (by omega)).trans h4
    · rintro i x v A hx ⟨h1, h2, h3, h4⟩ hz he
      have hy := run_yield (P := P) (args := #[v]) h3 (by subst hrec; rfl)
      replace hy : (Instr.yield (w.heap.size + 1) #[v]).run P A = .ok (.round (w.heap.size + 1) fn (a.tmps.setIfInBounds p v) assign body) A := by subst hrec; simpa using hy
      refine ⟨fn, _, assign, body, hy, roundIn_of_wpIn trivial ?_⟩
      have hfr : Fr ⟨n.n, []⟩ ((p, v) :: F) { tmps := a.tmps.setIfInBounds p v, defers := [] } := by
        have := Fr.put (n := ⟨n.n, []⟩) (F := F) (a := { tmps := a.tmps, defers := [] }) (d := p) (v := v) ⟨hF.size, rfl, hF.val⟩ hp
        exact this
      refine wpIn_mono (hassign (w.heap.size + 1) i x v A { tmps := a.tmps.setIfInBounds p v, defers := [] } hx h1 h2 he hfr) ?_
      rintro e a2 A2 hq
      cases e with
      | normal =>
        obtain ⟨hs2, hg2⟩ : St D B A A2 ∧ G v a2 A2 := hq
        have hl2 : A2.heap[w.heap.size + 1]? = some (.loop (rec .ready none)) := (hs2.z (Z := Z)).ext.oth _ _ h3 rfl
        have hx2 := Xt.put (n := w.heap.size) hs2.inv (Nat.le_succ _) hl2 rfl (o' := .loop { rec .ready none with state := .busy }) rfl
        have hb3 : (A2.putObj (w.heap.size + 1) (.loop { rec .ready none with state := .busy })).heap[w.heap.size + 1]? = some (.loop { rec .ready none with state := .busy }) := World.putObj_heap_same (heap_lt hl2)
        refine ⟨_, run_beginRound hl2 (by subst hrec; rfl), ?_⟩
        have hd3 : (A2.putObj (w.heap.size + 1) (.loop { rec .ready none with state := .busy })).heap[w.heap.size]? = some (.deferred (some [])) := (World.putObj_heap_other (by omega)).trans ((hs2.z (Z := Z)).ext.oth _ _ h4 rfl)
        refine wpIn_mono (hbody (w.heap.size + 1) i x v _ a2 hx (hJ _ _ _ (hJ _ _ _ h1 hs2.xt) hx2) ((hz.trans hs2).put hs2.inv hl2 rfl rfl (Nat.le_succ _) (hZ _ (Nat.le_succ _))) (hE _ _ _ _ (hE _ _ _ _ he hs2.xt) hx2) (hG _ _ _ _ hg2 hx2)) ?_
        rintro e' a3 A' hq'
        cases e' with
        | normal =>
          obtain ⟨j1, j2⟩ : J (i + 1) A' ∧ StZ D B Z (A2.putObj (w.heap.size + 1) (.loop { rec .ready none with state := .busy })) A' := hq'
          have hl' := j2.ext.oth _ _ hb3 rfl
          have hx4 := Xt.put (n := w.heap.size) j2.inv (Nat.le_succ _) hl' rfl (o' := .loop (rec .ready none)) rfl
          refine ⟨_, _, run_endRound none hl', true, rfl, .inl ⟨rfl, ⟨?_, ?_, ?_, ?_⟩, ?_⟩⟩
          · subst hrec; exact hJ _ _ _ j1 hx4
          · subst hrec; exact hx4.inv
          · subst hrec; exact World.putObj_heap_same (heap_lt hl')
          · exact (World.putObj_heap_other (by omega)).trans (j2.ext.oth _ _ hd3 rfl)
          · subst hrec; exact StZ.round hs2 j2 h3 rfl rfl (hZ _ (Nat.le_succ _))
        | ret =>
          obtain ⟨j1, j2⟩ : Jr A' ∧ StZ D B Z (A2.putObj (w.heap.size + 1) (.loop { rec .ready none with state := .busy })) A' := hq'
          have hl' := j2.ext.oth _ _ hb3 rfl
          have hx4 := Xt.put (n := w.heap.size) j2.inv (Nat.le_succ _) hl' rfl (o' := .loop (rec .done (some .ret))) rfl
          refine ⟨_, _, run_endRound (some .ret) hl', false, rfl, .inr ⟨rfl, .ret, ⟨rfl, ?_⟩, ?_, ?_, ?_⟩⟩
          · subst hrec; exact hJr _ _ j1 hx4
          · subst hrec; exact hx4.inv
          · subst hrec; exact World.putObj_heap_same (heap_lt hl')
          · exact (World.putObj_heap_other (by omega)).trans (j2.ext.oth _ _ hd3 rfl)
        | exit id => exact absurd hq' (by simp [Qof, lookX])
        | goto t => exact hq'.elim
        | panic c => exact hq'.elim
        | outgrown => exact hq'.elim
      | exit id => exact absurd hq (by simp [Qof, lookX])
      | ret => exact hq.elim
      | goto t => exact hq.elim
      | panic c => exact hq.elim
      | outgrown => exact hq.elim

/-! ### a function's end, with marks -/
theorem leavesM {D : FD} {B m : Nat} {fn : Func} {tmps : Array Value} {v : Value} {Q : Value → World → Prop} : ∀ (ds : List Nat) (w : World), Mk m ds w → Inv D B w → (∀ w2, (results fn tmps).run P w2 = .ok v w2) → (∀ w2, Xt D B m w w2 → Q v w2) →
    LeavesInM Fence.wide 0 P fn tmps (fun e w' => ∃ u, e = .returned u ∧ Q u w') (ds.map dmark) .returning w
  | [], w, _, hI, hr, hq => ⟨v, hr w, v, rfl, hq w (Xt.refl hI)⟩
  | d :: ds, w, hM, hI, hr, hq => by
    obtain ⟨h1, h2⟩ := hM.2 d (by simp)
    have hx := Xt.put (n := m) hI h1 h2 rfl (o' := .deferred none) rfl
    refine ⟨by simp, .inl ⟨d, w.putObj d (.deferred none), rfl, run_takeDeferred h2, leavesM ds _ ⟨(List.nodup_cons.1 hM.1).2, fun k hk => ?_⟩ hx.inv hr (fun w2 h => hq w2 (hx.trans h))⟩⟩
    have hne : k ≠ d := fun e => (List.nodup_cons.1 hM.1).1 (e ▸ hk)
    exact ⟨(hM.2 k (by simp [hk])).1, (World.putObj_heap_other hne).trans (hM.2 k (by simp [hk])).2⟩

theorem enterMG {D : FD} {B : Nat} {f : FuncId} {fn : Func} {c : Code} {vs : List Value} {Q : Value → World → Prop} {n : NN} {F : Fs} (m : Nat) (E : Kont) (hf : P.funcs[f]? = some fn) (hb : fn.body = some c) (hn : n = ⟨fn.ntmps, []⟩) (hle : Nat.ble vs.length n.n = true) (hF : F = idx vs 0)
    (hE : ∀ a w, E a w → ∃ ds v, a.defers = ds.map dmark ∧ Mk m ds w ∧ Inv D B w ∧ (∀ w2, (results fn a.tmps).run P w2 = .ok v w2) ∧ ∀ w2, Xt D B m w w2 → Q v w2) (h : ∀ a, Fr n F a → W P c E [] E a w) : Ret P f vs w Q := by
  refine callsIn_wide.1 (callsIn_of_wp_marks (F := Fence.wide) (n := 0) hf hb trivial (wpIn_mono (WI_of (h _ ⟨by have := Nat.le_of_ble_eq_true hle; subst hn; simp at this ⊢; omega, by subst hn; rfl, fun i v hv => ?_⟩)) ?_) rfl)
  · rw [hF] at hv
    obtain ⟨k, hk, h1⟩ := look_idx vs 0 i v hv
    rw [show i = k from by omega]
    have h2 : k < vs.length := (List.getElem?_eq_some_iff.1 h1).1
    rw [Array.getElem?_append_left (by simpa using h2)]
    simpa using h1
  · intro e a w hq
    have key : ∀ a w, E a w → LeavesInM Fence.wide 0 P fn a.tmps (fun e w' => ∃ u, e = .returned u ∧ Q u w') a.defers .returning w := fun a w he => by
      obtain ⟨ds, v, h1, h2, h3, h4, h5⟩ := hE a w he
      rw [h1]
      exact leavesM ds w h2 h3 h4 h5
    cases e with
    | normal => exact key a w hq
    | ret => exact key a w hq
    | exit i => simp [Qof, lookX] at hq
    | goto l => exact hq.elim
    | panic c => exact hq.elim
    | outgrown => exact hq.elim

theorem enterM {D : FD} {B : Nat} {f : FuncId} {fn : Func} {c : Code} {vs : List Value} {Q : Value → World → Prop} (m : Nat) (n : NN) (F : Fs) (t : Nat) (hf : P.funcs[f]? = some fn) (hb : fn.body = some c) (hn : n = ⟨fn.ntmps, []⟩) (hr : fn.results = #[.tmp t]) (hle : Nat.ble vs.length n.n = true) (hF : F = idx vs 0)
    (h : ∀ a, Fr n F a → W P c (fun a w => ∃ ds F' v, Mk m ds w ∧ Inv D B w ∧ Fr ⟨n.n, ds⟩ F' a ∧ look F' t = some v ∧ ∀ w2, Xt D B m w w2 → Q v w2) [] (fun a w => ∃ ds F' v, Mk m ds w ∧ Inv D B w ∧ Fr ⟨n.n, ds⟩ F' a ∧ look F' t = some v ∧ ∀ w2, Xt D B m w w2 → Q v w2) a w) : Ret P f vs w Q := by
  refine enterMG (D := D) (B := B) m _ hf hb hn hle hF (fun a w ⟨ds, F', v, hM, hI, hF', hl, hq⟩ => ⟨ds, v, hF'.defers, hM, hI, fun w2 => ?_, hq⟩) h
  have hv := hF'.val t v hl
  simp [results, hr, Array.getD_eq_getD_getElem?, hv]
theorem enterM2 {D : FD} {B : Nat} {f : FuncId} {fn : Func} {c : Code} {vs : List Value} {Q : Value → World → Prop} (m : Nat) (n : NN) (F : Fs) (t s : Nat) (hf : P.funcs[f]? = some fn) (hb : fn.body = some c) (hn : n = ⟨fn.ntmps, []⟩) (hr : fn.results = #[.tmp t, .tmp s]) (hle : Nat.ble vs.length n.n = true) (hF : F = idx vs 0)
    (h : ∀ a, Fr n F a → W P c (fun a w => ∃ ds F' v u, Mk m ds w ∧ Inv D B w ∧ Fr ⟨n.n, ds⟩ F' a ∧ look F' t = some v ∧ look F' s = some u ∧ ∀ w2, Xt D B m w w2 → Q (.tuple #[v, u]) w2) []
      (fun a w => ∃ ds F' v u, Mk m ds w ∧ Inv D B w ∧ Fr ⟨n.n, ds⟩ F' a ∧ look F' t = some v ∧ look F' s = some u ∧ ∀ w2, Xt D B m w w2 → Q (.tuple #[v, u]) w2) a w) : Ret P f vs w Q := by
  refine enterMG (D := D) (B := B) m _ hf hb hn hle hF (fun a w ⟨ds, F', v, u, hM, hI, hF', hl, hk, hq⟩ => ⟨ds, _, hF'.defers, hM, hI, fun w2 => ?_, hq⟩) h
  have hv := hF'.val t v hl
  have hu := hF'.val s u hk
  simp [results, hr, Array.getD_eq_getD_getElem?, hv, hu]
end
end Go.Gam
