/- Texts of the claim TopUpdates (part 5), put together in the order of their imports. -/
import Derived.Test.YtoabojbpeafdkaaGreatDoorKTopUpdates2
import Derived.Test.YtoabojbpeafdkaaGreatDoorKTopUpdates4
import Derived.RangeFuncNested
import Derived.RangeFuncLeaves
import Derived.TacticsIn
import Derived.OrdersIn
import Derived.Scope
import Derived.Deep.WholeRow
import Derived.Laws.Tables
import Derived.MapKept
set_option linter.all false
set_option maxRecDepth 100000
set_option maxHeartbeats 1000000
/- Ranges over functions: what a round may turn, an iterator's contract, the statement's rule, a function's end with marks. No program in sight. -/
namespace Go.Gam
open Go
theorem notT_nc {D : FD} {w : World} {k : Nat} {o : Obj} (h : w.heap[k]? = some o) (ho : o.isCells = false) : notT D w k := by
 intro c fr e
 rw [h] at e
 obtain rfl := Option.some.inj e
 cases ho
structure Xt (D : FD) (B n : Nat) (w w' : World) : Prop where
 os : w'.os = w.os
 tape : w'.tape = w.tape
 output : w'.output = w.output
 size : w.heap.size ≤ w'.heap.size
 keep : ∀ k, k < w.heap.size → (k < n ∨ ∃ c e fr, w.heap[k]? = some (.cells c e fr)) → (k < B ∨ notT D w k) → w'.heap[k]? = w.heap[k]?
 fld : ∀ k wb p, FOK D B w k wb p → FOK D B w' k wb p
 priv : ∀ b, b < w.heap.size → Priv D B w b → Priv D B w' b
 made : ∀ k wb p ge gl, Made D B w k wb p ge gl → Made D B w' k wb p ge gl
 inv : Inv D B w'
theorem St.xt {D : FD} {B n : Nat} {w w' : World} (h : St D B w w') : Xt D B n w w' :=
 ⟨h.ext.os, h.ext.tape, h.ext.output, h.ext.size, fun k hk _ hc => h.ext.keep k hk hc, h.ext.fld, h.ext.priv, h.ext.made, h.inv⟩
def SameC (w w' : World) : Prop := ∀ (k : Nat) (c : Array Value) (e : TypeId) (fr : Nat × Nat), (w.heap[k]? = some (Obj.cells c e fr)) ↔ (w'.heap[k]? = some (Obj.cells c e fr))
theorem SameC.tab {w w' : World} (h : SameC w w') {E B : Nat} {v : Value} {xs : List Value} (ht : Tab E B w v xs) : Tab E B w' v xs := by
 obtain ⟨g, h1, h2, h3⟩ := ht
 exact ⟨g, h1, h2, (h _ _ _ _).1 h3⟩
theorem SameC.fok {D : FD} {B : Nat} {w w' : World} (h : SameC w w') {k wb p : Nat} (hf : FOK D B w k wb p) : FOK D B w' k wb p := by
 obtain ⟨hB, hf | ⟨e, l, h1, h2, h3⟩⟩ := hf
 · exact ⟨hB, .inl ((h _ _ _ _).1 hf)⟩
 exact ⟨hB, .inr ⟨e, l, (h _ _ _ _).1 h1, h.tab h2, h.tab h3⟩⟩
theorem SameC.made {D : FD} {B : Nat} {w w' : World} (h : SameC w w') {k wb p ge gl : Nat} (hf : Made D B w k wb p ge gl) : Made D B w' k wb p ge gl := by
 obtain ⟨hB, h1, h2, h3⟩ := hf
 exact ⟨hB, (h _ _ _ _).1 h1, h.tab h2, h.tab h3⟩
theorem SameC.priv {D : FD} {B : Nat} {w w' : World} (h : SameC w w') {b : Nat} (hp : Priv D B w b) : Priv D B w' b :=
 fun k hk c fr hc => hp k hk c fr ((h _ _ _ _).2 hc)
theorem SameC.inv {D : FD} {B : Nat} {w w' : World} (h : SameC w w') (hs : w.heap.size ≤ w'.heap.size) (hI : Inv D B w) : Inv D B w' :=
 ⟨Nat.le_trans hI.1 hs, fun k hk c fr hc => let ⟨wb, p, hf⟩ := hI.2 k hk c fr ((h _ _ _ _).2 hc); ⟨wb, p, h.fok hf⟩⟩
theorem sameC_put {w : World} {l : Nat} {o o' : Obj} (h : w.heap[l]? = some o) (ho : o.isCells = false) (ho' : o'.isCells = false) : SameC w (w.putObj l o') := by
 intro k c e fr
 by_cases hk : k = l
 ·
  subst hk
  rw [World.putObj_heap_same (heap_lt h), h]
  constructor
  · intro hh; obtain rfl := Option.some.inj hh; cases ho
  intro hh; obtain rfl := Option.some.inj hh; cases ho'
 rw [World.putObj_heap_other hk]
theorem sameC_new {w : World} {o : Obj} (ho : o.isCells = false) : SameC w (w.alloc o) := by
 intro k c e fr
 by_cases hk : k < w.heap.size
 · rw [RowKit.Below.heap_alloc w o k hk]
 constructor
 · intro hh; exact absurd (heap_lt hh) hk
 intro hh
 have h1 := heap_lt hh
 have h2 : (w.alloc o).heap.size = w.heap.size + 1 := by simp
 have : k = w.heap.size := by omega
 subst this
 rw [alloc_new] at hh
 obtain rfl := Option.some.inj hh
 cases ho
theorem Xt.put {D : FD} {B n : Nat} {w : World} {l : Nat} {o o' : Obj} (hI : Inv D B w) (hn : n ≤ l) (h : w.heap[l]? = some o) (ho : o.isCells = false) (ho' : o'.isCells = false) : Xt D B n w (w.putObj l o') := by
 have hs := sameC_put h ho ho'
 refine ⟨rfl, rfl, rfl, by simp, fun k hk hc _ => ?_, fun _ _ _ => hs.fok, fun _ _ => hs.priv, fun _ _ _ _ _ => hs.made, hs.inv (by simp) hI⟩
 refine World.putObj_heap_other ?_
 rintro rfl
 rcases hc with hc | ⟨c, e, fr, hc⟩
 · omega
 rw [h] at hc; obtain rfl := Option.some.inj hc; cases ho
theorem St.new {D : FD} {B : Nat} {w : World} {o : Obj} (hI : Inv D B w) (ho : o.isCells = false) : St D B w (w.alloc o) := by
 have hs := sameC_new (w := w) ho
 exact ⟨⟨rfl, rfl, rfl, by simp, fun k hk _ => RowKit.Below.heap_alloc w o k hk, fun _ _ _ => hs.fok, fun _ _ => hs.priv, fun _ _ _ _ _ => hs.made⟩, hs.inv (by simp) hI⟩
theorem Xt.refl {D : FD} {B n : Nat} {w : World} (hI : Inv D B w) : Xt D B n w w := (St.refl hI).xt
theorem Xt.trans {D : FD} {B n : Nat} {a b c : World} (h : Xt D B n a b) (k : Xt D B n b c) : Xt D B n a c := by
 refine ⟨k.os.trans h.os, k.tape.trans h.tape, k.output.trans h.output, Nat.le_trans h.size k.size, fun i hi h1 h2 => ?_, fun i wb p hf => k.fld i wb p (h.fld i wb p hf), fun b hb hp => k.priv b (Nat.lt_of_lt_of_le hb h.size) (h.priv b hb hp), fun i wb p e l hf => k.made i wb p e l (h.made i wb p e l hf), k.inv⟩
 have e := h.keep i hi h1 h2
 exact (k.keep i (Nat.lt_of_lt_of_le hi h.size) (h1.imp id fun ⟨c, t, fr, hc⟩ => ⟨c, t, fr, e.trans hc⟩) (h2.imp id (notT_of e))).trans e
theorem Row.xt {D : FD} {B n M : Nat} {w w' : World} {v : Value} {xs : List Value} (h : Row D B M w v xs) (hs : Xt D B n w w') : Row D B M w' v xs := by
 rcases h with h | ⟨g, o, cap, rfl, h0, h1, h2, h3, h4⟩
 · exact .inl h
 by_cases hx : xs = []
 · subst hx; exact .inl ⟨_, _, rfl, rfl⟩
 obtain ⟨u, hu⟩ : ∃ u, xs[0]? = some u := ⟨_, List.getElem?_eq_getElem (List.length_pos_iff.2 hx)⟩
 have hc := h4 0 u hu
 have hcell : ∃ c e fr, w.heap[g]? = some (.cells c e fr) := by
  unfold World.cell? at hc
  split at hc
  · rename_i c e fr hh; exact ⟨c, e, fr, hh⟩
  cases hc
 have hk := hs.keep g h3 (.inr hcell) h2
 exact .inr ⟨g, o, cap, rfl, h0, h1, h2.imp id (notT_of hk), Nat.lt_of_lt_of_le h3 hs.size, fun i u hu => (cell_of_heap hk).trans (h4 i u hu)⟩
theorem Own.xt {D : FD} {B n N : Nat} {w w' : World} {E : TypeId} {v : Value} {b : Option Nat} {xs : List Value} (h : Own D B N w E v b xs) (hE : E ≠ D.T) (hs : Xt D B n w w') : Own D B N w' E v b xs := by
 rcases h with h | ⟨g, cap, cur, rfl, rfl, h1, hB, h2, h3, h4, h5, h6, h7⟩
 · exact .inl h
 refine .inr ⟨g, cap, cur, rfl, rfl, h1, hB, ?_, h3, h4, h5, h6, hs.priv g (heap_lt h2) h7⟩
 rw [hs.keep g (heap_lt h2) (.inr ⟨_, _, _, h2⟩) (.inr fun c fr e => by rw [h2] at e; exact hE (Obj.cells.inj (Option.some.inj e)).2.1)]
 exact h2
theorem Blk.xt {D : FD} {B n : Nat} {w w' : World} {g : Nat} {E : TypeId} {cs : List Value} (h : Blk w g E cs) (hE : E ≠ D.T) (hs : Xt D B n w w') : Blk w' g E cs := by
 unfold Blk at *
 rw [hs.keep g (heap_lt h) (.inr ⟨_, _, _, h⟩) (.inr fun c fr e => by rw [h] at e; exact hE (Obj.cells.inj (Option.some.inj e)).2.1)]
 exact h
theorem St.thenX {D : FD} {B n : Nat} {a b c : World} (h : St D B a b) (k : Xt D B n b c) (hn : a.heap.size ≤ n) : St D B a c := by
 refine ⟨⟨k.os.trans h.ext.os, k.tape.trans h.ext.tape, k.output.trans h.ext.output, Nat.le_trans h.ext.size k.size, fun i hi hc => ?_, fun i wb p hf => k.fld i wb p (h.ext.fld i wb p hf), fun b hb hp => k.priv b (Nat.lt_of_lt_of_le hb h.ext.size) (h.ext.priv b hb hp), fun i wb p e l hf => k.made i wb p e l (h.ext.made i wb p e l hf)⟩, k.inv⟩
 have e := h.ext.keep i hi hc
 exact (k.keep i (Nat.lt_of_lt_of_le hi h.ext.size) (.inl (by omega)) (hc.imp id (notT_of e))).trans e
structure ExtZ (D : FD) (B : Nat) (Z : Nat → Prop) (w w' : World) : Prop where
 os : w'.os = w.os
 tape : w'.tape = w.tape
 output : w'.output = w.output
 size : w.heap.size ≤ w'.heap.size
 keep : ∀ k, k < w.heap.size → ¬ Z k → (k < B ∨ notT D w k) → w'.heap[k]? = w.heap[k]?
 oth : ∀ (k : Nat) (o : Obj), w.heap[k]? = some o → o.isCells = false → w'.heap[k]? = some o
 fld : ∀ k wb p, FOK D B w k wb p → FOK D B w' k wb p
 priv : ∀ b, b < w.heap.size → Priv D B w b → Priv D B w' b
 made : ∀ k wb p ge gl, Made D B w k wb p ge gl → Made D B w' k wb p ge gl
structure StZ (D : FD) (B : Nat) (Z : Nat → Prop) (w w' : World) : Prop where
 ext : ExtZ D B Z w w'
 inv : Inv D B w'
theorem St.z {D : FD} {B : Nat} {Z : Nat → Prop} {w w' : World} (h : St D B w w') : StZ D B Z w w' :=
 ⟨⟨h.ext.os, h.ext.tape, h.ext.output, h.ext.size, fun k hk _ hc => h.ext.keep k hk hc, fun k o hk ho => (h.ext.keep k (heap_lt hk) (.inr (notT_nc hk ho))).trans hk, h.ext.fld, h.ext.priv, h.ext.made⟩, h.inv⟩
theorem StZ.refl {D : FD} {B : Nat} {Z : Nat → Prop} {w : World} (h : Inv D B w) : StZ D B Z w w := (St.refl h).z
theorem StZ.transZ {D : FD} {B : Nat} {Z : Nat → Prop} {a b c : World} (h : StZ D B Z a b) (k : StZ D B Z b c) : StZ D B Z a c := by
 refine ⟨⟨k.ext.os.trans h.ext.os, k.ext.tape.trans h.ext.tape, k.ext.output.trans h.ext.output, Nat.le_trans h.ext.size k.ext.size, fun i hi hz hc => ?_, fun i o hi ho => k.ext.oth i o (h.ext.oth i o hi ho) ho, fun i wb p hf => k.ext.fld i wb p (h.ext.fld i wb p hf), fun b hb hp => k.ext.priv b (Nat.lt_of_lt_of_le hb h.ext.size) (h.ext.priv b hb hp), fun i wb p e l hf => k.ext.made i wb p e l (h.ext.made i wb p e l hf)⟩, k.inv⟩
 have e := h.ext.keep i hi hz hc
 exact (k.ext.keep i (Nat.lt_of_lt_of_le hi h.ext.size) hz (hc.imp id (notT_of e))).trans e
theorem StZ.trans {D : FD} {B : Nat} {Z : Nat → Prop} {a b c : World} (h : StZ D B Z a b) (k : St D B b c) : StZ D B Z a c := h.transZ k.z
theorem StZ.mb {D : FD} {B : Nat} {Z : Nat → Prop} {b : Option Nat} {w0 w w' : World} (hs : StZ D B Z w0 w) (h : Mb D B b w w') (hb : ∀ k, b = some k → Z k ∧ ∃ c e fr, w.heap[k]? = some (.cells c e fr)) : StZ D B Z w0 w' := by
 refine hs.transZ ⟨⟨h.os, h.tape, h.output, h.size, fun k hk hz _ => h.keep k hk (fun e => hz (hb k e.symm).1), fun k o hk ho => (h.keep k (heap_lt hk) (fun e => ?_)).trans hk, fun _ _ _ => h.fok, fun _ _ => h.priv, fun _ _ _ _ _ => h.made⟩, h.inv hs.inv⟩
 obtain ⟨c, e', fr, hc⟩ := (hb k e.symm).2
 rw [hk] at hc
 obtain rfl := Option.some.inj hc
 cases ho
theorem StZ.mb0 {D : FD} {B : Nat} {Z : Nat → Prop} {w0 w w' : World} (hs : StZ D B Z w0 w) (h : Mb D B none w w') : StZ D B Z w0 w' := hs.mb h (fun k e => by cases e)
theorem StZ.weak {D : FD} {B : Nat} {Z Z' : Nat → Prop} {w w' : World} (h : StZ D B Z w w') (hz : ∀ k, Z k → Z' k) : StZ D B Z' w w' :=
 ⟨⟨h.ext.os, h.ext.tape, h.ext.output, h.ext.size, fun k hk hn hc => h.ext.keep k hk (fun hh => hn (hz k hh)) hc, h.ext.oth, h.ext.fld, h.ext.priv, h.ext.made⟩, h.inv⟩
theorem Row.stz {D : FD} {B M : Nat} {Z : Nat → Prop} {w w' : World} {v : Value} {xs : List Value} (h : Row D B M w v xs) (hs : StZ D B Z w w') (hz : ∀ k, k < M → ¬ Z k) : Row D B M w' v xs := by
 rcases h with h | ⟨g, o, cap, rfl, h0, h1, h2, h3, h4⟩
 · exact .inl h
 have hk := hs.ext.keep g h3 (hz g h1) h2
 exact .inr ⟨g, o, cap, rfl, h0, h1, h2.imp id (notT_of hk), Nat.lt_of_lt_of_le h3 hs.ext.size, fun i u hu => (cell_of_heap hk).trans (h4 i u hu)⟩
abbrev FW (r : Option Nat) : Fence := { Fence.wide with round := r }
section
variable {P : Program} {r : Option Nat}
theorem opIn_of {o : Oper} {a : Act} {w : World} {next : Act → World → Prop} {Q : Exit → Act → World → Prop} (hnd : ∀ c, o.op ≠ .defer c) (h : o.wp P a w next Q) : o.wpIn (FW r) 0 P a w next Q := by
 refine ⟨fun _ _ => trivial, ?_⟩
 rw [Oper.semAt_eq _ _ _ hnd]
 unfold Oper.wp at h
 cases hr : (execOp a.eval o).run P w with
 | ok nx w' =>
  rw [hr] at h
  cases nx <;> simp only [Oper.upon, Oper.uponIn] at h ⊢ <;> try exact h
  · exact ⟨fun hd => by simp [FW, Fence.wide] at hd, Calls.mono h (fun e w'' he => by cases e <;> exact he) |> callsIn_wide.2⟩
  · exact ⟨fun hd => by simp [FW, Fence.wide] at hd, fun c cs _ => let ⟨v, w1, h1, h2⟩ := h c cs; ⟨v, w1, h1, stepsIn_wide.2 h2⟩⟩
  all_goals exact h.elim
 | halt x w' =>
  rw [hr] at h
  cases x <;> simp only [Oper.upon, Oper.uponIn] at h ⊢ <;> exact h
def noDefer (ops : List Oper) : Bool := ops.all fun o => match o.op with | .defer _ => false | _ => true
theorem noDefer_op {ops : List Oper} (h : noDefer ops = true) {o : Oper} (ho : o ∈ ops) : ∀ c, o.op ≠ .defer c := by
 intro c e
 have := List.all_eq_true.1 h o ho
 rw [e] at this
 cases this
theorem listIn_of {ops : Array Oper} {Q : Exit → Act → World → Prop} (hno : ¬ LetsOut Q) : ∀ (l : List Oper) (a : Act) (w : World), noDefer l = true → wpList P ops Q l a w → wpListIn (FW r) 0 P ops Q l a w
 | [], a, w, _, h => h
 | o :: rest, a, w, hd, h => by
  have hd2 : noDefer rest = true := by simp only [noDefer, List.all_cons, Bool.and_eq_true] at hd ⊢; exact hd.2
  have ih := fun a w => listIn_of (ops := ops) hno rest a w hd2
  unfold wpListIn
  unfold wpList at h
  split
  ·
   rename_i hw
   rw [if_pos hw] at h
   rcases h with h | ⟨_, h⟩
   · exact Oper.wpIn_mono ih (opIn_of (noDefer_op hd (by simp)) h)
   exact absurd h hno
  rename_i hw
  rw [if_neg hw] at h
  exact ⟨fun _ _ => trivial, ih _ _ h⟩
theorem opsIn_of {ops : Array Oper} {Q : Exit → Act → World → Prop} (hno : ¬ LetsOut Q) (hd : noDefer ops.toList = true) : ∀ (l : List Nat) (a : Act) (w : World), wpOps P ops Q l a w → wpOpsIn (FW r) 0 P ops Q l a w
 | [], a, w, h => h
 | i :: rest, a, w, h => by
  have ih := opsIn_of hno hd rest
  unfold wpOpsIn
  unfold wpOps at h
  cases ho : ops[i]? with
  | none => rw [ho] at h; exact ih a w h
  | some o =>
   rw [ho] at h
   simp only at h ⊢
   split
   ·
    rename_i hw
    rw [if_pos hw] at h
    rcases h with h | ⟨_, h⟩
    · refine Oper.wpIn_mono ih (opIn_of (noDefer_op hd ?_) h)
      rw [← Array.getElem?_toList] at ho
      exact List.mem_of_getElem? ho
    exact absurd h hno
   rename_i hw
   rw [if_neg hw] at h
   exact ⟨fun _ _ => trivial, ih _ _ h⟩
def WI (P : Program) (r : Option Nat) (c : Code) (N : Kont) (X : List (Nat × Kont)) (R : Kont) (a : Act) (w : World) : Prop := c.wpIn (FW r) 0 P (Qof N X R) a w
variable {N : Kont} {X : List (Nat × Kont)} {R : Kont} {a : Act} {w : World}
theorem W_of {c : Code} (h : WI P none c N X R a w) : W P c N X R a w := wpIn_wide.1 h
theorem WI_of {c : Code} (h : W P c N X R a w) : WI P none c N X R a w := wpIn_wide.2 h
theorem qof_no : ¬ LetsOut (Qof N X R) := fun ⟨_, _, h⟩ => h
namespace Rd
variable {l : Nat}
theorem W_seq {x y : Code} (h : WI P r x (fun a w => WI P r y N X R a w) X R a w) : WI P r (.seq x y) N X R a w :=
 wpIn_seq (wpIn_mono h fun e a w hq => by cases e <;> exact hq)
theorem W_block {id : Nat} {c : Code} (h : WI P r c N ((id, N) :: X) R a w) : WI P r (.block id c) N X R a w :=
 wpIn_block (wpIn_mono h fun e a w hq => by
  cases e with
  | exit i =>
   simp only [Exit.inBlock]
   simp only [Qof, lookX] at hq
   by_cases e : i = id
   · subst e; rw [if_pos rfl]; simp only [Nat.beq_refl, cond_true] at hq; exact hq
   rw [if_neg e]
   have hb : Nat.beq id i = false := by
    cases hb : Nat.beq id i with
    | false => rfl
    | true => exact absurd (Nat.eq_of_beq_eq_true hb).symm e
   rw [hb] at hq
   simpa [Qof] using hq
  | normal => exact hq
  | ret => exact hq
  | goto l => exact hq
  | panic c => exact hq
  | outgrown => exact hq)
theorem W_skip (h : N a w) : WI P r .skip N X R a w := wpIn_skip h
theorem W_if {n : NN} {F : Fs} {c : Operand} {x y : Code} {b : Bool} (hF : Fr n F a) (hc : ev F c = some (.bool b)) (ht : b = true → WI P r x N X R a w) (hf : b = false → WI P r y N X R a w) :
  WI P r (.cond c x y) N X R a w := wpIn_cond_split (hF.eval hc) ht hf
theorem qof_reg {K : Kont} : ∀ e a w, Qof K [] (fun _ _ => False) e a w → Qof K X R e a w := fun e a w hq => by
 cases e with
 | exit i => simp [Qof, lookX] at hq
 | normal => exact hq
 | ret => exact hq.elim
 | goto l => exact hq.elim
 | panic c => exact hq.elim
 | outgrown => exact hq.elim
theorem W_reg {id : Nat} {ops : Array Oper} {l : List Oper} (hl : ops.toList = l) (hd : noDefer l = true) (h : ∀ K : Kont, (∀ a w, N a w → K a w) → WL P ops K l a w) : WI P r (.region id ops false) N X R a w :=
 wpIn_mono (wpIn_region_list (by rw [hl]; exact listIn_of qof_no l a w hd (h N (fun _ _ h => h)))) (qof_reg)
theorem W_sr {id : Nat} {ops : Array Oper} {l : List Oper} {y : Code} (hl : ops.toList = l) (hd : noDefer l = true) (h : ∀ K : Kont, (∀ a w, WI P r y N X R a w → K a w) → WL P ops K l a w) :
  WI P r (.seq (.region id ops false) y) N X R a w := W_seq (W_reg hl hd h)
end Rd
def YieldOk (P : Program) (l : Nat) (v : Value) (w : World) (R : Bool → World → Prop) : Prop :=
 ∃ fn tmps assign body, (Instr.yield l #[v]).run P w = .ok (.round l fn tmps assign body) w ∧ RoundIn Fence.wide 0 P l fn tmps assign body w fun e w' => ∃ b, e = .returned (.bool b) ∧ R b w'
theorem YieldOk.mono {l : Nat} {v : Value} {R R' : Bool → World → Prop} (h : YieldOk P l v w R) (hr : ∀ b w', R b w' → R' b w') : YieldOk P l v w R' := by
 obtain ⟨fn, t, x, y, h1, h2⟩ := h
 exact ⟨fn, t, x, y, h1, h2.mono fun e w' ⟨b, h3, h4⟩ => ⟨b, h3, hr _ _ h4⟩⟩
section
variable {ops : Array Oper} {K : Kont} {rest : List Oper} {n : NN} {F : Fs} {op : Op} {T : TypeId} {pp : String} {af : Array Edge} {v : Value} {d : Nat}
def WLI (P : Program) (r : Option Nat) (ops : Array Oper) (K : Kont) (l : List Oper) (a : Act) (w : World) : Prop := wpListIn (FW r) 0 P ops (Qof K [] (fun _ _ => False)) l a w
theorem WLI_of {l : List Oper} (hd : noDefer l = true) (h : WL P ops K l a w) : WLI P r ops K l a w := listIn_of qof_no l a w hd h
theorem svI (hF : Fr n F a) (hnd : noDefer [⟨some d, op, T, pp, af, none⟩] = true) (hv : Val P op T F w v) (hd : Nat.blt d n.n = true) (k : ∀ a, Fr n ((d, v) :: F) a → WLI P r ops K rest a w) :
  WLI P r ops K (⟨some d, op, T, pp, af, none⟩ :: rest) a w := by
 unfold WLI wpListIn
 rw [if_pos (by simp [Region.wanted])]
 refine opIn_of (noDefer_op hnd (by simp)) ?_
 unfold Oper.wp
 rw [hv a.eval hF.reads]
 exact k _ (hF.put hd)
theorem syI {l : Nat} {x y : Operand} {ats : Array TypeId} (hF : Fr n F a) (hx : ev F x = some (.func (.yield l) #[] #[])) (hy : ev F y = some v) (hd : Nat.blt d n.n = true)
  (h : YieldOk P l v w fun b w' => ∀ a, Fr n ((d, .bool b) :: F) a → WLI P r ops K rest a w') : WLI P r ops K (⟨some d, .call ⟨.value x, #[y], ats⟩, T, pp, af, none⟩ :: rest) a w := by
 obtain ⟨fn, tmps, assign, body, h1, h2⟩ := h
 unfold WLI wpListIn
 rw [if_pos (by simp [Region.wanted])]
 refine ⟨fun _ _ => trivial, ?_⟩
 rw [Oper.semAt_eq _ _ _ (by intro c e; cases e)]
 have hrun : (execOp a.eval ⟨some d, .call ⟨.value x, #[y], ats⟩, T, pp, af, none⟩).run P w = .ok (.round l fn tmps assign body) w := by
  simp [execOp, resolve, invoke, Deferred.ofValue, hF.reads x _ hx, hF.reads y _ hy, h1]
 rw [hrun]
 simp only [Oper.uponIn]
 refine ⟨fun hd => by simp [FW, Fence.wide] at hd, RoundIn.mono (F := FW r) h2 ?_⟩
 rintro e w' ⟨b, rfl, h3⟩
 exact h3 _ (hF.put hd)
theorem W_srY {id : Nat} {l : List Oper} {y : Code} (hl : ops.toList = l) (h : ∀ K : Kont, (∀ a w, W P y N X R a w → K a w) → WLI P none ops K l a w) :
  W P (.seq (.region id ops false) y) N X R a w := W_seq (W_of (wpIn_mono (wpIn_region_list (by rw [hl]; exact h _ (fun _ _ h => h))) Rd.qof_reg))
end
def Seq (P : Program) (D : FD) (B : Nat) {α : Type} (gf : FuncId) (lb : List Value) (enc : α → World → Value → Prop) (xs : List α) (Z : Nat → Prop) (w0 : World) : Prop :=
 ∀ (l : Nat) (J Jx : Nat → World → Prop) (W : World), w0.heap.size ≤ l → St D B w0 W →
  (∀ i A C, J i A → St D B A C → J i C) →
  (∀ i x v A, xs[i]? = some x → J i A → StZ D B Z w0 A → enc x A v → YieldOk P l v A fun b A' => (b = true ∧ J (i + 1) A' ∧ StZ D B Z A A') ∨ (b = false ∧ Jx (i + 1) A')) →
  J 0 W → Calls P gf (#[.func (.yield l) #[] #[]] ++ lb.toArray) W fun e A' => ∃ v, e = .returned v ∧ ((J xs.length A' ∧ StZ D B Z w0 A') ∨ ∃ i, Jx i A')
def Mk (n : Nat) (ds : List Nat) (w : World) : Prop := ds.Nodup ∧ ∀ D ∈ ds, n ≤ D ∧ w.heap[D]? = some (.deferred (some []))
theorem Mk.nil (n : Nat) (w : World) : Mk n [] w := ⟨List.nodup_nil, fun _ h => by cases h⟩
theorem Mk.st {D : FD} {B n : Nat} {ds : List Nat} {w w' : World} (h : Mk n ds w) (hs : St D B w w') : Mk n ds w' :=
 ⟨h.1, fun k hk => ⟨(h.2 k hk).1, (hs.ext.keep k (heap_lt (h.2 k hk).2) (.inr (notT_nc (h.2 k hk).2 rfl))).trans (h.2 k hk).2⟩⟩
theorem Mk.mb {D : FD} {B n : Nat} {b : Option Nat} {ds : List Nat} {w w' : World} (h : Mk n ds w) (hm : Mb D B b w w') (hb : ∀ k, b = some k → ∃ c e fr, w.heap[k]? = some (.cells c e fr)) : Mk n ds w' :=
 ⟨h.1, fun k hk => ⟨(h.2 k hk).1, (hm.keep k (heap_lt (h.2 k hk).2) (fun e => by obtain ⟨c, e', fr, hc⟩ := hb k e.symm; rw [(h.2 k hk).2] at hc; cases hc)).trans (h.2 k hk).2⟩⟩
theorem Mk.cons {D : FD} {B n : Nat} {ds : List Nat} {w w' : World} (h : Mk n ds w) {d : Nat} (hd : w.heap.size ≤ d) (hn : n ≤ w.heap.size) (h' : Mk n ds w') (hw : w'.heap[d]? = some (.deferred (some []))) : Mk n (d :: ds) w' := by
 refine ⟨List.nodup_cons.2 ⟨fun hm => ?_, h.1⟩, fun k hk => ?_⟩
 · have := heap_lt (h.2 d hm).2; omega
 rcases List.mem_cons.1 hk with rfl | hk
 · exact ⟨by omega, hw⟩
 exact h'.2 k hk
theorem Own.isrow {D : FD} {B n : Nat} {w : World} {E : TypeId} {v : Value} {b : Option Nat} {xs : List Value} (h : Own D B n w E v b xs) : ∀ k, b = some k → ∃ c e fr, w.heap[k]? = some (.cells c e fr) := by
 rintro k rfl
 rcases h with ⟨_, h, _⟩ | ⟨g, cap, cur, rfl, hb, h1, hB, h2, h3⟩
 · cases h
 obtain rfl := Option.some.inj hb
 exact ⟨_, _, _, h2⟩
theorem StZ.put {D : FD} {B : Nat} {Z : Nat → Prop} {w A : World} {l : Nat} {o o' : Obj} (h : StZ D B Z w A) (hI : Inv D B A) (hl : A.heap[l]? = some o) (ho : o.isCells = false) (ho' : o'.isCells = false) (hn : w.heap.size ≤ l) (hz : Z l) : StZ D B Z w (A.putObj l o') := by
 have hs := sameC_put hl ho ho'
 refine ⟨⟨h.ext.os, h.ext.tape, h.ext.output, by simpa using h.ext.size, fun k hk hk' hc => ?_, fun k o1 hk ho1 => ?_, fun k wb p hf => hs.fok (h.ext.fld k wb p hf), fun b hb hp => hs.priv (h.ext.priv b hb hp), fun k wb p e g hf => hs.made (h.ext.made k wb p e g hf)⟩, hs.inv (by simp) hI⟩
 · exact (World.putObj_heap_other (show k ≠ l from fun e => hk' (by rw [e]; exact hz))).trans (h.ext.keep k hk hk' hc)
 have := heap_lt hk
 exact (World.putObj_heap_other (by omega)).trans (h.ext.oth k o1 hk ho1)
theorem StZ.round {D : FD} {B : Nat} {Z : Nat → Prop} {A A2 A' : World} {l : Nat} {o1 o2 : Obj} (h : St D B A A2) (h2 : StZ D B Z (A2.putObj l o1) A') (hl : A.heap[l]? = some o2) (ho2 : o2.isCells = false) (ho1 : o1.isCells = false) (hz : Z l) : StZ D B Z A (A'.putObj l o2) := by
 have hl2 : A2.heap[l]? = some o2 := (h.z (Z := Z)).ext.oth l o2 hl ho2
 have hs := sameC_put hl2 ho2 ho1
 have hl3 : (A2.putObj l o1).heap[l]? = some o1 := World.putObj_heap_same (heap_lt hl2)
 have hl4 : A'.heap[l]? = some o1 := h2.ext.oth l o1 hl3 ho1
 have hs4 := sameC_put hl4 ho1 ho2
 refine ⟨⟨h2.ext.os.trans h.ext.os, h2.ext.tape.trans h.ext.tape, h2.ext.output.trans h.ext.output, ?_, fun k hk hk' hc => ?_, fun k o hk ho => ?_, fun k wb p hf => hs4.fok (h2.ext.fld k wb p (hs.fok (h.ext.fld k wb p hf))),
  fun b hb hp => hs4.priv (h2.ext.priv b (by have := h.ext.size; simp; omega) (hs.priv (h.ext.priv b hb hp))), fun k wb p e g hf => hs4.made (h2.ext.made k wb p e g (hs.made (h.ext.made k wb p e g hf)))⟩, hs4.inv (by simp) h2.inv⟩
 · have h1 := h.ext.size; have h3 := h2.ext.size; simp at h3 ⊢; omega
 ·
  have hne : k ≠ l := fun e => hk' (by rw [e]; exact hz)
  have e1 := h.ext.keep k hk hc
  have e2 : (A2.putObj l o1).heap[k]? = A.heap[k]? := (World.putObj_heap_other hne).trans e1
  have e3 := h2.ext.keep k (by have := h.ext.size; simp; omega) hk' (hc.imp id (notT_of e2))
  exact (World.putObj_heap_other hne).trans (e3.trans e2)
 by_cases hne : k = l
 ·
  subst hne
  rw [hl] at hk
  obtain rfl := Option.some.inj hk
  exact World.putObj_heap_same (heap_lt hl4)
 have e1 := (h.z (Z := Z)).ext.oth k o hk ho
 have e2 : (A2.putObj l o1).heap[k]? = some o := (World.putObj_heap_other hne).trans e1
 exact (World.putObj_heap_other hne).trans (h2.ext.oth k o e2 ho)
theorem W_rf {D : FD} {B : Nat} {α : Type} {g : Operand} {p : Tmp} {assign body : Code} {n : NN} {F : Fs} {gf : FuncId} {lb : List Value} {enc : α → World → Value → Prop} {xs : List α} {Z : Nat → Prop}
  (J : Nat → World → Prop) (Jr : World → Prop) (G : Value → Act → World → Prop)
  (hF : Fr n F a) (hg : ev F g = some (.func (.func gf) #[] lb.toArray)) (hp : Nat.blt p n.n = true) (eg : Ent P gf) (hI : Inv D B w)
  (hseq : Seq P D B gf lb enc xs Z w) (hZ : ∀ k, w.heap.size ≤ k → Z k)
  (hJ : ∀ i A C, J i A → Xt D B w.heap.size A C → J i C) (hJr : ∀ A C, Jr A → Xt D B w.heap.size A C → Jr C) (hG : ∀ v a A C, G v a A → Xt D B w.heap.size A C → G v a C)
  (hE : ∀ x v A C, enc x A v → Xt D B w.heap.size A C → enc x C v) (h0 : J 0 w)
  (hassign : ∀ l i x v A a', xs[i]? = some x → J i A → Inv D B A → enc x A v → Fr ⟨n.n, []⟩ ((p, v) :: F) a' → WI P (some l) assign (fun a2 A2 => St D B A A2 ∧ G v a2 A2) [] (fun _ _ => False) a' A)
  (hbody : ∀ l i x v A a2, xs[i]? = some x → J i A → StZ D B Z w A → enc x A v → G v a2 A → WI P (some l) body (fun _ A' => J (i + 1) A' ∧ StZ D B Z A A') [] (fun _ A' => Jr A' ∧ StZ D B Z A A') a2 A)
  (hdone : ∀ a' W, Fr ⟨n.n, w.heap.size :: n.ds⟩ F a' → W.heap[w.heap.size]? = some (.deferred (some [])) → J xs.length W → StZ D B Z w W → N a' W)
  (hret : ∀ a' W, Fr ⟨n.n, w.heap.size :: n.ds⟩ F a' → W.heap[w.heap.size]? = some (.deferred (some [])) → Jr W → Inv D B W → R a' W) :
  W P (.rangeFunc g #[p] assign body) N X R a w := by
 refine W_of (wpIn_rangeFunc fun fn _ => ?_)
 obtain ⟨rec, hrec⟩ : ∃ rec : LoopState → Option Code → Loop, rec = fun st pe => { state := st, pending := pe, fn, tmps := a.tmps, params := #[p], assign, body, defers := w.heap.size } := ⟨_, rfl⟩
 obtain ⟨W1, hW1⟩ : ∃ W1, (w.alloc (.deferred (some []))).alloc (.loop (rec .ready none)) = W1 := ⟨_, rfl⟩
 have hs0 : St D B w (w.alloc (.deferred (some []))) := St.new hI rfl
 have hs1 : St D B w W1 := by rw [← hW1]; exact hs0.trans (St.new hs0.inv rfl)
 have hL1 : W1.heap[w.heap.size + 1]? = some (.loop (rec .ready none)) := by
  rw [← hW1]; have := World.alloc_heap_new (w.alloc (.deferred (some []))) (.loop (rec .ready none)); rwa [World.size_alloc] at this
 have hK1 : W1.heap[w.heap.size]? = some (.deferred (some [])) := by
  rw [← hW1]; exact (RowKit.Below.heap_alloc _ _ _ (by simp)).trans (World.alloc_heap_new w _)
 refine ⟨w.heap.size + 1, [{ target := .collected w.heap.size, args := #[] }], W1, { target := .fn (.func gf) lb.toArray, args := #[.func (.yield (w.heap.size + 1)) #[] #[]] }, W1, gf,
  #[.func (.yield (w.heap.size + 1)) #[] #[]] ++ lb.toArray, W1, ?_, ?_, fun _ _ => trivial, ?_, fun hd => by simp [FW, Fence.wide] at hd, ?_⟩
 · rw [← hW1, hrec]; exact run_enterLoop_outer _ _ _ _ _
 ·
  have := hF.reads g _ hg
  simp [resolve, rangeCall, Deferred.ofValue, Act.eval] at this ⊢
  simp [this]
 ·
  have := eg (#[.func (.yield (w.heap.size + 1)) #[] #[]] ++ lb.toArray) W1
  simp [invoke] at this ⊢
  exact this
 refine callsIn_wide.2 ?_
 have key := hseq (w.heap.size + 1) (fun i A => J i A ∧ Inv D B A ∧ A.heap[w.heap.size + 1]? = some (.loop (rec .ready none)) ∧ A.heap[w.heap.size]? = some (.deferred (some [])))
  (fun i A => ∃ c, (c = .ret ∧ Jr A) ∧ Inv D B A ∧ A.heap[w.heap.size + 1]? = some (.loop (rec .done (some c))) ∧ A.heap[w.heap.size]? = some (.deferred (some [])))
  W1 (by omega) hs1
  (fun i A C ⟨h1, h2, h3, h4⟩ hs => ⟨hJ i A C h1 hs.xt, hs.inv, hs.z (Z := Z) |>.ext.oth _ _ h3 rfl, hs.z (Z := Z) |>.ext.oth _ _ h4 rfl⟩) ?_ ⟨hJ 0 w W1 h0 hs1.xt, hs1.inv, hL1, hK1⟩
 ·
  refine Calls.mono key ?_
  rintro e A' ⟨v, rfl, ⟨⟨h1, h2, h3, h4⟩, hz⟩ | ⟨i, c, ⟨rfl, h1⟩, h2, h3, h4⟩⟩
  ·
   refine ⟨none, _, by subst hrec; exact run_endLoop (P := P) h3 (by simp), ?_⟩
   have hx := Xt.put (n := w.heap.size) h2 (Nat.le_succ _) h3 rfl (o' := .loop { rec .ready none with state := .exhausted }) rfl
   refine hdone _ _ ⟨hF.size, by show _ :: a.defers = _; rw [hF.defers]; rfl, hF.val⟩ ?_ (hJ _ _ _ h1 (by subst hrec; exact hx)) ?_
   · exact (World.putObj_heap_other (by omega)).trans h4
   exact hz.put h2 h3 rfl rfl (Nat.le_succ _) (hZ _ (Nat.le_succ _))
  refine ⟨some .ret, _, by subst hrec; exact run_endLoop (P := P) h3 (by simp), ?_⟩
  have hx := Xt.put (n := w.heap.size) h2 (Nat.le_succ _) h3 rfl (o' := .loop { rec .done (some .ret) with state := .exhausted }) rfl
  refine wpIn_ret (hret _ _ ⟨hF.size, by show _ :: a.defers = _; rw [hF.defers]; rfl, hF.val⟩ ?_ (hJr _ _ h1 (by subst hrec; exact hx)) (by subst hrec; exact hx.inv))
  exact (World.putObj_heap_other (by omega)).trans h4
 rintro i x v A hx ⟨h1, h2, h3, h4⟩ hz he
 have hy := run_yield (P := P) (args := #[v]) h3 (by subst hrec; rfl)
 replace hy : (Instr.yield (w.heap.size + 1) #[v]).run P A = .ok (.round (w.heap.size + 1) fn (a.tmps.setIfInBounds p v) assign body) A := by subst hrec; simpa using hy
 refine ⟨fn, _, assign, body, hy, roundIn_of_wpIn trivial ?_⟩
 have hfr : Fr ⟨n.n, []⟩ ((p, v) :: F) { tmps := a.tmps.setIfInBounds p v, defers := [] } := by
  have := Fr.put (n := ⟨n.n, []⟩) (F := F) (a := { tmps := a.tmps, defers := [] }) (d := p) (v := v) ⟨hF.size, rfl, hF.val⟩ hp
  exact this
 refine wpIn_mono (hassign (w.heap.size + 1) i x v A { tmps := a.tmps.setIfInBounds p v, defers := [] } hx h1 h2 he hfr) ?_
 rintro e a2 A2 hq
 cases e with
 | normal =>
  obtain ⟨hs2, hg2⟩ : St D B A A2 ∧ G v a2 A2 := hq
  have hl2 : A2.heap[w.heap.size + 1]? = some (.loop (rec .ready none)) := (hs2.z (Z := Z)).ext.oth _ _ h3 rfl
  have hx2 := Xt.put (n := w.heap.size) hs2.inv (Nat.le_succ _) hl2 rfl (o' := .loop { rec .ready none with state := .busy }) rfl
  have hb3 : (A2.putObj (w.heap.size + 1) (.loop { rec .ready none with state := .busy })).heap[w.heap.size + 1]? = some (.loop { rec .ready none with state := .busy }) := World.putObj_heap_same (heap_lt hl2)
  refine ⟨_, run_beginRound hl2 (by subst hrec; rfl), ?_⟩
  have hd3 : (A2.putObj (w.heap.size + 1) (.loop { rec .ready none with state := .busy })).heap[w.heap.size]? = some (.deferred (some [])) := (World.putObj_heap_other (by omega)).trans ((hs2.z (Z := Z)).ext.oth _ _ h4 rfl)
  refine wpIn_mono (hbody (w.heap.size + 1) i x v _ a2 hx (hJ _ _ _ (hJ _ _ _ h1 hs2.xt) hx2) ((hz.trans hs2).put hs2.inv hl2 rfl rfl (Nat.le_succ _) (hZ _ (Nat.le_succ _))) (hE _ _ _ _ (hE _ _ _ _ he hs2.xt) hx2) (hG _ _ _ _ hg2 hx2)) ?_
  rintro e' a3 A' hq'
  cases e' with
  | normal =>
   obtain ⟨j1, j2⟩ : J (i + 1) A' ∧ StZ D B Z (A2.putObj (w.heap.size + 1) (.loop { rec .ready none with state := .busy })) A' := hq'
   have hl' := j2.ext.oth _ _ hb3 rfl
   have hx4 := Xt.put (n := w.heap.size) j2.inv (Nat.le_succ _) hl' rfl (o' := .loop (rec .ready none)) rfl
   refine ⟨_, _, run_endRound none hl', true, rfl, .inl ⟨rfl, ⟨?_, ?_, ?_, ?_⟩, ?_⟩⟩
   · subst hrec; exact hJ _ _ _ j1 hx4
   · subst hrec; exact hx4.inv
   · subst hrec; exact World.putObj_heap_same (heap_lt hl')
   · exact (World.putObj_heap_other (by omega)).trans (j2.ext.oth _ _ hd3 rfl)
   subst hrec; exact StZ.round hs2 j2 h3 rfl rfl (hZ _ (Nat.le_succ _))
  | ret =>
   obtain ⟨j1, j2⟩ : Jr A' ∧ StZ D B Z (A2.putObj (w.heap.size + 1) (.loop { rec .ready none with state := .busy })) A' := hq'
   have hl' := j2.ext.oth _ _ hb3 rfl
   have hx4 := Xt.put (n := w.heap.size) j2.inv (Nat.le_succ _) hl' rfl (o' := .loop (rec .done (some .ret))) rfl
   refine ⟨_, _, run_endRound (some .ret) hl', false, rfl, .inr ⟨rfl, .ret, ⟨rfl, ?_⟩, ?_, ?_, ?_⟩⟩
   · subst hrec; exact hJr _ _ j1 hx4
   · subst hrec; exact hx4.inv
   · subst hrec; exact World.putObj_heap_same (heap_lt hl')
   exact (World.putObj_heap_other (by omega)).trans (j2.ext.oth _ _ hd3 rfl)
  | exit id => exact absurd hq' (by simp [Qof, lookX])
  | goto t => exact hq'.elim
  | panic c => exact hq'.elim
  | outgrown => exact hq'.elim
 | exit id => exact absurd hq (by simp [Qof, lookX])
 | ret => exact hq.elim
 | goto t => exact hq.elim
 | panic c => exact hq.elim
 | outgrown => exact hq.elim
theorem leavesM {D : FD} {B m : Nat} {fn : Func} {tmps : Array Value} {v : Value} {Q : Value → World → Prop} : ∀ (ds : List Nat) (w : World), Mk m ds w → Inv D B w → (∀ w2, (results fn tmps).run P w2 = .ok v w2) → (∀ w2, Xt D B m w w2 → Q v w2) →
  LeavesInM Fence.wide 0 P fn tmps (fun e w' => ∃ u, e = .returned u ∧ Q u w') (ds.map dmark) .returning w
 | [], w, _, hI, hr, hq => ⟨v, hr w, v, rfl, hq w (Xt.refl hI)⟩
 | d :: ds, w, hM, hI, hr, hq => by
  obtain ⟨h1, h2⟩ := hM.2 d (by simp)
  have hx := Xt.put (n := m) hI h1 h2 rfl (o' := .deferred none) rfl
  refine ⟨by simp, .inl ⟨d, w.putObj d (.deferred none), rfl, run_takeDeferred h2, leavesM ds _ ⟨(List.nodup_cons.1 hM.1).2, fun k hk => ?_⟩ hx.inv hr (fun w2 h => hq w2 (hx.trans h))⟩⟩
  have hne : k ≠ d := fun e => (List.nodup_cons.1 hM.1).1 (e ▸ hk)
  exact ⟨(hM.2 k (by simp [hk])).1, (World.putObj_heap_other hne).trans (hM.2 k (by simp [hk])).2⟩
theorem enterMG {D : FD} {B : Nat} {f : FuncId} {fn : Func} {c : Code} {vs : List Value} {Q : Value → World → Prop} {n : NN} {F : Fs} (m : Nat) (E : Kont) (hf : P.funcs[f]? = some fn) (hb : fn.body = some c) (hn : n = ⟨fn.ntmps, []⟩) (hle : Nat.ble vs.length n.n = true) (hF : F = idx vs 0)
  (hE : ∀ a w, E a w → ∃ ds v, a.defers = ds.map dmark ∧ Mk m ds w ∧ Inv D B w ∧ (∀ w2, (results fn a.tmps).run P w2 = .ok v w2) ∧ ∀ w2, Xt D B m w w2 → Q v w2) (h : ∀ a, Fr n F a → W P c E [] E a w) : Ret P f vs w Q := by
 refine callsIn_wide.1 (callsIn_of_wp_marks (F := Fence.wide) (n := 0) hf hb trivial (wpIn_mono (WI_of (h _ ⟨by have := Nat.le_of_ble_eq_true hle; subst hn; simp at this ⊢; omega, by subst hn; rfl, fun i v hv => ?_⟩)) ?_) rfl)
 ·
  rw [hF] at hv
  obtain ⟨k, hk, h1⟩ := look_idx vs 0 i v hv
  rw [show i = k from by omega]
  have h2 : k < vs.length := (List.getElem?_eq_some_iff.1 h1).1
  rw [Array.getElem?_append_left (by simpa using h2)]
  simpa using h1
 intro e a w hq
 have key : ∀ a w, E a w → LeavesInM Fence.wide 0 P fn a.tmps (fun e w' => ∃ u, e = .returned u ∧ Q u w') a.defers .returning w := fun a w he => by
  obtain ⟨ds, v, h1, h2, h3, h4, h5⟩ := hE a w he
  rw [h1]
  exact leavesM ds w h2 h3 h4 h5
 cases e with
 | normal => exact key a w hq
 | ret => exact key a w hq
 | exit i => simp [Qof, lookX] at hq
 | goto l => exact hq.elim
 | panic c => exact hq.elim
 | outgrown => exact hq.elim
theorem enterM2 {D : FD} {B : Nat} {f : FuncId} {fn : Func} {c : Code} {vs : List Value} {Q : Value → World → Prop} (m : Nat) (n : NN) (F : Fs) (t s : Nat) (hf : P.funcs[f]? = some fn) (hb : fn.body = some c) (hn : n = ⟨fn.ntmps, []⟩) (hr : fn.results = #[.tmp t, .tmp s]) (hle : Nat.ble vs.length n.n = true) (hF : F = idx vs 0)
  (h : ∀ a, Fr n F a → W P c (fun a w => ∃ ds F' v u, Mk m ds w ∧ Inv D B w ∧ Fr ⟨n.n, ds⟩ F' a ∧ look F' t = some v ∧ look F' s = some u ∧ ∀ w2, Xt D B m w w2 → Q (.tuple #[v, u]) w2) []
   (fun a w => ∃ ds F' v u, Mk m ds w ∧ Inv D B w ∧ Fr ⟨n.n, ds⟩ F' a ∧ look F' t = some v ∧ look F' s = some u ∧ ∀ w2, Xt D B m w w2 → Q (.tuple #[v, u]) w2) a w) : Ret P f vs w Q := by
 refine enterMG (D := D) (B := B) m _ hf hb hn hle hF (fun a w ⟨ds, F', v, u, hM, hI, hF', hl, hk, hq⟩ => ⟨ds, _, hF'.defers, hM, hI, fun w2 => ?_, hq⟩) h
 have hv := hF'.val t v hl
 have hu := hF'.val s u hk
 simp [results, hr, Array.getD_eq_getD_getElem?, hv, hu]
end
end Go.Gam
/- Matrices: rows of numbers in memory; what the functions of matrices tell. No program in sight. -/
namespace Go.Gam
open Px
def KC (D : FD) (B : Nat) (w : World) (a : Addr) (v : Value) : Prop := w.cell? a = some v ∧ a.block < w.heap.size ∧ (a.block < B ∨ notT D w a.block)
theorem KC.c {D : FD} {B : Nat} {w : World} {a : Addr} {v : Value} (h : KC D B w a v) : w.cell? a = some v := h.1
theorem KC.ld {D : FD} {B : Nat} {w w' : World} {a : Addr} {v : Value} (h : KC D B w a v) (hs : Ext D B w w') : w'.cell? a = some v := (cell_of_heap (hs.keep a.block h.2.1 h.2.2)).trans h.1
theorem KC.ext {D : FD} {B : Nat} {w w' : World} {a : Addr} {v : Value} (h : KC D B w a v) (hs : Ext D B w w') : KC D B w' a v :=
 ⟨h.ld hs, Nat.lt_of_lt_of_le h.2.1 hs.size, h.2.2.imp id (notT_of (hs.keep a.block h.2.1 h.2.2))⟩
theorem KC.st {D : FD} {B : Nat} {w w' : World} {a : Addr} {v : Value} (h : KC D B w a v) (hs : St D B w w') : KC D B w' a v := h.ext hs.ext
theorem KC.mb {D : FD} {B : Nat} {b : Option Nat} {w w' : World} {a : Addr} {v : Value} (h : KC D B w a v) (hm : Mb D B b w w') (hb : b ≠ some a.block) : KC D B w' a v := by
 have hk := hm.keep a.block h.2.1 (fun e => hb e.symm)
 exact ⟨(cell_of_heap hk).trans h.1, Nat.lt_of_lt_of_le h.2.1 hm.size, h.2.2.imp id (notT_of hk)⟩
theorem Row.kat {D : FD} {B M len cap : Nat} {w : World} {sa : Option Addr} {xs : List Value} {i : Nat} {u : Value} (h : Row D B M w (.slice sa len cap) xs) (hi : xs[i]? = some u) : ∃ g o, sa = some ⟨g, o, none⟩ ∧ KC D B w ⟨g, o + i, none⟩ u ∧ g < M := by
 rcases h with ⟨_, _, h1, rfl⟩ | ⟨g, o, cap', h1, h0, h2, h3, h4, h5⟩
 · simp at hi
 obtain ⟨rfl, rfl, rfl⟩ := Value.slice.inj h1
 exact ⟨g, o, rfl, ⟨h5 i u hi, h4, h3⟩, h2⟩
theorem Blk.kc {D : FD} {B : Nat} {w : World} {g : Nat} {E : TypeId} {cs : List Value} (h : Blk w g E cs) (hE : E ≠ D.T) (i : Nat) {v : Value} (hv : nth cs i = some v) : KC D B w ⟨g, i, none⟩ v :=
 ⟨h.at i hv, heap_lt h, .inr fun c fr e => by rw [show w.heap[g]? = _ from h] at e; exact hE (Obj.cells.inj (Option.some.inj e)).2.1⟩
abbrev Mtx := List (List Int)
structure Mat (D : FD) (B M : Nat) (w : World) (sa : Option Addr) (cap : Nat) (a : Mtx) : Prop where
 ex : ∃ vals, vals.length = a.length ∧ Row D B M w (.slice sa a.length cap) vals ∧ ∀ (j : Nat) (v : Value) (r : List Int), vals[j]? = some v → a[j]? = some r → Row D B M w v (zints r)
theorem Mat.st {D : FD} {B M : Nat} {w w' : World} {sa : Option Addr} {cap : Nat} {a : Mtx} (h : Mat D B M w sa cap a) (hs : St D B w w') : Mat D B M w' sa cap a := by
 obtain ⟨vals, h1, h2, h3⟩ := h.ex
 exact ⟨vals, h1, h2.st hs, fun j v r x y => (h3 j v r x y).st hs⟩
theorem Mat.mb {D : FD} {B M : Nat} {b : Option Nat} {w w' : World} {sa : Option Addr} {cap : Nat} {a : Mtx} (h : Mat D B M w sa cap a) (hm : Mb D B b w w') (hb : ∀ k, b = some k → M ≤ k) : Mat D B M w' sa cap a := by
 obtain ⟨vals, h1, h2, h3⟩ := h.ex
 exact ⟨vals, h1, h2.mb hm hb, fun j v r x y => (h3 j v r x y).mb hm hb⟩
theorem Mat.xt {D : FD} {B M n : Nat} {w w' : World} {sa : Option Addr} {cap : Nat} {a : Mtx} (h : Mat D B M w sa cap a) (hs : Xt D B n w w') : Mat D B M w' sa cap a := by
 obtain ⟨vals, h1, h2, h3⟩ := h.ex
 exact ⟨vals, h1, h2.xt hs, fun j v r x y => (h3 j v r x y).xt hs⟩
theorem Mat.stz {D : FD} {B M : Nat} {Z : Nat → Prop} {w w' : World} {sa : Option Addr} {cap : Nat} {a : Mtx} (h : Mat D B M w sa cap a) (hs : StZ D B Z w w') (hz : ∀ k, k < M → ¬ Z k) : Mat D B M w' sa cap a := by
 obtain ⟨vals, h1, h2, h3⟩ := h.ex
 exact ⟨vals, h1, h2.stz hs hz, fun j v r x y => (h3 j v r x y).stz hs hz⟩
theorem Mat.row {D : FD} {B M : Nat} {w : World} {sa : Option Addr} {cap : Nat} {a : Mtx} (h : Mat D B M w sa cap a) {i : Nat} {r : List Int} (hi : a[i]? = some r) :
  ∃ g o pr cr, sa = some ⟨g, o, none⟩ ∧ KC D B w ⟨g, o + i, none⟩ (.slice pr r.length cr) ∧ Row D B M w (.slice pr r.length cr) (zints r) ∧ g < M := by
 obtain ⟨vals, h1, h2, h3⟩ := h.ex
 have hl := (List.getElem?_eq_some_iff.1 hi).1
 obtain ⟨v, hv⟩ : ∃ v, vals[i]? = some v := ⟨_, List.getElem?_eq_getElem (by omega)⟩
 have hr := h3 i v r hv hi
 obtain ⟨pr, cr, rfl⟩ := hr.sl
 rw [zints_length] at hr hv
 obtain ⟨g, o, rfl, hk, hM⟩ := h2.kat hv
 exact ⟨g, o, pr, cr, rfl, hk, hr, hM⟩
def RowO (D : FD) (B N K : Nat) (w : World) (u : Value) (r : List Int) : Prop := (∃ b, Own D B N w D.E u b (zints r) ∧ ∀ g, b = some g → g < K) ∨ D.old = true ∧ Row D B N w u (zints r)
theorem RowO.st {D : FD} {B N K : Nat} {w w' : World} {u : Value} {r : List Int} (h : RowO D B N K w u r) (hs : St D B w w') : RowO D B N K w' u r :=
 h.imp (fun ⟨b, h1, h2⟩ => ⟨b, h1.st D.ne hs, h2⟩) (fun ⟨o, h⟩ => ⟨o, h.st hs⟩)
theorem RowO.xt {D : FD} {B N K n : Nat} {w w' : World} {u : Value} {r : List Int} (h : RowO D B N K w u r) (hs : Xt D B n w w') : RowO D B N K w' u r :=
 h.imp (fun ⟨b, h1, h2⟩ => ⟨b, h1.xt D.ne hs, h2⟩) (fun ⟨o, h⟩ => ⟨o, h.xt hs⟩)
theorem RowO.mb {D : FD} {B N K : Nat} {b : Option Nat} {w w' : World} {u : Value} {r : List Int} (h : RowO D B N K w u r) (hm : Mb D B b w w') (hb : ∀ k, b = some k → K ≤ k ∧ N ≤ k) : RowO D B N K w' u r :=
 h.imp (fun ⟨c, h1, h2⟩ => ⟨c, h1.mb hm (fun k e e2 => by have := h2 k e; have := (hb k e2).1; omega), h2⟩) (fun ⟨o, h⟩ => ⟨o, h.mb hm (fun k e => (hb k e).2)⟩)
theorem RowO.mb2 {D : FD} {B N K N' E2 : Nat} {b : Option Nat} {w w' : World} {u v : Value} {xs : List Value} {r : List Int} (h : RowO D B N K w u r) (hm : Mb D B b w w') (ho : Own D B N' w E2 v b xs) (hE : D.E ≠ E2) (hN : N ≤ N') : RowO D B N K w' u r :=
 h.imp (fun ⟨c, h1, h2⟩ => ⟨c, h1.mb hm (h1.ne_type ho hE), h2⟩) (fun ⟨o, h⟩ => ⟨o, h.mb hm (fun k e => Nat.le_trans hN (ho.lt k e).1)⟩)
theorem RowO.of {D : FD} {B N N' : Nat} {w : World} {u : Value} {b : Option Nat} {r : List Int} (h : Own D B N' w D.E u b (zints r)) (hN : N ≤ N') : RowO D B N w.heap.size w u r := .inl ⟨b, h.le hN, fun g e => (h.lt g e).2⟩
theorem RowO.up {D : FD} {B N K K' : Nat} {w : World} {u : Value} {r : List Int} (h : RowO D B N K w u r) (hK : K ≤ K') : RowO D B N K' w u r :=
 h.imp (fun ⟨b, h1, h2⟩ => ⟨b, h1, fun g e => Nat.lt_of_lt_of_le (h2 g e) hK⟩) id
structure MOwn (D : FD) (B N M0 K : Nat) (w : World) (E2 : TypeId) (v : Value) (b : Option Nat) (a : Mtx) : Prop where
 ex : ∃ vals, vals.length = a.length ∧ Own D B N w E2 v b vals ∧ ∀ (j : Nat) (u : Value) (r : List Int), vals[j]? = some u → a[j]? = some r → RowO D B M0 K w u r
 mn : M0 ≤ N
theorem MOwn.nil (D : FD) (B N M0 K : Nat) (w : World) (E2 : TypeId) (h : M0 ≤ N) : MOwn D B N M0 K w E2 (.slice none 0 0) none [] := ⟨⟨[], rfl, Own.nil _ _ _ _ _, fun j v r x => by simp at x⟩, h⟩
theorem MOwn.st {D : FD} {B N M0 K : Nat} {w w' : World} {E2 : TypeId} {v : Value} {b : Option Nat} {a : Mtx} (h : MOwn D B N M0 K w E2 v b a) (hE : E2 ≠ D.T) (hs : St D B w w') : MOwn D B N M0 K w' E2 v b a := by
 obtain ⟨vals, h1, h2, h3⟩ := h.ex
 exact ⟨⟨vals, h1, h2.st hE hs, fun j u r x y => (h3 j u r x y).st hs⟩, h.mn⟩
theorem MOwn.mb0 {D : FD} {B N M0 K : Nat} {w w' : World} {E2 : TypeId} {v : Value} {b : Option Nat} {a : Mtx} (h : MOwn D B N M0 K w E2 v b a) (hm : Mb D B none w w') : MOwn D B N M0 K w' E2 v b a := by
 obtain ⟨vals, h1, h2, h3⟩ := h.ex
 exact ⟨⟨vals, h1, h2.mb hm (fun k _ e => by cases e), fun j u r x y => (h3 j u r x y).mb hm (fun _ e => by cases e)⟩, h.mn⟩
theorem MOwn.mbo {D : FD} {B N M0 K N' : Nat} {c : Option Nat} {w w' : World} {E2 : TypeId} {v u : Value} {b : Option Nat} {a : Mtx} {xs : List Value} (h : MOwn D B N M0 K w E2 v b a) (hm : Mb D B c w w') (ho : Own D B N' w D.E u c xs) (hE : D.E ≠ E2) (hK : K ≤ N') (hN : M0 ≤ N') : MOwn D B N M0 K w' E2 v b a := by
 obtain ⟨vals, h1, h2, h3⟩ := h.ex
 exact ⟨⟨vals, h1, h2.mb hm (fun k e e2 => ho.ne_type h2 hE k e2 e), fun j x r p q => (h3 j x r p q).mb hm (fun k e => ⟨Nat.le_trans hK (ho.lt k e).1, Nat.le_trans hN (ho.lt k e).1⟩)⟩, h.mn⟩
theorem MOwn.xt {D : FD} {B N M0 K n : Nat} {w w' : World} {E2 : TypeId} {v : Value} {b : Option Nat} {a : Mtx} (h : MOwn D B N M0 K w E2 v b a) (hE : E2 ≠ D.T) (hs : Xt D B n w w') : MOwn D B N M0 K w' E2 v b a := by
 obtain ⟨vals, h1, h2, h3⟩ := h.ex
 exact ⟨⟨vals, h1, h2.xt hE hs, fun j u r x y => (h3 j u r x y).xt hs⟩, h.mn⟩
theorem MOwn.up {D : FD} {B N M0 K K' : Nat} {w : World} {E2 : TypeId} {v : Value} {b : Option Nat} {a : Mtx} (h : MOwn D B N M0 K w E2 v b a) (hK : K ≤ K') : MOwn D B N M0 K' w E2 v b a := by
 obtain ⟨vals, h1, h2, h3⟩ := h.ex
 exact ⟨⟨vals, h1, h2, fun j u r x y => (h3 j u r x y).up hK⟩, h.mn⟩
theorem MOwn.cast {D : FD} {B N M0 K : Nat} {w : World} {E2 : TypeId} {v : Value} {b : Option Nat} {a a' : Mtx} (h : MOwn D B N M0 K w E2 v b a) (e : a = a') : MOwn D B N M0 K w E2 v b a' := e ▸ h
theorem MOwn.lt {D : FD} {B N M0 K : Nat} {w : World} {E2 : TypeId} {v : Value} {b : Option Nat} {a : Mtx} (h : MOwn D B N M0 K w E2 v b a) : ∀ k, b = some k → N ≤ k ∧ k < w.heap.size := by
 obtain ⟨vals, h1, h2, h3⟩ := h.ex
 exact h2.lt
theorem MOwn.isrow {D : FD} {B N M0 K : Nat} {w : World} {E2 : TypeId} {v : Value} {b : Option Nat} {a : Mtx} (h : MOwn D B N M0 K w E2 v b a) : ∀ k, b = some k → ∃ c e fr, w.heap[k]? = some (.cells c e fr) := by
 obtain ⟨vals, h1, h2, h3⟩ := h.ex
 exact h2.isrow
section
variable {P : Program} {ops : Array Oper} {K' : Kont} {rest : List Oper} {n : NN} {F : Fs} {T : TypeId} {pp : String} {af : Array Edge} {v : Value} {d : Nat} {a : Act} {w : World} {x : Operand} {D : FD} {B : Nat}
theorem s_appM {t e by_ N N2 M0 K : Nat} {ats : Array TypeId} {z : Value} {b bx : Option Nat} {a0 : Mtx} {xv u : Value} {r : List Int} {s : Operand} (hF : Fr n F a) (hat : ats = #[t, t]) (ht : Sl P t e z by_) (hs : ev F s = some v) (hx : ev F x = some xv)
  (hM : MOwn D B N M0 K w e v b a0) (hl : Own D B N2 w e xv bx [u]) (hr : RowO D B M0 K w u r) (h1 : u.oneCell' = true) (hby : by_ = 24) (hsm : a0.length ≤ 1000000) (hN : N ≤ w.heap.size) (he : e ≠ D.T) (hE : D.E ≠ e) (hI : Inv D B w) (hd : Nat.blt d n.n = true)
  (k : ∀ v' b' w' a, MOwn D B N M0 K w' e v' b' (a0 ++ [r]) → Mb D B b w w' → Inv D B w' → Fr n ((d, v') :: F) a → WL P ops K' rest a w') :
  WL P ops K' (⟨some d, .call ⟨.builtin .append, #[s, x], ats⟩, T, pp, af, none⟩ :: rest) a w := by
 obtain ⟨vals, h2, h3, h4⟩ := hM.ex
 subst hby
 refine s_app (D := D) (B := B) hF hat ht hs hx h3 (hl.row he) (by simpa using h1) (by simp; omega) (by simp [maxLen]; omega) hN he hI hd ?_
 intro v' b' w' a' ho hm hI' hb' hF'
 refine k v' b' w' a' ⟨⟨vals ++ [u], by simp [h2], ho, fun j x y hx hy => ?_⟩, hM.mn⟩ hm hI' hF'
 by_cases hj : j < vals.length
 ·
  rw [List.getElem?_append_left hj] at hx
  rw [List.getElem?_append_left (by omega)] at hy
  exact (h4 j x y hx hy).mb2 hm h3 hE hM.mn
 have hj2 : j = vals.length := by have := (List.getElem?_eq_some_iff.1 hx).1; simp at this; omega
 subst hj2
 simp at hx
 rw [h2] at hy
 simp at hy
 subst hx; subst hy
 exact hr.mb2 hm h3 hE hM.mn
theorem v_eqlSl {sa : Option Addr} {len cap : Nat} {t e s : TypeId} {y : Operand} (hb : P.underlying t = some (.slice e)) (hx : ev F x = some (.slice sa len cap)) (hy : ev F y = some (.slice none 0 0)) : Val P (.binOp .eql t x y s) T F w (.bool sa.isNone) :=
 fun ρ h d p af g => by
  simp only [execOp, h x _ hx, h y _ hy, eqGuard, binOp]
  have he : ∀ (e : Nat), (Op.equalIn (e + 1) t (.slice sa len cap) (.slice none 0 0)).run P w = .ok sa.isNone w := by
   intro e
   cases sa <;> simp [Op.equalIn, underlying, hb, program, Sem.run]
  have he' : (Op.equal t (.slice sa len cap) (.slice none 0 0)).run P w = .ok sa.isNone w := he 9999
  simp [he']
end
structure Box (D : FD) (B N : Nat) (w : World) (g : Nat) (E : TypeId) (v : Value) : Prop where
 blk : Blk w g E [v]
 low : N ≤ g
 base : B ≤ g
 priv : Priv D B w g
 ty : E ≠ D.T
theorem Box.st {D : FD} {B N : Nat} {w w' : World} {g : Nat} {E : TypeId} {v : Value} (h : Box D B N w g E v) (hs : St D B w w') : Box D B N w' g E v := ⟨h.blk.st h.ty hs, h.low, h.base, hs.ext.priv g (heap_lt h.blk) h.priv, h.ty⟩
theorem Box.xt {D : FD} {B N n : Nat} {w w' : World} {g : Nat} {E : TypeId} {v : Value} (h : Box D B N w g E v) (hs : Xt D B n w w') : Box D B N w' g E v := ⟨h.blk.xt h.ty hs, h.low, h.base, hs.priv g (heap_lt h.blk) h.priv, h.ty⟩
theorem Box.mb {D : FD} {B N : Nat} {b : Option Nat} {w w' : World} {g : Nat} {E : TypeId} {v : Value} (h : Box D B N w g E v) (hm : Mb D B b w w') (hb : b ≠ some g) : Box D B N w' g E v := ⟨h.blk.mb hm hb, h.low, h.base, hm.priv h.priv, h.ty⟩
theorem Box.at {D : FD} {B N : Nat} {w : World} {g : Nat} {E : TypeId} {v : Value} (h : Box D B N w g E v) : w.cell? ⟨g, 0, none⟩ = some v := h.blk.at 0 rfl
theorem Box.kc {D : FD} {B N : Nat} {w : World} {g : Nat} {E : TypeId} {v : Value} (h : Box D B N w g E v) : KC D B w ⟨g, 0, none⟩ v := h.blk.kc h.ty 0 rfl
theorem Box.ne_own {D : FD} {B N N' : Nat} {w : World} {g : Nat} {E E' : TypeId} {v u : Value} {b : Option Nat} {xs : List Value} (h : Box D B N w g E v) (ho : Own D B N' w E' u b xs) (hE : E ≠ E') : b ≠ some g := by
 intro e
 obtain ⟨_, hl⟩ := ho.lt g e
 rcases ho with ⟨_, h', _⟩ | ⟨g', cap, cur, rfl, hb, h1, hB, h2, h3⟩
 · rw [h'] at e; cases e
 rw [hb] at e; obtain rfl := Option.some.inj e
 have hk : w.heap[g']? = _ := h.blk
 rw [h2] at hk
 exact hE (Obj.cells.inj (Option.some.inj hk)).2.1.symm
theorem MOwn.mbx {D : FD} {B N M0 K g : Nat} {w w' : World} {E2 : TypeId} {v : Value} {b : Option Nat} {a : Mtx} (h : MOwn D B N M0 K w E2 v b a) (hm : Mb D B (some g) w w') (hb : b ≠ some g) (hK : K ≤ g) (hN : M0 ≤ g) : MOwn D B N M0 K w' E2 v b a := by
 obtain ⟨vals, h1, h2, h3⟩ := h.ex
 exact ⟨⟨vals, h1, h2.mb hm (fun k e e2 => hb (e.trans e2.symm)), fun j x r p q => (h3 j x r p q).mb hm (fun k e => by cases e; exact ⟨hK, hN⟩)⟩, h.mn⟩
section
variable {P : Program} {ops : Array Oper} {K : Kont} {rest : List Oper} {n : NN} {F : Fs} {T : TypeId} {pp : String} {af : Array Edge} {v : Value} {d : Nat} {a : Act} {w : World} {x y : Operand} {D : FD} {B : Nat}
def Zv (P : Program) (e : TypeId) (z : Value) : Prop := z.cells = #[z] ∧ ∃ i, P.info? e = some i ∧ i.zero = some z
theorem zv_of {e : TypeId} {z : Value} (hz : z.cells = #[z]) (h : (P.info? e).map (fun i => i.zero) = some (some z)) : Zv P e z := by
 cases hi : P.info? e with
 | none => rw [hi] at h; cases h
 | some i => rw [hi] at h; exact ⟨hz, i, hi, by simpa using h⟩
theorem s_boxN {e : TypeId} (hF : Fr n F a) (hx : ev F x = some v) (hv : v.cells = #[v]) (he : e ≠ D.T) (hI : Inv D B w) (hd : Nat.blt d n.n = true)
  (k : ∀ w' a, Mb D B none w w' → Inv D B w' → Box D B w.heap.size w' w.heap.size e v → w'.heap.size = w.heap.size + 1 → Fr n ((d, .pointer (some ⟨w.heap.size, 0, none⟩)) :: F) a → WL P ops K rest a w') :
  WL P ops K (⟨some d, .box e x, T, pp, af, none⟩ :: rest) a w :=
 s_box hF hx he hI hd fun w' a hm hb hsz hF => k w' a hm (hm.inv hI) ⟨by rw [hv] at hb; exact hb, Nat.le_refl _, hI.1, hm.priv (hI.priv_new (Nat.le_refl _)), he⟩ hsz hF
theorem s_alloc {e : TypeId} {z : Value} (hF : Fr n F a) (hz : Zv P e z) (he : e ≠ D.T) (hI : Inv D B w) (hd : Nat.blt d n.n = true)
  (k : ∀ w' a, Mb D B none w w' → Inv D B w' → Box D B w.heap.size w' w.heap.size e z → w'.heap.size = w.heap.size + 1 → Fr n ((d, .pointer (some ⟨w.heap.size, 0, none⟩)) :: F) a → WL P ops K rest a w') :
  WL P ops K (⟨some d, .alloc e, T, pp, af, none⟩ :: rest) a w := by
 obtain ⟨h1, i, h2, h3⟩ := hz
 have hm := Mb.alloc D B w #[z] e (0, 0) he
 refine s_run (w' := w.alloc (.cells #[z] e)) hF (fun ρ h => ?_) hd fun a hF => k _ a hm (hm.inv hI) ⟨alloc_new w _, Nat.le_refl _, hI.1, hm.priv (hI.priv_new (Nat.le_refl _)), he⟩ (by simp) hF
 simp [execOp, Instr.alloc, zeroValue, typeInfo, h2, h3, h1, newVar, newRow, newObj, Sem.run]
theorem s_stb {t N g E : Nat} {u : Value} (hF : Fr n F a) (ht : One P t) (hx : ev F x = some (.pointer (some ⟨g, 0, none⟩))) (hy : ev F y = some u) (hu : u.oneCell' = true) (hb : Box D B N w g E v) (hI : Inv D B w)
  (k : ∀ w', Mb D B (some g) w w' → Inv D B w' → Box D B N w' g E u → WL P ops K rest a w') : WL P ops K (⟨none, .store t x y, T, pp, af, none⟩ :: rest) a w := by
 have hO : Own D B N w E (.slice (some ⟨g, 0, none⟩) 1 1) (some g) [v] := .inr ⟨g, 1, #[v], rfl, rfl, hb.low, hb.base, hb.blk, Nat.le_refl _, by simp [maxLen], rfl, rfl, hb.priv⟩
 refine s_set (D := D) (B := B) hF ht hx (by simp) hy hu hO hb.ty hI ?_
 intro w' hm hI' ho
 refine k w' hm hI' ?_
 rcases ho with ⟨_, h, _⟩ | ⟨g', cap, cur, e1, e2, h1, hB, h2, h3, h4, h5, h6, h7⟩
 · cases h
 obtain rfl := Option.some.inj e2
 have hc : cap = 1 := by injection e1 with _ _ e4; exact e4.symm
 subst hc
 refine ⟨?_, h1, hB, h7, hb.ty⟩
 unfold Blk
 rw [h2]
 have : cur.toList = [u] := by
  have hl : cur.toList.length = 1 := by simpa using h5
  simp at h6
  rw [show cur.toList.take 1 = cur.toList from List.take_of_length_le (by omega)] at h6
  exact h6
 rw [← this]
end
theorem Fo.cells1 {D : FD} {B : Nat} {w : World} {v : Value} {o : Fq} (h : Fo D B w v o) : v.cells = #[v] := by
 cases o with
 | none => obtain rfl : v = .pointer none := h; rfl
 | some q => obtain ⟨_, k, rfl, _⟩ := h; rfl
def mayM (o : Fq) : Mtx → Bool
 | [] => false
 | r0 :: rs => decide ((r0 :: rs).length ≤ 20) && decide (1 ≤ r0.length ∧ r0.length ≤ 20) && (r0 :: rs).all fun r => decide (r.length = r0.length) && r.all (inF o)
def idM (n : Nat) : Mtx := (List.range n).map fun i => (List.range n).map fun j => if i = j then 1 else 0
def wid (a : Mtx) : Nat := (a.getD 0 []).length
def dotN (o : Fq) (r c : List Int) : Nat := (List.zipWith (gmul o) r c).foldl (fun s z => s ^^^ z.toNat) 0
def colAt (b : Mtx) (j : Nat) : List Int := b.map fun r => r.getD j 0
def mulB (o : Fq) (a b : Mtx) : Bool := mayM o a && mayM o b && decide (wid a = b.length)
def mulRow (o : Fq) (b : Mtx) (r : List Int) : List Int := (List.range (wid b)).map fun j => (dotN o r (colAt b j) : Int)
def mulM (o : Fq) (a b : Mtx) : Option Mtx := if mulB o a b = true then some (a.map (mulRow o b)) else none
theorem mayM_pos {o : Fq} {a : Mtx} (h : mayM o a = true) : 1 ≤ a.length ∧ a.length ≤ 20 ∧ 1 ≤ wid a ∧ wid a ≤ 20 ∧ ∀ r ∈ a, r.length = wid a ∧ ∀ x ∈ r, inF o x = true := by
 cases a with
 | nil => cases h
 | cons r0 rs =>
  simp only [mayM, Bool.and_eq_true, decide_eq_true_eq, List.all_eq_true] at h
  obtain ⟨⟨h1, h2⟩, h3⟩ := h
  exact ⟨by simp, h1, h2.1, h2.2, fun r hr => ⟨(h3 r hr).1, (h3 r hr).2⟩⟩
theorem mayM_of {o : Fq} {a : Mtx} (h1 : 1 ≤ a.length) (h2 : a.length ≤ 20) (h3 : 1 ≤ wid a) (h4 : wid a ≤ 20) (h5 : ∀ r ∈ a, r.length = wid a ∧ ∀ x ∈ r, inF o x = true) : mayM o a = true := by
 cases a with
 | nil => simp at h1
 | cons r0 rs =>
  simp only [mayM, Bool.and_eq_true, decide_eq_true_eq, List.all_eq_true]
  exact ⟨⟨h2, h3, h4⟩, fun r hr => ⟨(h5 r hr).1, (h5 r hr).2⟩⟩
theorem mayM_iff {o : Fq} {a : Mtx} : mayM o a = true ↔ 1 ≤ a.length ∧ a.length ≤ 20 ∧ 1 ≤ wid a ∧ wid a ≤ 20 ∧ ∀ r ∈ a, r.length = wid a ∧ ∀ x ∈ r, inF o x = true :=
 ⟨mayM_pos, fun ⟨h1, h2, h3, h4, h5⟩ => mayM_of h1 h2 h3 h4 h5⟩
theorem wid_at {a : Mtx} {r : List Int} (h : a[0]? = some r) : wid a = r.length := by unfold wid; rw [List.getD_eq_getElem?_getD, h]; rfl
theorem mayM_no {o : Fq} {a : Mtx} (h : ¬ (1 ≤ a.length ∧ a.length ≤ 20 ∧ 1 ≤ wid a ∧ wid a ≤ 20 ∧ ∀ r ∈ a, r.length = wid a ∧ ∀ x ∈ r, inF o x = true)) : mayM o a = false := by
 cases hm : mayM o a with
 | false => rfl
 | true => exact absurd (mayM_pos hm) h
theorem fold_xor_lt {k : Nat} : ∀ (l : List Int) (s : Nat), s < 2 ^ k → (∀ z ∈ l, z.toNat < 2 ^ k) → l.foldl (fun s z => s ^^^ z.toNat) s < 2 ^ k
 | [], s, hs, _ => hs
 | z :: l, s, hs, h => fold_xor_lt l _ (Px.xor_lt hs (h z (by simp))) (fun y hy => h y (by simp [hy]))
def idxZ {α : Type} (p : α → Bool) (xs : List α) : Int := match xs.findIdx? p with | some i => (i : Int) | none => -1
theorem idxZ_at {α : Type} {p : α → Bool} {xs : List α} {i : Nat} {x : α} (h : ∀ y ∈ xs.take i, p y = false) (hi : xs[i]? = some x) (hx : p x = true) : idxZ p xs = (i : Int) := by
 have : xs.findIdx? p = some i := by
  rw [List.findIdx?_eq_some_iff_getElem]
  obtain ⟨hl, he⟩ := List.getElem?_eq_some_iff.1 hi
  refine ⟨hl, by rw [he]; exact hx, fun j hj => ?_⟩
  have hm : xs[j]'(by omega) ∈ xs.take i := by
   rw [List.mem_take_iff_getElem]
   exact ⟨j, by omega, rfl⟩
  simpa using h _ hm
 unfold idxZ; rw [this]
theorem idxZ_no {α : Type} {p : α → Bool} {xs : List α} (h : ∀ y ∈ xs, p y = false) : idxZ p xs = -1 := by
 have : xs.findIdx? p = none := by rw [List.findIdx?_eq_none_iff]; exact h
 unfold idxZ; rw [this]
theorem idxZ_any {α : Type} (p : α → Bool) (xs : List α) : decide (0 ≤ idxZ p xs) = xs.any p := by
 unfold idxZ
 cases h : xs.findIdx? p with
 | none =>
  rw [List.findIdx?_eq_none_iff] at h
  rw [List.any_eq_false.2 (fun x hx => by simpa using h x hx)]; rfl
 | some i =>
  rw [List.findIdx?_eq_some_iff_getElem] at h
  obtain ⟨hl, hp, _⟩ := h
  rw [List.any_eq_true.2 ⟨_, List.getElem_mem hl, hp⟩]
  simp
theorem take_snoc_no {α : Type} {p : α → Bool} {xs : List α} {i : Nat} {x : α} (h : ∀ y ∈ xs.take i, p y = false) (hi : xs[i]? = some x) (hx : p x = false) : ∀ y ∈ xs.take (i + 1), p y = false := by
 intro y hy
 rw [List.take_add_one, hi] at hy
 simp at hy
 rcases hy with hy | rfl
 · exact h y hy
 exact hx
theorem mayM_eq {o : Fq} {a : Mtx} {r0 : List Int} (h0 : a[0]? = some r0) (h1 : a.length ≤ 20) (h2 : 1 ≤ r0.length ∧ r0.length ≤ 20) : (!a.any fun r => decide (r.length ≠ r0.length) || r.any fun x => !inF o x) = mayM o a := by
 rw [Bool.eq_iff_iff, mayM_iff]
 have hw := wid_at h0
 have hl := (List.getElem?_eq_some_iff.1 h0).1
 simp only [Bool.not_eq_true', List.any_eq_false, Bool.or_eq_true, decide_eq_true_eq, List.any_eq_true, not_or, Bool.not_eq_true, hw]
 constructor
 ·
  intro h
  refine ⟨by omega, h1, h2.1, h2.2, fun r hr => ⟨?_, fun x hx => ?_⟩⟩
  · have := (h r hr).1; omega
  cases hi : inF o x with
  | true => rfl
  | false => exact absurd ⟨x, hx, by simp [hi]⟩ (h r hr).2
 rintro ⟨_, _, _, _, h⟩ r hr
 refine ⟨by have := (h r hr).1; omega, fun ⟨x, hx, hi⟩ => ?_⟩
 have := (h r hr).2 x hx
 rw [this] at hi; cases hi
def dotP (o : Fq) (r c : List Int) (i : Nat) : Nat := dotN o (r.take i) (c.take i)
theorem dotP_step {o : Fq} {r c : List Int} {i : Nat} {x y : Int} (hx : r[i]? = some x) (hy : c[i]? = some y) : dotP o r c (i + 1) = dotP o r c i ^^^ (gmul o x y).toNat := by
 have h1 := (List.getElem?_eq_some_iff.1 hx).1
 have h2 := (List.getElem?_eq_some_iff.1 hy).1
 unfold dotP dotN
 rw [List.take_add_one, List.take_add_one, hx, hy, List.zipWith_append (by simp; omega), List.foldl_append]
 rfl
theorem dotP_all (o : Fq) {r c : List Int} (h : r.length = c.length) : dotP o r c r.length = dotN o r c := by
 unfold dotP; rw [List.take_length, h, List.take_length]
theorem gmul_nn {D : FD} {B : Nat} {w : World} {v : Value} {o : Fq} (h : Fo D B w v o) (a b : Int) : ∃ z : Nat, gmul o a b = (z : Int) ∧ z < 65536 := by
 have := gmul_bd h a b
 exact ⟨(gmul o a b).toNat, by omega, by omega⟩
theorem gmul_toNat_lt {D : FD} {B : Nat} {w : World} {v : Value} {o : Fq} (h : Fo D B w v o) (a b : Int) : (gmul o a b).toNat < 2 ^ 16 := by have := gmul_bd h a b; omega
theorem dotN_lt {D : FD} {B : Nat} {w : World} {v : Value} {o : Fq} (h : Fo D B w v o) (r c : List Int) : dotN o r c < 2 ^ 16 := by
 refine fold_xor_lt _ _ (by decide) (fun z hz => ?_)
 obtain ⟨i, hi⟩ := List.getElem?_of_mem hz
 rw [List.getElem?_zipWith] at hi
 cases h1 : r[i]? with
 | none => rw [h1] at hi; cases hi
 | some x =>
  cases h2 : c[i]? with
  | none => rw [h1, h2] at hi; cases hi
  | some y => rw [h1, h2] at hi; obtain rfl := Option.some.inj hi; exact gmul_toNat_lt h x y
theorem Row.nilx {D : FD} {B M len cap : Nat} {w : World} {xs : List Value} (h : Row D B M w (.slice none len cap) xs) : xs = [] := by
 rcases h with ⟨_, _, _, h⟩ | ⟨g, o, cap', h1, _⟩
 · exact h
 cases h1
theorem take_snoc {α : Type} {l : List α} {i : Nat} {x : α} (h : l[i]? = some x) : l.take (i + 1) = l.take i ++ [x] := by rw [List.take_add_one, h]; rfl
theorem KC.stz {D : FD} {B : Nat} {Z : Nat → Prop} {w w' : World} {a : Addr} {v : Value} (h : KC D B w a v) (hs : StZ D B Z w w') (hz : ¬ Z a.block) : KC D B w' a v := by
 have hk := hs.ext.keep a.block h.2.1 hz h.2.2
 exact ⟨(cell_of_heap hk).trans h.1, Nat.lt_of_lt_of_le h.2.1 hs.ext.size, h.2.2.imp id (notT_of hk)⟩
theorem Mk.xt {D : FD} {B n m : Nat} {ds : List Nat} {w w' : World} (h : Mk n ds w) (hs : Xt D B m w w') (hd : ∀ d ∈ ds, d < m) : Mk n ds w' :=
 ⟨h.1, fun k hk => ⟨(h.2 k hk).1, (hs.keep k (heap_lt (h.2 k hk).2) (.inl (hd k hk)) (.inr (notT_nc (h.2 k hk).2 rfl))).trans (h.2 k hk).2⟩⟩
theorem Fo.xt {D : FD} {B n : Nat} {w w' : World} {v : Value} {o : Fq} (h : Fo D B w v o) (hs : Xt D B n w w') : Fo D B w' v o := by
 cases o with
 | none => exact h
 | some q => obtain ⟨h1, k, h2, h3⟩ := h; exact ⟨h1, k, h2, hs.fld k _ _ h3⟩
def encR (D : FD) (B : Nat) (x : List Int) (A : World) (v : Value) : Prop := ∃ b, Own D B 0 A D.E v b (zints x)
theorem encR.xt {D : FD} {B n : Nat} {x : List Int} {v : Value} {A C : World} (h : encR D B x A v) (hs : Xt D B n A C) : encR D B x C v := let ⟨b, h⟩ := h; ⟨b, h.xt D.ne hs⟩
def cfill (mt : Mtx) (j i : Nat) : List Int := (colAt mt j).take i ++ List.replicate (mt.length - i) 0
theorem colAt_length (mt : Mtx) (j : Nat) : (colAt mt j).length = mt.length := by simp [colAt]
theorem cfill_len {mt : Mtx} {j i : Nat} (h : i ≤ mt.length) : (cfill mt j i).length = mt.length := by simp [cfill, colAt_length]; omega
theorem cfill_zero (mt : Mtx) (j : Nat) : cfill mt j 0 = List.replicate mt.length 0 := by simp [cfill]
theorem cfill_all (mt : Mtx) (j : Nat) : cfill mt j mt.length = colAt mt j := by unfold cfill; rw [List.take_of_length_le (by rw [colAt_length]; omega)]; simp
theorem colAt_at {mt : Mtx} {j i : Nat} {r : List Int} {x : Int} (hr : mt[i]? = some r) (hx : r[j]? = some x) : (colAt mt j)[i]? = some x := by
 unfold colAt; rw [List.getElem?_map, hr]; simp [List.getD_eq_getElem?_getD, hx]
theorem cfill_step {mt : Mtx} {j i : Nat} {r : List Int} {x : Int} (hr : mt[i]? = some r) (hx : r[j]? = some x) : (cfill mt j i).set i x = cfill mt j (i + 1) := by
 have hl := (List.getElem?_eq_some_iff.1 hr).1
 have hc := colAt_at hr hx
 unfold cfill
 rw [List.set_append_right _ _ (by simp; omega), take_snoc hc, List.append_assoc]
 congr 1
 have e : i - ((colAt mt j).take i).length = 0 := by simp [colAt_length]; omega
 rw [e, show mt.length - i = (mt.length - (i + 1)) + 1 by omega, List.replicate_succ, List.set_cons_zero]
 rfl
theorem cols_at {mt : Mtx} {j : Nat} (h : j < wid mt) : ((List.range (wid mt)).map (colAt mt))[j]? = some (colAt mt j) := by simp [h]
theorem cols_get {mt : Mtx} {j : Nat} {x : List Int} (h : ((List.range (wid mt)).map (colAt mt))[j]? = some x) : j < wid mt ∧ x = colAt mt j := by
 have hl := (List.getElem?_eq_some_iff.1 h).1
 simp at hl
 rw [cols_at hl] at h
 exact ⟨hl, (Option.some.inj h).symm⟩
theorem mulRow_snoc {o : Fq} {b : Mtx} {r : List Int} {k : Nat} (h : k < wid b) : (mulRow o b r).take (k + 1) = (mulRow o b r).take k ++ [(dotN o r (colAt b k) : Int)] := by
 refine take_snoc ?_
 unfold mulRow
 simp [h]
theorem mulRow_length (o : Fq) (b : Mtx) (r : List Int) : (mulRow o b r).length = wid b := by simp [mulRow]
theorem mulM_t {o : Fq} {a b : Mtx} (h1 : mayM o a = true) (h2 : mayM o b = true) (h3 : wid a = b.length) : mulM o a b = some (a.map (mulRow o b)) := by
 unfold mulM mulB; rw [h1, h2, decide_eq_true h3]; rfl
theorem mulM_f {o : Fq} {a b : Mtx} (h : mayM o a = false ∨ mayM o b = false ∨ wid a ≠ b.length) : mulM o a b = none := by
 unfold mulM mulB
 rcases h with h | h | h
 · rw [h]; rfl
 · rw [h]; simp
 rw [decide_eq_false h]; simp
theorem map_snoc {α β : Type} {f : α → β} {l : List α} {i : Nat} {x : α} (h : l[i]? = some x) : (l.take (i + 1)).map f = (l.take i).map f ++ [f x] := by rw [take_snoc h, List.map_append]; rfl
theorem Rd.W_dS {P : Program} {r : Option Nat} {N : Kont} {X : List (Nat × Kont)} {R : Kont} {a : Act} {w : World} {ops : Array Oper} (S : World → Prop) {id m : Nat} (hsz : ops.size = m) (hm : P.follows .mixedOrders = true) (hd : noDefer ops.toList = true)
  (h : ∀ K : Kont, (∀ a w, N a w → K a w) → WS P S ops K m (Array.replicate m false) a { w with drawn := w.drawn + 1 }) : WI P r (.region id ops true) N X R a w := by
 subst hsz
 refine wpIn_mono (wpIn_region_draw fun t => ?_) Rd.qof_reg
 simp only [Region.schedule, hm, Bool.true_or, if_true]
 exact opsIn_of qof_no hd _ _ _ (wpAny_sound ops.size t _ a _ (wpAny_of_held _ _ _ _ (h N (fun _ _ h => h))))
end Go.Gam
/- Sums of products in a field; matrices as tables of numbers; what products, rows picked and joined tell. No program in sight. -/
namespace Go.Gam
open Px
def xsum : Nat → (Nat → Nat) → Nat
 | 0, _ => 0
 | n + 1, f => xsum n f ^^^ f n
end Go.Gam
/- Rows reduced by their first columns; inverses, ranks, what is solved; rows of powers. No program in sight. -/
namespace Go.Gam
open Px
abbrev Tb := Nat → Nat → Nat
def I1 : Tb := fun i j => if i = j then 1 else 0
namespace Fld
variable (F : Fld)
def Bd (f : Tb) : Prop := ∀ i j, f i j < 2 ^ F.w
def mm (m : Nat) (f g : Tb) : Tb := fun i j => xsum m fun l => F.mul (f i l) (g l j)
structure Iv (n : Nat) (E E' : Tb) : Prop where
 bd : F.Bd E
 bd' : F.Bd E'
 r : ∀ i j, i < n → j < n → F.mm n E E' i j = I1 i j
 l : ∀ i j, i < n → j < n → F.mm n E' E i j = I1 i j
structure Red (n c : Nat) (f g : Tb) (t : Nat) : Prop where
 bd : F.Bd g
 tn : t ≤ n
 tc : t ≤ c
 ex : ∃ E E', F.Iv n E E' ∧ ∀ i j, i < n → g i j = F.mm n E f i j
 pv : ∃ p : Nat → Nat, (∀ r, r < t → p r < c ∧ ∀ i, i < n → g i (p r) = I1 i r) ∧ (t = c → ∀ r, r < t → p r = r)
 zr : ∀ i j, t ≤ i → i < n → j < c → g i j = 0
end Fld
end Go.Gam
/- The laws of the fields, as the statements of layer 2 ask them. No program in sight. -/
namespace Go.Gam
open Px
theorem newF_p {wb p : Nat} (h : Prm wb p) : newF (wb : Int) p = some (wb, p) := by
 rw [newF_t ⟨by have := h.w; omega, by rw [deg_pos h.p0, h.lg], h.pr⟩]; rfl
theorem prm_285 : Prm 8 285 := ⟨.inl rfl, prim_285, by decide +kernel⟩
theorem prm_69643 : Prm 16 69643 := ⟨.inr rfl, prim_69643, by decide +kernel⟩
section
variable {wb p : Nat} (h : Prm wb p)
include h
theorem ginv_nat {x : Nat} (hx : x < 2 ^ wb) (h0 : x ≠ 0) : ginv (some (wb, p)) (x : Int) = (Px.pow x p (2 ^ wb - 2) : Int) := by
 have hs := h.size
 rw [ginv_in (inF_of hx) (by omega), show ((fsz (some (wb, p)) : Nat) : Int) - 2 = ((2 ^ wb - 2 : Nat) : Int) by show ((2 ^ wb : Nat) : Int) - 2 = _; omega, gpow_in hx]
theorem gpow_sum {x : Nat} (hx : x < 2 ^ wb) (m n : Nat) : gpow (some (wb, p)) (x : Int) ((m : Int) + (n : Int)) = gmul (some (wb, p)) (gpow (some (wb, p)) (x : Int) (m : Int)) (gpow (some (wb, p)) (x : Int) (n : Int)) := by
 rw [show (m : Int) + (n : Int) = ((m + n : Nat) : Int) by omega, gpow_in hx, gpow_in hx, gpow_in hx, gmul_in (h.pow_lt _ _) (h.pow_lt _ _), pow_add]
end
end Go.Gam
/- Rows in memory that a walk writes: each in a block of its own; scopes; what one step of the reduction is. No program in sight. -/
namespace Go.Gam
open Px
section
variable {P : Program} {ops : Array Oper} {K : Kont} {rest : List Oper} {n : NN} {F : Fs} {T : TypeId} {pp : String} {af : Array Edge} {v : Value} {d : Nat} {a : Act} {w : World} {x y : Operand} {D : FD} {B : Nat}
theorem v_capS {t e by_ : Nat} {z : Value} {ats : Array TypeId} {a : Option Addr} {n c : Nat} (hat : ats = #[t]) (ht : Sl P t e z by_) (hx : ev F x = some (.slice a n c)) : Val P (.call ⟨.builtin .cap, #[x], ats⟩) T F w (.int .i64 (c : Int)) :=
 fun ρ h d p af g => by
  subst hat
  simp [execOp, resolve, invoke, builtin, Builtin.cap_, h x _ hx, underlying, ht.1, program, Sem.run, goInt]
theorem zeroCells_one (z : Value) (k : Nat) : Builtin.zeroCells #[z] k = (List.replicate k z).toArray := by
 apply Array.ext
 · simp [Builtin.zeroCells]
 intro i h1 h2
 simp [Builtin.zeroCells, Nat.mod_one]
theorem s_appZ {t tx e by_ m : Nat} {ats : Array TypeId} {z : Value} {k1 : IntKind} {X : Int} (hF : Fr n F a) (hat : ats = #[t, tx]) (ht : Sl P t e z by_) (htx : P.underlying tx = some (.int k1)) (hx : ev F x = some (.slice none 0 0)) (hy : ev F y = some (.int .i64 X))
  (hX : X = (m : Int)) (h0 : 0 < m) (hm : m * by_ ≤ 8388608 ∧ m ≤ 1048576) (he : e ≠ D.T) (hI : Inv D B w) (hd : Nat.blt d n.n = true)
  (k : ∀ w' a c, Mb D B none w w' → Inv D B w' → Own D B w.heap.size w' e (.slice (some ⟨w.heap.size, 0, none⟩) m c) (some w.heap.size) (List.replicate m z) → Fr n ((d, .slice (some ⟨w.heap.size, 0, none⟩) m c) :: F) a → WL P ops K rest a w') :
  WL P ops K (⟨some d, .call ⟨.builtin .append, #[x, y], ats⟩, T, pp, af, none⟩ :: rest) a w := by
 subst hat
 subst hX
 obtain ⟨t1, tz, i, t2, t3, t4, t5⟩ := ht
 subst t5
 have hml : m ≤ maxLen := Nat.le_trans hm.2 (by decide)
 have hge := grownCap_ge w m 0 e
 have hcm := grownCap_le_maxLen w m 0 e hml
 have hpn : Priv D B w w.heap.size := hI.priv_new (Nat.le_refl _)
 have hmn : m ≠ 0 := by omega
 have h63 : ¬ (9223372036854775807 < (m : Int)) := by omega
 have h48 : ¬ (281474976710656 < Builtin.nextslicecap m 0 * i.bytes) := by rw [nextslicecap_zero h0]; omega
 have h48' : ¬ (281474976710656 < (m : Int) * (i.bytes : Int)) := by
  have e1 : (m : Int) * (i.bytes : Int) = ((m * i.bytes : Nat) : Int) := by simp
  rw [e1]; omega
 have hw : IntKind.i64.wrap (m : Int) = (m : Int) := wrap_i64 _ (by omega)
 have hm0 : ¬ ((m : Int) < 0) := by omega
 have hz : ∀ k, Builtin.zeroCells z.cells k = (List.replicate k z).toArray := fun k => by rw [tz]; exact zeroCells_one z k
 obtain ⟨c, hc⟩ : ∃ c, c = grownCap w m 0 e := ⟨_, rfl⟩
 have hrun : (Builtin.append_ #[t, tx] T #[.slice none 0 0, .int .i64 (m : Int)]).run P w = .ok (.slice (some ⟨w.heap.size, 0, none⟩) m c) (w.drew.alloc (.cells (List.replicate m z ++ List.replicate (c - m) z).toArray e)) := by
  simp [Builtin.append_, run_underlying t1, run_underlying htx, sizeOf, typeInfo, zeroValue, t2, t3, t4, asInt, asIntOf, hw, hm0, hmn, h63, h48, h48', Question.forced, run_firstCells_none, newRow, hz, hc, grownCap]
 rw [← hc] at hge hcm
 have ho : Own D B w.heap.size (w.drew.alloc (.cells (List.replicate m z ++ List.replicate (c - m) z).toArray e)) e (.slice (some ⟨w.heap.size, 0, none⟩) m c) (some w.heap.size) (List.replicate m z) :=
  .inr ⟨w.heap.size, c, _, by simp, rfl, Nat.le_refl _, hI.1, alloc_new w.drew _, by simpa using hge, hcm, by simp; omega, by simp, (Mb.drew_alloc _ e he).priv hpn⟩
 refine s_run (w' := w.drew.alloc (.cells (List.replicate m z ++ List.replicate (c - m) z).toArray e)) hF (fun ρ h => ?_) hd fun a hF => k _ a c (Mb.drew_alloc _ e he) ((Mb.drew_alloc _ e he).inv hI) ho hF
 simp [execOp, resolve, invoke, builtin, h x _ hx, h y _ hy, hrun]
end
theorem Own.to {D : FD} {B N E g l cap hi : Nat} {w : World} {b : Option Nat} {xs : List Value} (h : Own D B N w E (.slice (some ⟨g, 0, none⟩) l cap) b xs) (h1 : hi ≤ xs.length) : Own D B N w E (.slice (some ⟨g, 0, none⟩) hi cap) b (xs.take hi) := by
 rcases h with ⟨h, _⟩ | ⟨g', cap', cur, e, h0, h1', hB, h2, h3, h4, h5, h6, h7⟩
 · cases h
 obtain ⟨e1, e2, rfl⟩ := Value.slice.inj e
 injection e1 with e1; injection e1 with e1
 subst e1
 have hl : (xs.take hi).length = hi := by simp; omega
 refine .inr ⟨g, cap, cur, by rw [hl], h0, h1', hB, h2, by omega, h4, h5, ?_, h7⟩
 rw [hl, ← h6, List.take_take, Nat.min_eq_left h1]
def trow (m : Nat) (f : Tb) (i : Nat) : List Int := (List.range m).map fun j => (f i j : Int)
@[simp] theorem trow_length (m : Nat) (f : Tb) (i : Nat) : (trow m f i).length = m := by simp [trow]
def vls (n m : Nat) (bs rc : Nat → Nat) : List Value := (List.range n).map fun i => .slice (some ⟨bs i, 0, none⟩) m (rc i)
@[simp] theorem vls_length (n m : Nat) (bs rc : Nat → Nat) : (vls n m bs rc).length = n := by simp [vls]
theorem vls_at {n m i : Nat} {bs rc : Nat → Nat} (h : i < n) : (vls n m bs rc)[i]? = some (.slice (some ⟨bs i, 0, none⟩) m (rc i)) := by simp [vls, h]
theorem Own.kc {D : FD} {B N E g l cap i : Nat} {w : World} {b : Option Nat} {xs : List Value} {u : Value} (h : Own D B N w E (.slice (some ⟨g, 0, none⟩) l cap) b xs) (hE : E ≠ D.T) (hi : xs[i]? = some u) : KC D B w ⟨g, 0 + i, none⟩ u := by
 obtain ⟨g', o, e, hk, -⟩ := (h.row hE).kat hi
 injection e with e; injection e with e1 e2
 subst e1; subst e2
 exact hk
theorem Own.stz {D : FD} {B N E : Nat} {Z : Nat → Prop} {w w' : World} {v : Value} {b : Option Nat} {xs : List Value} (h : Own D B N w E v b xs) (hE : E ≠ D.T) (hs : StZ D B Z w w') (hz : ∀ k, b = some k → ¬ Z k) : Own D B N w' E v b xs := by
 rcases h with h | ⟨g, cap, cur, rfl, rfl, h1, hB, h2, h3, h4, h5, h6, h7⟩
 · exact .inl h
 refine .inr ⟨g, cap, cur, rfl, rfl, h1, hB, ?_, h3, h4, h5, h6, hs.ext.priv g (heap_lt h2) h7⟩
 rw [hs.ext.keep g (heap_lt h2) (hz g rfl) (.inr fun c fr e => by rw [h2] at e; exact hE (Obj.cells.inj (Option.some.inj e)).2.1)]
 exact h2
structure Wr (D : FD) (B N K : Nat) (w : World) (n m : Nat) (bs rc : Nat → Nat) (f : Tb) : Prop where
 row : ∀ i, i < n → Own D B N w D.E (.slice (some ⟨bs i, 0, none⟩) m (rc i)) (some (bs i)) (zints (trow m f i))
 inj : ∀ i j, i < n → j < n → bs i = bs j → i = j
 lt : ∀ i, i < n → bs i < K
section
variable {D : FD} {B N K n m : Nat} {w w' : World} {bs rc : Nat → Nat} {f g : Tb}
theorem vls_snoc {gx cx : Nat} : vls (n + 1) m (fun a => if a = n then gx else bs a) (fun a => if a = n then cx else rc a) = vls n m bs rc ++ [.slice (some ⟨gx, 0, none⟩) m cx] := by
 unfold vls
 rw [List.range_succ, List.map_append]
 congr 1
 ·
  refine List.map_congr_left fun i hi => ?_
  have := List.mem_range.1 hi
  dsimp only
  rw [if_neg (by omega), if_neg (by omega)]
 simp
end
end Go.Gam
/- Plain laws of regions: numbers and bytes there and back, sums and products. No program in sight. -/
namespace Go.Gam
open Px
theorem w2_cons (a b : Nat) (r : List Nat) : wordsN 2 (a :: b :: r) = (a + 256 * b) :: wordsN 2 r := by
 have h : (a :: b :: r).length / 2 = r.length / 2 + 1 := by simp only [List.length_cons]; omega
 unfold wordsN
 rw [h, List.range_succ_eq_map]
 simp [List.getD_eq_getElem?_getD, Function.comp_def, Nat.mul_add]
theorem w1_eq (bs : List Nat) : wordsN 1 bs = bs := by
 unfold wordsN
 apply List.ext_getElem
 · simp
 intro i h1 h2
 simp [List.getD_eq_getElem?_getD, List.getElem?_eq_getElem h2]
theorem b1_eq {l : List Nat} (h : ∀ x ∈ l, x < 256) : bytesN 1 l = l := by
 induction l with
 | nil => rfl
 | cons a l ih =>
  have e : bytesN 1 (a :: l) = [a % 256] ++ bytesN 1 l := rfl
  rw [e, ih (fun x hx => h x (by simp [hx])), Nat.mod_eq_of_lt (h a (by simp))]; rfl
theorem b2_cons (x : Nat) (l : List Nat) : bytesN 2 (x :: l) = x % 256 :: x / 256 :: bytesN 2 l := rfl
theorem bw2 : ∀ (bs : List Nat), bs.length % 2 = 0 → (∀ x ∈ bs, x < 256) → bytesN 2 (wordsN 2 bs) = bs
 | [], _, _ => rfl
 | [a], h, _ => by simp at h
 | a :: b :: r, h, h8 => by
  have h1 := h8 a (by simp)
  rw [w2_cons, b2_cons, bw2 r (by simp at h; omega) (fun x hx => h8 x (by simp [hx]))]
  rw [show (a + 256 * b) % 256 = a by omega, show (a + 256 * b) / 256 = b by omega]
theorem wb2 : ∀ (l : List Nat), (∀ x ∈ l, x < 65536) → wordsN 2 (bytesN 2 l) = l
 | [], _ => rfl
 | x :: l, h => by
  rw [b2_cons, w2_cons, wb2 l (fun y hy => h y (by simp [hy]))]
  have := h x (by simp)
  rw [show x % 256 + 256 * (x / 256) = x by omega]
theorem nn12 {wb p : Nat} (hp : Prm wb p) : wb = 8 ∧ wb / 8 = 1 ∨ wb = 16 ∧ wb / 8 = 2 := by have := hp.w; omega
theorem bytes_words {wb p : Nat} (hp : Prm wb p) {bs : List Nat} (h : bs.length % (wb / 8) = 0) (h8 : ∀ x ∈ bs, x < 256) : bytesN (wb / 8) (wordsN (wb / 8) bs) = bs := by
 rcases nn12 hp with ⟨_, e⟩ | ⟨_, e⟩ <;> rw [e] at h ⊢
 · rw [w1_eq, b1_eq h8]
 exact bw2 bs h h8
theorem words_bytes {wb p : Nat} (hp : Prm wb p) {l : List Nat} (h : ∀ x ∈ l, x < 2 ^ wb) : wordsN (wb / 8) (bytesN (wb / 8) l) = l := by
 rcases nn12 hp with ⟨e0, e⟩ | ⟨e0, e⟩ <;> rw [e] <;> subst e0
 · rw [w1_eq, b1_eq h]
 exact wb2 l h
theorem bytesN_length {wb p : Nat} (hp : Prm wb p) (l : List Nat) : (bytesN (wb / 8) l).length = l.length * (wb / 8) := by
 rcases nn12 hp with ⟨_, e⟩ | ⟨_, e⟩ <;> rw [e]
 · rw [bytesN_len1]; omega
 rw [bytesN_len2]; omega
theorem words_lt {wb p : Nat} (hp : Prm wb p) {bs : List Nat} (h8 : ∀ x ∈ bs, x < 256) : ∀ x ∈ wordsN (wb / 8) bs, x < 2 ^ wb := by
 intro x hx
 obtain ⟨j, hj, rfl⟩ := List.mem_map.1 hx
 have g := getD_lt h8
 rcases nn12 hp with ⟨e0, e⟩ | ⟨e0, e⟩ <;> rw [e] <;> subst e0
 · rw [if_neg (by decide)]; exact g j
 rw [if_pos rfl]; have h1 := g (2 * j); have h2 := g (2 * j + 1); omega
theorem all_in {wb p : Nat} {l : List Nat} (h : ∀ x ∈ l, x < 2 ^ wb) : (l.map fun (n : Nat) => (n : Int)).all (inF (some (wb, p))) = true := by
 rw [List.all_eq_true]
 intro z hz
 obtain ⟨x, hx, rfl⟩ := List.mem_map.1 hz
 exact inF_of (h x hx)
theorem toNat_map (l : List Nat) : (l.map fun (n : Nat) => (n : Int)).map Int.toNat = l := by rw [List.map_map]; exact List.map_id'' (fun x => rfl) l
theorem rbytes_nat {wb p : Nat} {l : List Nat} (h : ∀ x ∈ l, x < 2 ^ wb) : rbytes (some (wb, p)) (l.map fun (n : Nat) => (n : Int)) = some (bytesN (wb / 8) l) := by rw [rbytes_t rfl (all_in h), toNat_map]
theorem rwords_bytes {wb p : Nat} (hp : Prm wb p) {l : List Nat} (h : ∀ x ∈ l, x < 2 ^ wb) : rwords (some (wb, p)) (bytesN (wb / 8) l) = some l := by
 rw [rwords_t rfl (by rw [bytesN_length hp]; exact Nat.mul_mod_left _ _), words_bytes hp h]
theorem as_words {wb p : Nat} (hp : Prm wb p) {bs : List Nat} (h : bs.length % (wb / 8) = 0) (h8 : ∀ x ∈ bs, x < 256) : ∃ ws, bs = bytesN (wb / 8) ws ∧ ∀ x ∈ ws, x < 2 ^ wb := ⟨_, (bytes_words hp h h8).symm, words_lt hp h8⟩
theorem rmul_bytes {wb p : Nat} (hp : Prm wb p) {c : Nat} (hc : c < 2 ^ wb) {ws : List Nat} (h : ∀ x ∈ ws, x < 2 ^ wb) : rmul (some (wb, p)) (c : Int) (bytesN (wb / 8) ws) = some (bytesN (wb / 8) (ws.map fun x => mulMod c x p)) := by
 rw [rmul_some (rwords_bytes hp h) (inF_of hc)]
 have e : (ws.map fun (a : Nat) => gmul (some (wb, p)) (c : Int) (a : Int)) = (ws.map fun x => mulMod c x p).map fun (n : Nat) => (n : Int) := by
  rw [List.map_map]
  exact List.map_congr_left fun x hx => gmul_in hc (h x hx)
 rw [e, rbytes_nat (fun x hx => by obtain ⟨y, _, rfl⟩ := List.mem_map.1 hx; exact hp.mulMod_lt _ _)]
theorem xorB_map (f : Nat → Nat) (hf : ∀ a b, f (a ^^^ b) = f a ^^^ f b) : ∀ (x y : List Nat), (xorB x y).map f = xorB (x.map f) (y.map f)
 | [], _ => rfl
 | _ :: _, [] => rfl
 | a :: x, b :: y => by
  show f (a ^^^ b) :: (xorB x y).map f = (f a ^^^ f b) :: xorB (x.map f) (y.map f)
  rw [hf, xorB_map f hf x y]
theorem xorB_bytes (n : Nat) : ∀ (x y : List Nat), x.length = y.length → bytesN n (xorB x y) = xorB (bytesN n x) (bytesN n y)
 | [], [], _ => rfl
 | a :: x, b :: y, h => by
  have ih := xorB_bytes n x y (by simpa using h)
  have e1 : bytesN n (xorB (a :: x) (b :: y)) = (if n = 2 then [(a ^^^ b) % 256, (a ^^^ b) / 256] else [(a ^^^ b) % 256]) ++ bytesN n (xorB x y) := rfl
  have e2 : bytesN n (a :: x) = (if n = 2 then [a % 256, a / 256] else [a % 256]) ++ bytesN n x := rfl
  have e3 : bytesN n (b :: y) = (if n = 2 then [b % 256, b / 256] else [b % 256]) ++ bytesN n y := rfl
  have m : (a ^^^ b) % 256 = (a % 256) ^^^ (b % 256) := Nat.xor_mod_two_pow (n := 8)
  have d : (a ^^^ b) / 256 = (a / 256) ^^^ (b / 256) := Nat.xor_div_two_pow (n := 8)
  rw [e1, e2, e3, ih, m, d]
  split <;> rfl
 | [], _ :: _, h => by simp at h
 | _ :: _, [], h => by simp at h
theorem xorB_lt' {k : Nat} {a b : List Nat} (ha : ∀ x ∈ a, x < 2 ^ k) (hb : ∀ x ∈ b, x < 2 ^ k) : ∀ x ∈ xorB a b, x < 2 ^ k := by
 intro x hx
 obtain ⟨i, hi⟩ := List.getElem?_of_mem hx
 unfold xorB at hi
 rw [List.getElem?_zipWith] at hi
 cases h1 : a[i]? with
 | none => rw [h1] at hi; cases hi
 | some u =>
  cases h2 : b[i]? with
  | none => rw [h1, h2] at hi; cases hi
  | some v =>
   rw [h1, h2] at hi
   obtain rfl := Option.some.inj hi
   exact Px.xor_lt (ha u (List.mem_of_getElem? h1)) (hb v (List.mem_of_getElem? h2))
theorem xorB_back : ∀ (a b : List Nat), a.length = b.length → xorB (xorB a b) b = a
 | [], [], _ => rfl
 | a :: x, b :: y, h => by
  show ((a ^^^ b) ^^^ b) :: xorB (xorB x y) y = a :: x
  rw [xorB_back x y (by simpa using h), Nat.xor_assoc, Nat.xor_self, Nat.xor_zero]
 | [], _ :: _, h => by simp at h
 | _ :: _, [], h => by simp at h
theorem rsum_two {x y : List Nat} (h : x.length = y.length) : rsum [x, y] = some (xorB x y) := by
 rw [rsum_t (b0 := x) rfl (by simp [h])]
 show some (xorB (xorB (List.replicate x.length 0) x) y) = _
 rw [xorB_zero]
theorem rsum_two_no {x y : List Nat} (h : x.length ≠ y.length) : rsum [x, y] = none := rsum_f (b0 := x) (b := y) rfl (by simp) (by omega)
theorem spreads {wb p : Nat} (hp : Prm wb p) {m : Nat} (hm : m < 2 ^ wb) {a b : List Nat} (hl : a.length = b.length) (ha : a.length % (wb / 8) = 0) (ha8 : ∀ x ∈ a, x < 256) (hb8 : ∀ x ∈ b, x < 256) :
  ∃ P Q X, rmul (some (wb, p)) (m : Int) a = some P ∧ rmul (some (wb, p)) (m : Int) b = some Q ∧ rmul (some (wb, p)) (m : Int) (xorB a b) = some X ∧ P.length = Q.length ∧ X = xorB P Q := by
 obtain ⟨x, rfl, hx⟩ := as_words hp ha ha8
 obtain ⟨y, rfl, hy⟩ := as_words hp (show b.length % (wb / 8) = 0 by rw [← hl]; exact ha) hb8
 have hxy : x.length = y.length := by
  rw [bytesN_length hp, bytesN_length hp] at hl
  have : 0 < wb / 8 := by have := hp.w; omega
  exact Nat.eq_of_mul_eq_mul_right this hl
 refine ⟨_, _, _, rmul_bytes hp hm hx, rmul_bytes hp hm hy, by rw [← xorB_bytes _ _ _ hxy]; exact rmul_bytes hp hm (xorB_lt' hx hy), ?_, ?_⟩
 · rw [bytesN_length hp, bytesN_length hp]; simp [hxy]
 rw [← xorB_bytes _ _ _ (by simp [hxy]), xorB_map _ (fun a b => Px.mulMod_xor m a b p)]
theorem rsum2 (x y : List Nat) : rsum [x, y] = if x.length = y.length then some (xorB x y) else none := by
 by_cases h : x.length = y.length
 · rw [if_pos h, rsum_two h]
 rw [if_neg h, rsum_two_no h]
theorem rdot_lt {wb p : Nat} (hp : Prm wb p) (cs : List Int) (bss : List (List Nat)) : ∀ x ∈ (rdot (some (wb, p)) cs bss).getD [], x < 256 := by
 unfold rdot
 split
 ·
  cases h : rmuls (some (wb, p)) cs bss with
  | none => simp
  | some xs =>
   have key : ∀ (cs : List Int) (bss xs : List (List Nat)), rmuls (some (wb, p)) cs bss = some xs → ∀ x ∈ xs, ∀ u ∈ x, u < 256 := by
    intro cs
    induction cs with
    | nil => intro bss xs h; obtain rfl : [] = xs := by cases bss <;> exact Option.some.inj h
             simp
    | cons c cs ih =>
     intro bss xs h
     cases bss with
     | nil => obtain rfl : [] = xs := Option.some.inj h
              simp
     | cons b bs =>
      simp only [rmuls] at h
      cases h1 : rmul (some (wb, p)) c b with
      | none => rw [h1] at h; cases h
      | some y =>
       rw [h1] at h
       cases h2 : rmuls (some (wb, p)) cs bs with
       | none => rw [h2] at h; cases h
       | some ys =>
        rw [h2] at h
        obtain rfl : y :: ys = xs := Option.some.inj h
        intro z hz
        rcases List.mem_cons.1 hz with rfl | hz
        · exact (rmul_props (show fsz (some (wb, p)) ≤ 65536 from hp.size.2) h1).1
        exact ih bs ys h2 z hz
   have hk := key cs bss xs h
   rw [Option.bind_some]
   cases xs with
   | nil => simp [rsum]
   | cons x0 r =>
    simp only [rsum]
    split
    · exact foldl_lt _ _ (by simp) hk
    simp
 simp
def kcut (wb : Nat) (l : List Nat) : List Nat := l.map fun n => if wb = 8 then n % 256 else n
@[simp] theorem kcut_length (wb : Nat) (l : List Nat) : (kcut wb l).length = l.length := by simp [kcut]
end Go.Gam
/- What the statements of layer 5 ask of inverses, ranks, what is solved. No program in sight. -/
/- Matrices of powers: what package vander tells; rows that are chosen. No program in sight. -/
namespace Go.Gam
open Px
def bls (b : Nat) : List Value := (List.range 20).map fun x => .bool (b.testBit x)
@[simp] theorem bls_length (b : Nat) : (bls b).length = 20 := by simp [bls]
end Go.Gam
/- Rows of the identity with other rows behind it: which of them, as many as columns, have an inverse; minors. No program in sight. -/
/- What the statements of layer 6 ask of matrices of powers. No program in sight. -/
/- Jerasure's rows of powers, their columns reduced, what is left behind the identity. No program in sight. -/
namespace Go.Gam
open Px
section
variable {wb p : Nat} (hp : Prm wb p)
variable {k m : Nat} (hk : 1 ≤ k) (hm : 1 ≤ m) (h20 : k + m ≤ 20)
include hk hm h20
end
end Go.Gam
/- Records of two fields of one cell each; rows that are a walk's own, as they are gathered. No program in sight. -/
namespace Go.Gam
open Px
theorem agg_cells (cs : Array Value) : (Value.agg cs).cells = cs := rfl
theorem Blk.ne_own {D : FD} {B N' : Nat} {w : World} {g : Nat} {E E' : TypeId} {cs : List Value} {u : Value} {b : Option Nat} {xs : List Value} (h : Blk w g E cs) (ho : Own D B N' w E' u b xs) (hE : E ≠ E') : b ≠ some g := by
 intro e
 rcases ho with ⟨_, h', _⟩ | ⟨g', cap', cur, rfl, hb, h1, hB, h2, h3⟩
 · rw [h'] at e; cases e
 rw [hb] at e; obtain rfl := Option.some.inj e
 have hk : w.heap[g']? = _ := h
 rw [h2] at hk
 exact hE (Obj.cells.inj (Option.some.inj hk)).2.1.symm
theorem StZ.cut {D : FD} {B : Nat} {Z : Nat → Prop} {w w' : World} (h : StZ D B (fun k => Z k ∨ w.heap.size ≤ k) w w') : StZ D B Z w w' :=
 ⟨⟨h.ext.os, h.ext.tape, h.ext.output, h.ext.size, fun k hk hz hc => h.ext.keep k hk (fun e => e.elim hz (by omega)) hc, h.ext.oth, h.ext.fld, h.ext.priv, h.ext.made⟩, h.inv⟩
theorem StZ.mbn {D : FD} {B : Nat} {Z : Nat → Prop} {b : Option Nat} {w0 w w' : World} (hs : StZ D B Z w0 w) (h : Mb D B b w w') (hb : ∀ k, b = some k → w0.heap.size ≤ k ∧ ∃ c e fr, w.heap[k]? = some (.cells c e fr)) : StZ D B Z w0 w' :=
 ((hs.weak (Z' := fun k => Z k ∨ w0.heap.size ≤ k) fun k z => .inl z).mb h (fun k e => ⟨.inr (hb k e).1, (hb k e).2⟩)).cut
end Go.Gam
/- Records and rows of records: values that are built, blocks of a walk's own. No program in sight. -/
namespace Go.Gam
open Px
def evP (F : Fs) : List (Nat × Operand) → Option (List (Nat × Value))
 | [] => some []
 | (i, x) :: r => match ev F x with
  | none => none
  | some v => match evP F r with
   | none => none
   | some l => some ((i, v) :: l)
theorem evP_reads {F : Fs} {ρ : Operand → Value} (h : Reads F ρ) : ∀ (ps : List (Nat × Operand)) (vs : List (Nat × Value)), evP F ps = some vs → ps.map (fun x => (x.1, ρ x.2)) = vs
 | [], vs, e => by simp [evP] at e; simp [e]
 | (i, x) :: r, vs, e => by
  unfold evP at e
  cases hx : ev F x with
  | none => rw [hx] at e; cases e
  | some v =>
   rw [hx] at e
   dsimp only at e
   cases hr : evP F r with
   | none => rw [hr] at e; cases e
   | some l =>
    rw [hr] at e
    obtain rfl := Option.some.inj e
    rw [List.map_cons, evP_reads h r l hr, h x v hx]
structure RecB (D : FD) (B N : Nat) (w : World) (g : Nat) (E : TypeId) (cs : List Value) : Prop where
 blk : Blk w g E cs
 low : N ≤ g
 base : B ≤ g
 priv : Priv D B w g
 ty : E ≠ D.T
section
variable {D : FD} {B N g : Nat} {w w' : World} {E : TypeId} {cs : List Value}
theorem RecB.st (h : RecB D B N w g E cs) (hs : St D B w w') : RecB D B N w' g E cs := ⟨h.blk.st h.ty hs, h.low, h.base, hs.ext.priv g (heap_lt h.blk) h.priv, h.ty⟩
theorem RecB.mb {b : Option Nat} (h : RecB D B N w g E cs) (hm : Mb D B b w w') (hb : b ≠ some g) : RecB D B N w' g E cs := ⟨h.blk.mb hm hb, h.low, h.base, hm.priv h.priv, h.ty⟩
theorem RecB.ne_own {N' : Nat} {E' : TypeId} {u : Value} {b : Option Nat} {xs : List Value} (h : RecB D B N w g E cs) (ho : Own D B N' w E' u b xs) (hE : E ≠ E') : b ≠ some g := Blk.ne_own h.blk ho hE
theorem RecB.kc (h : RecB D B N w g E cs) (i : Nat) {v : Value} (hv : nth cs i = some v) : KC D B w ⟨g, i, none⟩ v := h.blk.kc h.ty i hv
theorem RecB.le {N' : Nat} (h : RecB D B N w g E cs) (hN : N' ≤ N) : RecB D B N' w g E cs := ⟨h.blk, Nat.le_trans hN h.low, h.base, h.priv, h.ty⟩
end
section
variable {P : Program} {ops : Array Oper} {K : Kont} {rest : List Oper} {n : NN} {F : Fs} {T : TypeId} {pp : String} {af : Array Edge} {v : Value} {d : Nat} {a : Act} {w : World} {x y : Operand} {D : FD} {B : Nat}
theorem v_build {t : TypeId} {ps : List (Nat × Operand)} {vs : List (Nat × Value)} {cs : Array Value} (hv : evP F ps = some vs) (h : P.built t vs = some cs) : Val P (.build t ps.toArray) T F w (.agg cs) :=
 fun ρ hr d p af g => by
  have e := evP_reads hr ps vs hv
  have := run_build (P := P) w t vs.toArray cs (by simpa using h)
  simp only [execOp, List.map_toArray, e]
  simp [this]
theorem v_loadN {t E : TypeId} {g : Nat} {cs : List Value} {d' : TypeDesc} (hu : P.underlying t = some d') (hd : (match d' with | .struct _ | .array _ _ => true | _ => false) = true) (hi : (P.info? t).map (fun i => i.size) = some cs.length) (hx : ev F x = some (.pointer (some ⟨g, 0, none⟩))) (hb : Blk w g E cs) : Val P (.load t x) T F w (.agg cs.toArray) :=
 fun ρ h d p af g' => by
  have := run_loadVar_row (P := P) w g E t cs.toArray (0, 0) _ hb hu hd (by simpa using hi)
  simp only [execOp, h x _ hx, Instr.loadAt, Instr.sureAddr]
  simp [this]
theorem s_allocN {e : TypeId} {z : Value} (hF : Fr n F a) (hz : (P.info? e).map (fun i => i.zero) = some (some z)) (he : e ≠ D.T) (hI : Inv D B w) (hd : Nat.blt d n.n = true)
  (k : ∀ g w' a, Mb D B none w w' → Inv D B w' → RecB D B w.heap.size w' g e z.cells.toList → Fr n ((d, .pointer (some ⟨g, 0, none⟩)) :: F) a → WL P ops K rest a w') :
  WL P ops K (⟨some d, .alloc e, T, pp, af, none⟩ :: rest) a w := by
 cases hi : P.info? e with
 | none => rw [hi] at hz; cases hz
 | some i =>
  rw [hi] at hz
  have hz2 : i.zero = some z := by simpa using hz
  have hm := Mb.alloc D B w z.cells e (0, 0) he
  refine s_run (w' := w.alloc (.cells z.cells e)) hF (fun ρ h => ?_) hd fun a hF => k _ _ a hm (hm.inv hI) ⟨by unfold Blk; rw [Array.toArray_toList]; exact alloc_new w _, Nat.le_refl _, hI.1, hm.priv (hI.priv_new (Nat.le_refl _)), he⟩ hF
  simp [execOp, Instr.alloc, zeroValue, typeInfo, hi, hz2, newVar, newRow, newObj, Sem.run]
theorem s_storeN {t E : TypeId} {g N : Nat} {old : List Value} {cs : Array Value} (hF : Fr n F a) (hi : (P.info? t).map (fun i => i.size) = some cs.size) (hx : ev F x = some (.pointer (some ⟨g, 0, none⟩))) (hy : ev F y = some (.agg cs)) (h1 : cs.toList.all (·.oneCell') = true) (hl : old.length = cs.size) (hb : RecB D B N w g E old) (hI : Inv D B w)
  (k : ∀ w', Mb D B (some g) w w' → Inv D B w' → RecB D B N w' g E cs.toList → WL P ops K rest a w') : WL P ops K (⟨none, .store t x y, T, pp, af, none⟩ :: rest) a w := by
 have hg : w.heap[g]? = some (.cells old.toArray E (0, 0)) := hb.blk
 have hst := run_storeVar_row (P := P) w g E t old.toArray cs hg hi (by simpa using hl) (by simpa using h1)
 have hrun : (execOp a.eval ⟨none, .store t x y, T, pp, af, none⟩).run P w = .ok .skip (w.setRow g cs) := by
  simp only [execOp, hF.reads x _ hx, hF.reads y _ hy, Instr.storeAt, Instr.sureAddr]
  simp [hst]
 have hm := Mb.setRow (D := D) (B := B) (cs := cs) hg hb.ty hb.base hb.priv
 unfold WL wpList
 rw [if_pos (by simp [Region.wanted])]
 refine .inl ?_
 unfold Oper.wp
 rw [hrun]
 exact k _ hm (hm.inv hI) ⟨by unfold Blk; rw [Array.toArray_toList]; exact setRow_heap w g _ cs E _ hg, hb.low, hb.base, hm.priv hb.priv, hb.ty⟩
theorem s_storeF {t E g N i : Nat} {cs : List Value} {u : Value} (hF : Fr n F a) (ht : One P t) (hx : ev F x = some (.pointer (some ⟨g, i, none⟩))) (hy : ev F y = some u) (hu : u.oneCell' = true) (hi : i < cs.length) (hb : RecB D B N w g E cs) (hI : Inv D B w)
  (k : ∀ w', Mb D B (some g) w w' → Inv D B w' → RecB D B N w' g E (cs.set i u) → WL P ops K rest a w') : WL P ops K (⟨none, .store t x y, T, pp, af, none⟩ :: rest) a w := by
 have hc : u.cells = #[u] := by cases u <;> first | rfl | simp [Value.oneCell'] at hu
 have hg : w.heap[g]? = some (.cells cs.toArray E (0, 0)) := hb.blk
 have hst := run_storeCells_at P g i E [u] 0 cs.toArray w hg (by simp; omega) (by simpa using hu)
 have hset : (cs.toArray.toList.take (i + 0) ++ [u] ++ cs.toArray.toList.drop (i + 0 + [u].length)).toArray = (cs.set i u).toArray := by
  apply Array.toList_inj.1
  simp only [List.toList_toArray]
  rw [List.set_eq_take_append_cons_drop, if_pos hi]
  simp
 rw [hset] at hst
 have hrun : (execOp a.eval ⟨none, .store t x y, T, pp, af, none⟩).run P w = .ok .skip (w.setRow g (cs.set i u).toArray) := by
  simp only [execOp, hF.reads x _ hx, hF.reads y _ hy, Instr.storeAt, Instr.sureAddr, storeVar, hc]
  simp [run_size1 ht, hst]
 have hm := Mb.setRow (D := D) (B := B) (cs := (cs.set i u).toArray) hg hb.ty hb.base hb.priv
 unfold WL wpList
 rw [if_pos (by simp [Region.wanted])]
 refine .inl ?_
 unfold Oper.wp
 rw [hrun]
 exact k _ hm (hm.inv hI) ⟨by unfold Blk; exact setRow_heap w g _ _ E _ hg, hb.low, hb.base, hm.priv hb.priv, hb.ty⟩
theorem v_indexR {t e s m : Nat} {i : Operand} {kd : IntKind} {I : Int} {cs : Array Value} {ds : TypeDesc} (ht : P.underlying t = some (.array m e)) (hs : (P.info? e).map (fun i => i.size) = some s) (hu : P.underlying e = some ds) (hd : (match ds with | .struct _ | .array _ _ => true | _ => false) = true)
  (hx : ev F x = some (.agg cs)) (hi : ev F i = some (.int kd I)) (h0 : 0 ≤ I) (hl : I < m) : Val P (.index t x i) T F w (.agg (cs.extract (I.toNat * s) (I.toNat * s + s))) :=
 fun ρ h d p af g => by
  cases hinf : P.info? e with
  | none => rw [hinf] at hs; cases hs
  | some inf =>
   rw [hinf] at hs
   have hs2 : inf.size = s := by simpa using hs
   have hagg : (isAgg e).run P w = .ok true w := by
    unfold isAgg
    rw [Sem.run_bind, run_underlying hu w]
    cases ds <;> simp_all
   simp [execOp, h x _ hx, h i _ hi, Instr.index, asIntOf, run_underlying ht, h0, hl, part, hagg, sizeOf, typeInfo, hinf, hs2]
end
section
variable {P : Program}
theorem ld_rec {D : FD} {B N g : Nat} {w : World} {t E : TypeId} {cs : List Value} {d' : TypeDesc} (hu : P.underlying t = some d') (hd : (match d' with | .struct _ | .array _ _ => true | _ => false) = true) (hi : (P.info? t).map (fun i => i.size) = some cs.length) (hb : RecB D B N w g E cs) : (loadVar t ⟨g, 0, none⟩).run P w = .ok (.agg cs.toArray) w :=
 run_loadVar_row (P := P) w g E t cs.toArray (0, 0) _ hb.blk hu hd (by simpa using hi)
theorem enterC {w : World} {f : FuncId} {fn : Func} {c : Code} {vs : List Value} {Q : Value → World → Prop} (n : NN) (F : Fs) (t ty : Nat) (hf : P.funcs[f]? = some fn) (hb : fn.body = some c) (hn : n = ⟨fn.ntmps, []⟩) (hr : fn.results = #[.cell t ty]) (hle : Nat.ble vs.length n.n = true) (hF : F = idx vs 0)
  (h : ∀ a, Fr n F a → W P c (fun a w => ∃ F' g v, Fr n F' a ∧ look F' t = some (.pointer (some g)) ∧ (loadVar ty g).run P w = .ok v w ∧ Q v w) [] (fun a w => ∃ F' g v, Fr n F' a ∧ look F' t = some (.pointer (some g)) ∧ (loadVar ty g).run P w = .ok v w ∧ Q v w) a w) : Ret P f vs w Q := by
 refine enterG _ hf hb hn hle hF (fun a w ⟨F', g, v, hF', hl, hld, hq⟩ => ⟨by rw [hF'.defers, hn]; rfl, v, ?_, hq⟩) h
 have hv := hF'.val t _ hl
 simp [results, hr, Array.getD_eq_getD_getElem?, hv, asAddr, hld]
theorem enterCT {w : World} {f : FuncId} {fn : Func} {c : Code} {vs : List Value} {Q : Value → World → Prop} (n : NN) (F : Fs) (t ty s : Nat) (hf : P.funcs[f]? = some fn) (hb : fn.body = some c) (hn : n = ⟨fn.ntmps, []⟩) (hr : fn.results = #[.cell t ty, .tmp s]) (hle : Nat.ble vs.length n.n = true) (hF : F = idx vs 0)
  (h : ∀ a, Fr n F a → W P c (fun a w => ∃ F' g v u, Fr n F' a ∧ look F' t = some (.pointer (some g)) ∧ (loadVar ty g).run P w = .ok v w ∧ look F' s = some u ∧ Q (.tuple #[v, u]) w) [] (fun a w => ∃ F' g v u, Fr n F' a ∧ look F' t = some (.pointer (some g)) ∧ (loadVar ty g).run P w = .ok v w ∧ look F' s = some u ∧ Q (.tuple #[v, u]) w) a w) : Ret P f vs w Q := by
 refine enterG _ hf hb hn hle hF (fun a w ⟨F', g, v, u, hF', hl, hld, hm, hq⟩ => ⟨by rw [hF'.defers, hn]; rfl, _, ?_, hq⟩) h
 have hv := hF'.val t _ hl
 have hu := hF'.val s u hm
 simp [results, hr, Array.getD_eq_getD_getElem?, hv, hu, asAddr, hld]
end
end Go.Gam
/- A map of numbers to true, of a walk's own. No program in sight. -/
namespace Go.Gam
open Px
open Go.MapKept (run_checkKey run_findKey IsKey)
open Go.RowKit (run_makeMap)
def mesF : List Int → Nat → List MapEntry
 | [], _ => []
 | x :: r, i => { key := .int .i64 x, val := .bool true, born := i } :: mesF r (i + 1)
def mes (l : List Int) : Array MapEntry := (mesF l 0).toArray
structure MapB (D : FD) (B N : Nat) (w : World) (l : Nat) (ks : List Int) : Prop where
 obj : w.heap[l]? = some (.map (mes ks) ks.length)
 low : N ≤ l
 base : B ≤ l
 priv : Priv D B w l
end Go.Gam
/- The plain laws of layer 7. No program in sight. -/
namespace Go.Gam
open Px
section
variable {wb p : Nat} (hp : Prm wb p)
variable {k m : Nat} (hk : 1 ≤ k) (hm : 1 ≤ m) (h20 : k + m ≤ 20)
include hk hm h20
end
end Go.Gam
/- Numbers in a row; minors; rows of inverses. No program in sight. -/
/- The table of profiles. No program in sight. -/
namespace Go.Gam
def prf (a b : UInt8) (bits poly : Int) (l : Int) (m : Int) : List Value := [.string ⟨#[a, b]⟩, .int .i64 bits, .int .u32 poly, .int .u8 l, .int .i64 m]
def prz : List Value := [.string ⟨#[]⟩, .int .i64 0, .int .u32 0, .int .u8 0, .int .i64 0]
def prN : Nat → List Value
 | 0 => prf 106 118 8 285 106 4
 | 1 => prf 106 99 16 69643 106 4
 | 2 => prf 105 114 8 285 105 3
 | 3 => prf 105 99 8 285 105 4
 | 4 => prf 98 98 8 285 98 4
 | _ => prf 107 112 8 285 112 4
def prAll : List Value := prN 0 ++ (prN 1 ++ (prN 2 ++ (prN 3 ++ (prN 4 ++ prN 5))))
def prOf (p : Int) : List Value := if 1 ≤ p ∧ p ≤ 6 then prN (p - 1).toNat else prz
theorem prN_len (i : Nat) : (prN i).length = 5 := by unfold prN; split <;> rfl
theorem prOf_len (p : Int) : (prOf p).length = 5 := by unfold prOf; split; exact prN_len _; rfl
theorem prOf_one (p : Int) : (prOf p).toArray.toList.all (·.oneCell') = true := by
 unfold prOf prN
 split
 · split <;> rfl
 rfl
theorem prOf_ext {p : Int} (h1 : 1 ≤ p) (h2 : p ≤ 6) : prAll.toArray.extract ((p - 1).toNat * 5) ((p - 1).toNat * 5 + 5) = (prOf p).toArray := by
 have : p = 1 ∨ p = 2 ∨ p = 3 ∨ p = 4 ∨ p = 5 ∨ p = 6 := by omega
 rcases this with rfl | rfl | rfl | rfl | rfl | rfl <;> rfl
theorem prOf_no {p : Int} (h : ¬ (1 ≤ p ∧ p ≤ 6)) : prOf p = prz := if_neg h
def maxM (p : Int) : Int := if p = 3 then 3 else 4
theorem prOf_max {p : Int} (h1 : 1 ≤ p) (h2 : p ≤ 6) : nth (prOf p).toArray.toList 4 = some (.int .i64 (maxM p)) := by
 have : p = 1 ∨ p = 2 ∨ p = 3 ∨ p = 4 ∨ p = 5 ∨ p = 6 := by omega
 rcases this with rfl | rfl | rfl | rfl | rfl | rfl <;> rfl
def pfl (p : Int) : Nat × Nat := if p = 2 then (16, 69643) else (8, 285)
theorem prOf_bits {p : Int} (h1 : 1 ≤ p) (h2 : p ≤ 6) : nth (prOf p).toArray.toList 1 = some (.int .i64 (((pfl p).1 : Nat) : Int)) := by
 have : p = 1 ∨ p = 2 ∨ p = 3 ∨ p = 4 ∨ p = 5 ∨ p = 6 := by omega
 rcases this with rfl | rfl | rfl | rfl | rfl | rfl <;> rfl
theorem prOf_poly {p : Int} (h1 : 1 ≤ p) (h2 : p ≤ 6) : nth (prOf p).toArray.toList 2 = some (.int .u32 (((pfl p).2 : Nat) : Int)) := by
 have : p = 1 ∨ p = 2 ∨ p = 3 ∨ p = 4 ∨ p = 5 ∨ p = 6 := by omega
 rcases this with rfl | rfl | rfl | rfl | rfl | rfl <;> rfl
theorem pfl_new (p : Int) : newF ((pfl p).1 : Int) (pfl p).2 = some (pfl p) := by
 unfold pfl
 split
 · exact newF_p prm_69643
 exact newF_p prm_285
theorem pfl_lt (p : Int) : (pfl p).1 ≤ 16 ∧ (pfl p).2 < 4294967296 := by unfold pfl; split <;> decide
end Go.Gam
/- Ranges over functions of two values: the twin of GRf's. No program in sight. -/
namespace Go.Gam
open Go
section
variable {P : Program} {r : Option Nat} {N : Kont} {X : List (Nat × Kont)} {R : Kont} {a : Act} {w : World}
def YieldOk2 (P : Program) (l : Nat) (v u : Value) (w : World) (R : Bool → World → Prop) : Prop :=
 ∃ fn tmps assign body, (Instr.yield l #[v, u]).run P w = .ok (.round l fn tmps assign body) w ∧ RoundIn Fence.wide 0 P l fn tmps assign body w fun e w' => ∃ b, e = .returned (.bool b) ∧ R b w'
theorem YieldOk2.mono {l : Nat} {v u : Value} {R R' : Bool → World → Prop} (h : YieldOk2 P l v u w R) (hr : ∀ b w', R b w' → R' b w') : YieldOk2 P l v u w R' := by
 obtain ⟨fn, t, x, y, h1, h2⟩ := h
 exact ⟨fn, t, x, y, h1, h2.mono fun e w' ⟨b, h3, h4⟩ => ⟨b, h3, hr _ _ h4⟩⟩
section
variable {ops : Array Oper} {K : Kont} {rest : List Oper} {n : NN} {F : Fs} {op : Op} {T : TypeId} {pp : String} {af : Array Edge} {v : Value} {d : Nat}
theorem syI2 {l : Nat} {x y y2 : Operand} {u : Value} {ats : Array TypeId} (hF : Fr n F a) (hx : ev F x = some (.func (.yield l) #[] #[])) (hy : ev F y = some v) (hy2 : ev F y2 = some u) (hd : Nat.blt d n.n = true)
  (h : YieldOk2 P l v u w fun b w' => ∀ a, Fr n ((d, .bool b) :: F) a → WLI P r ops K rest a w') : WLI P r ops K (⟨some d, .call ⟨.value x, #[y, y2], ats⟩, T, pp, af, none⟩ :: rest) a w := by
 obtain ⟨fn, tmps, assign, body, h1, h2⟩ := h
 unfold WLI wpListIn
 rw [if_pos (by simp [Region.wanted])]
 refine ⟨fun _ _ => trivial, ?_⟩
 rw [Oper.semAt_eq _ _ _ (by intro c e; cases e)]
 have hrun : (execOp a.eval ⟨some d, .call ⟨.value x, #[y, y2], ats⟩, T, pp, af, none⟩).run P w = .ok (.round l fn tmps assign body) w := by
  simp [execOp, resolve, invoke, Deferred.ofValue, hF.reads x _ hx, hF.reads y _ hy, hF.reads y2 _ hy2, h1]
 rw [hrun]
 simp only [Oper.uponIn]
 refine ⟨fun hd => by simp [FW, Fence.wide] at hd, RoundIn.mono (F := FW r) h2 ?_⟩
 rintro e w' ⟨b, rfl, h3⟩
 exact h3 _ (hF.put hd)
end
theorem svgI {ops : Array Oper} {K : Kont} {rest : List Oper} {n : NN} {F : Fs} {op : Op} {T : TypeId} {pp : String} {af : Array Edge} {d : Nat} {j : Nat} {b : Bool} (hF : Fr n F a) (hy : yl ops.toList F j = some b) (k : WLI P r ops K (⟨some d, op, T, pp, af, none⟩ :: rest) a w) :
  WLI P r ops K (⟨some d, op, T, pp, af, some (j, b)⟩ :: rest) a w := by
 unfold WLI wpListIn at k ⊢
 rw [if_pos (by simp [Region.wanted])] at k
 rw [if_pos (by simp [Region.wanted, yl_ok hF hy])]
 exact k
def Seq2 (P : Program) (D : FD) (B : Nat) {α : Type} (gf : FuncId) (lb : List Value) (enc : α → World → Value → Value → Prop) (xs : List α) (Z : Nat → Prop) (w0 : World) : Prop :=
 ∀ (l : Nat) (J Jx : Nat → World → Prop) (W : World), l = w0.heap.size + 1 → l < W.heap.size → St D B w0 W →
  (∀ i A C, J i A → St D B A C → J i C) →
  (∀ i x v u A, xs[i]? = some x → J i A → StZ D B Z w0 A → enc x A v u → YieldOk2 P l v u A fun b A' => (b = true ∧ J (i + 1) A' ∧ StZ D B Z A A') ∨ (b = false ∧ Jx (i + 1) A')) →
  J 0 W → Calls P gf (#[.func (.yield l) #[] #[]] ++ lb.toArray) W fun e A' => ∃ v, e = .returned v ∧ ((J xs.length A' ∧ StZ D B Z w0 A') ∨ ∃ i, Jx i A')
theorem W_rf2 {D : FD} {B : Nat} {α : Type} {g : Operand} {p q : Tmp} {assign body : Code} {n : NN} {F : Fs} {gf : FuncId} {lb : List Value} {enc : α → World → Value → Value → Prop} {xs : List α} {Z : Nat → Prop}
  (J : Nat → World → Prop) (Jr : World → Prop) (G : Value → Value → Act → World → Prop)
  (hF : Fr n F a) (hg : ev F g = some (.func (.func gf) #[] lb.toArray)) (hp : Nat.blt p n.n = true) (hq0 : Nat.blt q n.n = true) (eg : Ent P gf) (hI : Inv D B w)
  (hseq : Seq2 P D B gf lb enc xs Z w) (hZ : Z (w.heap.size + 1))
  (hJ : ∀ i A C, J i A → Xt D B w.heap.size A C → J i C) (hJr : ∀ A C, Jr A → Xt D B w.heap.size A C → Jr C) (hG : ∀ v u a A C, G v u a A → Xt D B w.heap.size A C → G v u a C)
  (hE : ∀ x v u A C, enc x A v u → Xt D B w.heap.size A C → enc x C v u) (h0 : J 0 w)
  (hassign : ∀ l i x v u A a', xs[i]? = some x → J i A → Inv D B A → enc x A v u → Fr ⟨n.n, []⟩ ((q, u) :: (p, v) :: F) a' → WI P (some l) assign (fun a2 A2 => St D B A A2 ∧ G v u a2 A2) [] (fun _ _ => False) a' A)
  (hbody : ∀ l i x v u A a2, xs[i]? = some x → J i A → StZ D B Z w A → enc x A v u → G v u a2 A → WI P (some l) body (fun _ A' => J (i + 1) A' ∧ StZ D B Z A A') [] (fun _ A' => Jr A' ∧ StZ D B Z A A') a2 A)
  (hdone : ∀ a' W, Fr ⟨n.n, w.heap.size :: n.ds⟩ F a' → W.heap[w.heap.size]? = some (.deferred (some [])) → J xs.length W → StZ D B Z w W → N a' W)
  (hret : ∀ a' W, Fr ⟨n.n, w.heap.size :: n.ds⟩ F a' → W.heap[w.heap.size]? = some (.deferred (some [])) → Jr W → Inv D B W → R a' W) :
  W P (.rangeFunc g #[p, q] assign body) N X R a w := by
 refine W_of (wpIn_rangeFunc fun fn _ => ?_)
 obtain ⟨rec, hrec⟩ : ∃ rec : LoopState → Option Code → Loop, rec = fun st pe => { state := st, pending := pe, fn, tmps := a.tmps, params := #[p, q], assign, body, defers := w.heap.size } := ⟨_, rfl⟩
 obtain ⟨W1, hW1⟩ : ∃ W1, (w.alloc (.deferred (some []))).alloc (.loop (rec .ready none)) = W1 := ⟨_, rfl⟩
 have hs0 : St D B w (w.alloc (.deferred (some []))) := St.new hI rfl
 have hs1 : St D B w W1 := by rw [← hW1]; exact hs0.trans (St.new hs0.inv rfl)
 have hL1 : W1.heap[w.heap.size + 1]? = some (.loop (rec .ready none)) := by
  rw [← hW1]; have := World.alloc_heap_new (w.alloc (.deferred (some []))) (.loop (rec .ready none)); rwa [World.size_alloc] at this
 have hK1 : W1.heap[w.heap.size]? = some (.deferred (some [])) := by
  rw [← hW1]; exact (RowKit.Below.heap_alloc _ _ _ (by simp)).trans (World.alloc_heap_new w _)
 refine ⟨w.heap.size + 1, [{ target := .collected w.heap.size, args := #[] }], W1, { target := .fn (.func gf) lb.toArray, args := #[.func (.yield (w.heap.size + 1)) #[] #[]] }, W1, gf,
  #[.func (.yield (w.heap.size + 1)) #[] #[]] ++ lb.toArray, W1, ?_, ?_, fun _ _ => trivial, ?_, fun hd => by simp [FW, Fence.wide] at hd, ?_⟩
 · rw [← hW1, hrec]; exact run_enterLoop_outer _ _ _ _ _
 ·
  have := hF.reads g _ hg
  simp [resolve, rangeCall, Deferred.ofValue, Act.eval] at this ⊢
  simp [this]
 ·
  have := eg (#[.func (.yield (w.heap.size + 1)) #[] #[]] ++ lb.toArray) W1
  simp [invoke] at this ⊢
  exact this
 refine callsIn_wide.2 ?_
 have key := hseq (w.heap.size + 1) (fun i A => J i A ∧ Inv D B A ∧ A.heap[w.heap.size + 1]? = some (.loop (rec .ready none)) ∧ A.heap[w.heap.size]? = some (.deferred (some [])))
  (fun i A => ∃ c, (c = .ret ∧ Jr A) ∧ Inv D B A ∧ A.heap[w.heap.size + 1]? = some (.loop (rec .done (some c))) ∧ A.heap[w.heap.size]? = some (.deferred (some [])))
  W1 rfl (by rw [← hW1]; simp) hs1
  (fun i A C ⟨h1, h2, h3, h4⟩ hs => ⟨hJ i A C h1 hs.xt, hs.inv, hs.z (Z := Z) |>.ext.oth _ _ h3 rfl, hs.z (Z := Z) |>.ext.oth _ _ h4 rfl⟩) ?_ ⟨hJ 0 w W1 h0 hs1.xt, hs1.inv, hL1, hK1⟩
 ·
  refine Calls.mono key ?_
  rintro e A' ⟨v, rfl, ⟨⟨h1, h2, h3, h4⟩, hz⟩ | ⟨i, c, ⟨rfl, h1⟩, h2, h3, h4⟩⟩
  ·
   refine ⟨none, _, by subst hrec; exact run_endLoop (P := P) h3 (by simp), ?_⟩
   have hx := Xt.put (n := w.heap.size) h2 (Nat.le_succ _) h3 rfl (o' := .loop { rec .ready none with state := .exhausted }) rfl
   refine hdone _ _ ⟨hF.size, by show _ :: a.defers = _; rw [hF.defers]; rfl, hF.val⟩ ?_ (hJ _ _ _ h1 (by subst hrec; exact hx)) ?_
   · exact (World.putObj_heap_other (by omega)).trans h4
   exact hz.put h2 h3 rfl rfl (Nat.le_succ _) (hZ)
  refine ⟨some .ret, _, by subst hrec; exact run_endLoop (P := P) h3 (by simp), ?_⟩
  have hx := Xt.put (n := w.heap.size) h2 (Nat.le_succ _) h3 rfl (o' := .loop { rec .done (some .ret) with state := .exhausted }) rfl
  refine wpIn_ret (hret _ _ ⟨hF.size, by show _ :: a.defers = _; rw [hF.defers]; rfl, hF.val⟩ ?_ (hJr _ _ h1 (by subst hrec; exact hx)) (by subst hrec; exact hx.inv))
  exact (World.putObj_heap_other (by omega)).trans h4
 rintro i x v u A hx ⟨h1, h2, h3, h4⟩ hz he
 have hy := run_yield (P := P) (args := #[v, u]) h3 (by subst hrec; rfl)
 replace hy : (Instr.yield (w.heap.size + 1) #[v, u]).run P A = .ok (.round (w.heap.size + 1) fn ((a.tmps.setIfInBounds p v).setIfInBounds q u) assign body) A := by subst hrec; simpa using hy
 refine ⟨fn, _, assign, body, hy, roundIn_of_wpIn trivial ?_⟩
 have hfr : Fr ⟨n.n, []⟩ ((q, u) :: (p, v) :: F) { tmps := (a.tmps.setIfInBounds p v).setIfInBounds q u, defers := [] } := by
  have := Fr.put (n := ⟨n.n, []⟩) (F := F) (a := { tmps := a.tmps, defers := [] }) (d := p) (v := v) ⟨hF.size, rfl, hF.val⟩ hp
  exact Fr.put (n := ⟨n.n, []⟩) (a := { tmps := a.tmps.setIfInBounds p v, defers := [] }) (d := q) (v := u) this hq0
 refine wpIn_mono (hassign (w.heap.size + 1) i x v u A { tmps := (a.tmps.setIfInBounds p v).setIfInBounds q u, defers := [] } hx h1 h2 he hfr) ?_
 rintro e a2 A2 hq
 cases e with
 | normal =>
  obtain ⟨hs2, hg2⟩ : St D B A A2 ∧ G v u a2 A2 := hq
  have hl2 : A2.heap[w.heap.size + 1]? = some (.loop (rec .ready none)) := (hs2.z (Z := Z)).ext.oth _ _ h3 rfl
  have hx2 := Xt.put (n := w.heap.size) hs2.inv (Nat.le_succ _) hl2 rfl (o' := .loop { rec .ready none with state := .busy }) rfl
  have hb3 : (A2.putObj (w.heap.size + 1) (.loop { rec .ready none with state := .busy })).heap[w.heap.size + 1]? = some (.loop { rec .ready none with state := .busy }) := World.putObj_heap_same (heap_lt hl2)
  refine ⟨_, run_beginRound hl2 (by subst hrec; rfl), ?_⟩
  have hd3 : (A2.putObj (w.heap.size + 1) (.loop { rec .ready none with state := .busy })).heap[w.heap.size]? = some (.deferred (some [])) := (World.putObj_heap_other (by omega)).trans ((hs2.z (Z := Z)).ext.oth _ _ h4 rfl)
  refine wpIn_mono (hbody (w.heap.size + 1) i x v u _ a2 hx (hJ _ _ _ (hJ _ _ _ h1 hs2.xt) hx2) ((hz.trans hs2).put hs2.inv hl2 rfl rfl (Nat.le_succ _) (hZ)) (hE _ _ _ _ _ (hE _ _ _ _ _ he hs2.xt) hx2) (hG _ _ _ _ _ hg2 hx2)) ?_
  rintro e' a3 A' hq'
  cases e' with
  | normal =>
   obtain ⟨j1, j2⟩ : J (i + 1) A' ∧ StZ D B Z (A2.putObj (w.heap.size + 1) (.loop { rec .ready none with state := .busy })) A' := hq'
   have hl' := j2.ext.oth _ _ hb3 rfl
   have hx4 := Xt.put (n := w.heap.size) j2.inv (Nat.le_succ _) hl' rfl (o' := .loop (rec .ready none)) rfl
   refine ⟨_, _, run_endRound none hl', true, rfl, .inl ⟨rfl, ⟨?_, ?_, ?_, ?_⟩, ?_⟩⟩
   · subst hrec; exact hJ _ _ _ j1 hx4
   · subst hrec; exact hx4.inv
   · subst hrec; exact World.putObj_heap_same (heap_lt hl')
   · exact (World.putObj_heap_other (by omega)).trans (j2.ext.oth _ _ hd3 rfl)
   subst hrec; exact StZ.round hs2 j2 h3 rfl rfl (hZ)
  | ret =>
   obtain ⟨j1, j2⟩ : Jr A' ∧ StZ D B Z (A2.putObj (w.heap.size + 1) (.loop { rec .ready none with state := .busy })) A' := hq'
   have hl' := j2.ext.oth _ _ hb3 rfl
   have hx4 := Xt.put (n := w.heap.size) j2.inv (Nat.le_succ _) hl' rfl (o' := .loop (rec .done (some .ret))) rfl
   refine ⟨_, _, run_endRound (some .ret) hl', false, rfl, .inr ⟨rfl, .ret, ⟨rfl, ?_⟩, ?_, ?_, ?_⟩⟩
   · subst hrec; exact hJr _ _ j1 hx4
   · subst hrec; exact hx4.inv
   · subst hrec; exact World.putObj_heap_same (heap_lt hl')
   exact (World.putObj_heap_other (by omega)).trans (j2.ext.oth _ _ hd3 rfl)
  | exit id => exact absurd hq' (by simp [Qof, lookX])
  | goto t => exact hq'.elim
  | panic c => exact hq'.elim
  | outgrown => exact hq'.elim
 | exit id => exact absurd hq (by simp [Qof, lookX])
 | ret => exact hq.elim
 | goto t => exact hq.elim
 | panic c => exact hq.elim
 | outgrown => exact hq.elim
end
end Go.Gam
