/- Worlds: what a step leaves of what was there; rows that are read; rows of the walk's own; fields and their tables. No program in sight. -/
import Derived.Test.YtkoiolamnnmokaaDoorGVals
import Derived.Test.YtkoiolamnnmokaaDoorGDefs
set_option linter.unusedVariables false
set_option linter.unusedSimpArgs false
namespace Go.Gam
open Go

/-- The types that matter: T: a field's struct, E: a whole number. -/
structure FD where
  T : TypeId
  E : TypeId
  ne : E ≠ T

def ints (l : List Nat) : List Value := l.map fun (n : Nat) => Value.int .i64 (n : Int)

/-- A row of its own block: the block is just the row. -/
def Tab (E : TypeId) (B : Nat) (w : World) (v : Value) (xs : List Value) : Prop :=
  ∃ g, v = .slice (some ⟨g, 0, none⟩) xs.length xs.length ∧ B ≤ g ∧ w.heap[g]? = some (.cells xs.toArray E (0, 0))

def fcells (wb p : Nat) (o : Int) (e l : Value) : Array Value := #[.int .i64 (wb : Int), .int .u32 (p : Int), .int .u32 o, .int .i32 0, .int .u32 0, e, l]

/-- Block k is a field of 2^wb numbers by p; its tables are not made, or made. -/
def FOK (D : FD) (B : Nat) (w : World) (k wb p : Nat) : Prop :=
  B ≤ k ∧ (w.heap[k]? = some (.cells (fcells wb p 0 (.slice none 0 0) (.slice none 0 0)) D.T (0, 0)) ∨
    ∃ e l, w.heap[k]? = some (.cells (fcells wb p 1 e l) D.T (0, 0)) ∧ Tab D.E B w e (ints (Px.expL wb p (2 ^ wb - 1))) ∧ Tab D.E B w l (ints (Px.logL wb p (2 ^ wb - 1))))

/-- A table's row. -/
def tv (wb g : Nat) : Value := .slice (some ⟨g, 0, none⟩) (2 ^ wb) (2 ^ wb)

/-- Block k is a field whose tables are made, in the blocks ge, gl. -/
def Made (D : FD) (B : Nat) (w : World) (k wb p ge gl : Nat) : Prop :=
  B ≤ k ∧ w.heap[k]? = some (.cells (fcells wb p 1 (tv wb ge) (tv wb gl)) D.T (0, 0)) ∧ Tab D.E B w (tv wb ge) (ints (Px.expL wb p (2 ^ wb - 1))) ∧ Tab D.E B w (tv wb gl) (ints (Px.logL wb p (2 ^ wb - 1)))

theorem Made.fok {D : FD} {B : Nat} {w : World} {k wb p ge gl : Nat} (h : Made D B w k wb p ge gl) : FOK D B w k wb p := ⟨h.1, .inr ⟨_, _, h.2⟩⟩

/-- Every field's block from B on is a field; B is not behind the heap's end. -/
def Inv (D : FD) (B : Nat) (w : World) : Prop := B ≤ w.heap.size ∧ ∀ k, B ≤ k → ∀ c fr, w.heap[k]? = some (.cells c D.T fr) → ∃ wb p, FOK D B w k wb p

/-- No field from B on has b for a table. -/
def Priv (D : FD) (B : Nat) (w : World) (b : Nat) : Prop := ∀ k, B ≤ k → ∀ c fr, w.heap[k]? = some (.cells c D.T fr) → ∀ a n m, .slice (some a) n m ∈ c.toList → a.block ≠ b

def notT (D : FD) (w : World) (k : Nat) : Prop := ∀ c fr, w.heap[k]? ≠ some (.cells c D.T fr)

/-- From w to w': what was there is there, but fields from B on may have made their tables. -/
structure Ext (D : FD) (B : Nat) (w w' : World) : Prop where
  os : w'.os = w.os
  tape : w'.tape = w.tape
  output : w'.output = w.output
  size : w.heap.size ≤ w'.heap.size
  keep : ∀ k, k < w.heap.size → (k < B ∨ notT D w k) → w'.heap[k]? = w.heap[k]?
  fld : ∀ k wb p, FOK D B w k wb p → FOK D B w' k wb p
  priv : ∀ b, b < w.heap.size → Priv D B w b → Priv D B w' b
  made : ∀ k wb p ge gl, Made D B w k wb p ge gl → Made D B w' k wb p ge gl

theorem Ext.refl (D : FD) (B : Nat) (w : World) : Ext D B w w := ⟨rfl, rfl, rfl, Nat.le_refl _, fun _ _ _ => rfl, fun _ _ _ h => h, fun _ _ h => h, fun _ _ _ _ _ h => h⟩

theorem notT_of {D : FD} {w w' : World} {k : Nat} (h : w'.heap[k]? = w.heap[k]?) (hn : notT D w k) : notT D w' k := fun c fr e => hn c fr (h ▸ e)

theorem Ext.trans {D : FD} {B : Nat} {a b c : World} (h : Ext D B a b) (k : Ext D B b c) : Ext D B a c :=
  ⟨k.os.trans h.os, k.tape.trans h.tape, k.output.trans h.output, Nat.le_trans h.size k.size,
    fun i hi hc => (k.keep i (Nat.lt_of_lt_of_le hi h.size) (hc.imp id (fun hn => notT_of (h.keep i hi (.inr hn)) hn))).trans (h.keep i hi hc),
    fun i wb p hf => k.fld i wb p (h.fld i wb p hf), fun b hb hp => k.priv b (Nat.lt_of_lt_of_le hb h.size) (h.priv b hb hp), fun i wb p e l hf => k.made i wb p e l (h.made i wb p e l hf)⟩

/-- From w to w', and w' is in order. -/
structure St (D : FD) (B : Nat) (w w' : World) : Prop where
  ext : Ext D B w w'
  inv : Inv D B w'

theorem St.refl {D : FD} {B : Nat} {w : World} (h : Inv D B w) : St D B w w := ⟨Ext.refl _ _ _, h⟩
theorem St.trans {D : FD} {B : Nat} {a b c : World} (h : St D B a b) (k : St D B b c) : St D B a c := ⟨h.ext.trans k.ext, k.inv⟩

theorem heap_lt {w : World} {k : Nat} {o : Obj} (h : w.heap[k]? = some o) : k < w.heap.size := (Array.getElem?_eq_some_iff.1 h).1

/-- Below B nothing has turned. -/
theorem Ext.below {D : FD} {B : Nat} {w w' : World} (h : Ext D B w w') (hB : B ≤ w.heap.size) : RowKit.Below B w w' :=
  ⟨h.os, h.tape, h.output, h.size, fun k hk => h.keep k (by omega) (.inl hk)⟩

theorem FOK.lt {D : FD} {B : Nat} {w : World} {k wb p : Nat} (h : FOK D B w k wb p) : k < w.heap.size := by
  rcases h.2 with h | ⟨e, l, h, _⟩ <;> exact heap_lt h

theorem FOK.st {D : FD} {B : Nat} {w w' : World} {k wb p : Nat} (h : FOK D B w k wb p) (hs : St D B w w') : FOK D B w' k wb p := hs.ext.fld k wb p h

theorem Made.st {D : FD} {B : Nat} {w w' : World} {k wb p ge gl : Nat} (h : Made D B w k wb p ge gl) (hs : St D B w w') : Made D B w' k wb p ge gl := hs.ext.made k wb p ge gl h

/-- A step that changes at most block b (of no field's type), and makes new blocks of no field's type. -/
structure Mb (D : FD) (B : Nat) (b : Option Nat) (w w' : World) : Prop where
  os : w'.os = w.os
  tape : w'.tape = w.tape
  output : w'.output = w.output
  size : w.heap.size ≤ w'.heap.size
  keep : ∀ k, k < w.heap.size → some k ≠ b → w'.heap[k]? = w.heap[k]?
  typ : ∀ k, w.heap.size ≤ k → notT D w' k
  own : ∀ k, b = some k → k < w.heap.size ∧ B ≤ k ∧ notT D w k ∧ notT D w' k ∧ Priv D B w k

theorem Mb.t_same {D : FD} {B : Nat} {b : Option Nat} {w w' : World} (h : Mb D B b w w') {k : Nat} {c : Array Value} {fr : Nat × Nat} (hk : w'.heap[k]? = some (.cells c D.T fr)) : w.heap[k]? = some (.cells c D.T fr) := by
  by_cases hlt : k < w.heap.size
  · by_cases e : some k = b
    · exact absurd hk ((h.own k e.symm).2.2.2.1 c fr)
    · rw [← h.keep k hlt e]; exact hk
  · exact absurd hk (h.typ k (by omega) c fr)

theorem Mb.t_kept {D : FD} {B : Nat} {b : Option Nat} {w w' : World} (h : Mb D B b w w') {k : Nat} {c : Array Value} {fr : Nat × Nat} (hk : w.heap[k]? = some (.cells c D.T fr)) : w'.heap[k]? = some (.cells c D.T fr) := by
  have hlt := heap_lt hk
  by_cases e : some k = b
  · exact absurd hk ((h.own k e.symm).2.2.1 c fr)
  · rw [h.keep k hlt e]; exact hk

theorem Mb.priv {D : FD} {B : Nat} {b : Option Nat} {w w' : World} (h : Mb D B b w w') {j : Nat} (hp : Priv D B w j) : Priv D B w' j :=
  fun k hk c fr hc => hp k hk c fr (h.t_same hc)

theorem Mb.fok {D : FD} {B : Nat} {b : Option Nat} {w w' : World} (h : Mb D B b w w') {k wb p : Nat} (hf : FOK D B w k wb p) : FOK D B w' k wb p := by
  obtain ⟨hB, hf⟩ := hf
  refine ⟨hB, ?_⟩
  rcases hf with hf | ⟨e, l, hf, he, hl⟩
  · exact .inl (h.t_kept hf)
  · refine .inr ⟨e, l, h.t_kept hf, ?_, ?_⟩
    · obtain ⟨g, rfl, hg, hc⟩ := he
      refine ⟨g, rfl, hg, ?_⟩
      rw [h.keep g (heap_lt hc) (fun e => (h.own g e.symm).2.2.2.2 k hB _ _ hf _ _ _ (List.mem_of_getElem? (i := 5) rfl) rfl)]
      exact hc
    · obtain ⟨g, rfl, hg, hc⟩ := hl
      refine ⟨g, rfl, hg, ?_⟩
      rw [h.keep g (heap_lt hc) (fun e => (h.own g e.symm).2.2.2.2 k hB _ _ hf _ _ _ (List.mem_of_getElem? (i := 6) rfl) rfl)]
      exact hc

theorem Mb.tab {D : FD} {B : Nat} {b : Option Nat} {w w' : World} (h : Mb D B b w w') {k i : Nat} {c : Array Value} {v : Value} {xs : List Value} (hB : B ≤ k) (hf : w.heap[k]? = some (.cells c D.T (0, 0))) (hv : c.toList[i]? = some v) (ht : Tab D.E B w v xs) : Tab D.E B w' v xs := by
  obtain ⟨g, rfl, hg, hc⟩ := ht
  refine ⟨g, rfl, hg, ?_⟩
  rw [h.keep g (heap_lt hc) (fun e => (h.own g e.symm).2.2.2.2 k hB _ _ hf _ _ _ (List.mem_of_getElem? hv) rfl)]
  exact hc
theorem Mb.made {D : FD} {B : Nat} {b : Option Nat} {w w' : World} (h : Mb D B b w w') {k wb p ge gl : Nat} (hf : Made D B w k wb p ge gl) : Made D B w' k wb p ge gl := by
  obtain ⟨hB, hf, he, hl⟩ := hf
  exact ⟨hB, h.t_kept hf, h.tab hB hf (i := 5) rfl he, h.tab hB hf (i := 6) rfl hl⟩

theorem Mb.inv {D : FD} {B : Nat} {b : Option Nat} {w w' : World} (h : Mb D B b w w') (hI : Inv D B w) : Inv D B w' :=
  ⟨Nat.le_trans hI.1 h.size, fun k hk c fr hc => let ⟨wb, p, hf⟩ := hI.2 k hk c fr (h.t_same hc); ⟨wb, p, h.fok hf⟩⟩

/-- Such a step behind a stretch that began before b was there. -/
theorem St.mb {D : FD} {B : Nat} {b : Option Nat} {w0 w w' : World} (hs : St D B w0 w) (h : Mb D B b w w') (hb : ∀ k, b = some k → w0.heap.size ≤ k) : St D B w0 w' := by
  refine ⟨⟨h.os.trans hs.ext.os, h.tape.trans hs.ext.tape, h.output.trans hs.ext.output, Nat.le_trans hs.ext.size h.size, fun k hk hc => ?_, fun k wb p hf => h.fok (hs.ext.fld k wb p hf), fun j hj hp => h.priv (hs.ext.priv j hj hp), fun k wb p e l hf => h.made (hs.ext.made k wb p e l hf)⟩, h.inv hs.inv⟩
  rw [h.keep k (Nat.lt_of_lt_of_le hk hs.ext.size) (fun e => by have := hb k e.symm; omega)]
  exact hs.ext.keep k hk hc

theorem St.mb0 {D : FD} {B : Nat} {w0 w w' : World} (hs : St D B w0 w) (h : Mb D B none w w') : St D B w0 w' := hs.mb h (fun k e => by cases e)

/-- A new block. -/
theorem Mb.alloc (D : FD) (B : Nat) (w : World) (c : Array Value) (e : TypeId) (fr : Nat × Nat) (he : e ≠ D.T) : Mb D B none w (w.alloc (.cells c e fr)) := by
  refine ⟨rfl, rfl, rfl, by simp, fun k hk _ => ?_, fun k hk c' fr' hc => ?_, fun k e => by cases e⟩
  · exact RowKit.Below.heap_alloc w _ k hk
  · have : (w.heap.push (.cells c e fr))[k]? = some (.cells c' D.T fr') := hc
    rw [Array.getElem?_push] at this
    split at this
    · obtain ⟨-, h2, -⟩ := Obj.cells.inj (Option.some.inj this); exact he h2
    · rw [Array.getElem?_eq_none (by omega)] at this; cases this

theorem alloc_new (w : World) (o : Obj) : (w.alloc o).heap[w.heap.size]? = some o := by show (w.heap.push o)[w.heap.size]? = some o; simp

/-- A block that is new is no field's table. -/
theorem Inv.priv_new {D : FD} {B : Nat} {w : World} (hI : Inv D B w) {b : Nat} (hb : w.heap.size ≤ b) : Priv D B w b := by
  intro k hk c fr hc a n m hm
  obtain ⟨wb, p, hB, hf⟩ := hI.2 k hk c fr hc
  rcases hf with hf | ⟨e, l, hf, ⟨g, rfl, _, hg⟩, ⟨g', rfl, _, hg'⟩⟩
  · rw [hf] at hc
    obtain ⟨rfl, -, -⟩ := Obj.cells.inj (Option.some.inj hc)
    simp [fcells] at hm
  · rw [hf] at hc
    obtain ⟨rfl, -, -⟩ := Obj.cells.inj (Option.some.inj hc)
    simp [fcells] at hm
    have h1 := heap_lt hg
    have h2 := heap_lt hg'
    rcases hm with ⟨rfl, _, _⟩ | ⟨rfl, _, _⟩ <;> simp <;> omega

/-! ### what is read -/
/-- v is a slice of the elements xs, all below block M; nobody but its owner writes them. -/
def Row (D : FD) (B M : Nat) (w : World) (v : Value) (xs : List Value) : Prop :=
  (∃ a cap, v = .slice a 0 cap ∧ xs = []) ∨
  ∃ g o cap, v = .slice (some ⟨g, o, none⟩) xs.length cap ∧ xs.length ≤ cap ∧ g < M ∧ (g < B ∨ notT D w g) ∧ g < w.heap.size ∧ ∀ i u, xs[i]? = some u → w.cell? ⟨g, o + i, none⟩ = some u

theorem cell_of_heap {w w' : World} {a : Addr} (h : w'.heap[a.block]? = w.heap[a.block]?) : w'.cell? a = w.cell? a := by simp [World.cell?, h]

theorem Row.ext {D : FD} {B M : Nat} {w w' : World} {v : Value} {xs : List Value} (h : Row D B M w v xs) (hs : Ext D B w w') : Row D B M w' v xs := by
  rcases h with h | ⟨g, o, cap, rfl, h0, h1, h2, h3, h4⟩
  · exact .inl h
  · have hk := hs.keep g h3 h2
    exact .inr ⟨g, o, cap, rfl, h0, h1, h2.imp id (notT_of hk), Nat.lt_of_lt_of_le h3 hs.size, fun i u hu => (cell_of_heap hk).trans (h4 i u hu)⟩
theorem Row.st {D : FD} {B M : Nat} {w w' : World} {v : Value} {xs : List Value} (h : Row D B M w v xs) (hs : St D B w w') : Row D B M w' v xs := h.ext hs.ext
theorem Row.mono {D : FD} {B M M' : Nat} {w : World} {v : Value} {xs : List Value} (h : Row D B M w v xs) (hM : M ≤ M') : Row D B M' w v xs :=
  h.imp id fun ⟨g, o, cap, hv, h0, h1, h2⟩ => ⟨g, o, cap, hv, h0, Nat.lt_of_lt_of_le h1 hM, h2⟩
theorem Row.mb {D : FD} {B M : Nat} {b : Option Nat} {w w' : World} {v : Value} {xs : List Value} (h : Row D B M w v xs) (hm : Mb D B b w w') (hb : ∀ k, b = some k → M ≤ k) : Row D B M w' v xs := by
  rcases h with h | ⟨g, o, cap, rfl, h0, h1, h2, h3, h4⟩
  · exact .inl h
  · have hk := hm.keep g h3 (fun e => by have := hb g e.symm; omega)
    exact .inr ⟨g, o, cap, rfl, h0, h1, h2.imp id (notT_of hk), Nat.lt_of_lt_of_le h3 hm.size, fun i u hu => (cell_of_heap hk).trans (h4 i u hu)⟩

/-- Its shape. -/
theorem Row.shape {D : FD} {B M : Nat} {w : World} {v : Value} {xs : List Value} (h : Row D B M w v xs) : ∃ a cap, v = .slice a xs.length cap ∧
    (∀ i u, xs[i]? = some u → ∃ g o, a = some ⟨g, o, none⟩ ∧ w.cell? ⟨g, o + i, none⟩ = some u) := by
  rcases h with ⟨a, cap, rfl, rfl⟩ | ⟨g, o, cap, rfl, h0, h1, h2, h3, h4⟩
  · exact ⟨a, cap, rfl, fun i u hu => by simp at hu⟩
  · exact ⟨_, cap, rfl, fun i u hu => ⟨g, o, rfl, h4 i u hu⟩⟩

/-! ### rows of the walk's own -/
/-- v is a slice of the elements xs in a block of the walk's own (b; none: it is nil), from N on, that nobody else knows. -/
def Own (D : FD) (B N : Nat) (w : World) (E : TypeId) (v : Value) (b : Option Nat) (xs : List Value) : Prop :=
  (v = .slice none 0 0 ∧ b = none ∧ xs = []) ∨
  ∃ g cap cur, v = .slice (some ⟨g, 0, none⟩) xs.length cap ∧ b = some g ∧ N ≤ g ∧ B ≤ g ∧ w.heap[g]? = some (.cells cur E (0, 0)) ∧ xs.length ≤ cap ∧ cap ≤ maxLen ∧ cur.size = cap ∧ cur.toList.take xs.length = xs ∧ Priv D B w g

theorem Own.nil (D : FD) (B N : Nat) (w : World) (E : TypeId) : Own D B N w E (.slice none 0 0) none [] := .inl ⟨rfl, rfl, rfl⟩

theorem Own.ext {D : FD} {B N : Nat} {w w' : World} {E : TypeId} {v : Value} {b : Option Nat} {xs : List Value} (h : Own D B N w E v b xs) (hE : E ≠ D.T) (hs : Ext D B w w') : Own D B N w' E v b xs := by
  rcases h with h | ⟨g, cap, cur, rfl, rfl, h1, hB, h2, h3, h4, h5, h6, h7⟩
  · exact .inl h
  · refine .inr ⟨g, cap, cur, rfl, rfl, h1, hB, ?_, h3, h4, h5, h6, hs.priv g (heap_lt h2) h7⟩
    rw [hs.keep g (heap_lt h2) (.inr fun c fr e => by rw [h2] at e; exact hE (Obj.cells.inj (Option.some.inj e)).2.1)]
    exact h2
theorem Own.st {D : FD} {B N : Nat} {w w' : World} {E : TypeId} {v : Value} {b : Option Nat} {xs : List Value} (h : Own D B N w E v b xs) (hE : E ≠ D.T) (hs : St D B w w') : Own D B N w' E v b xs := h.ext hE hs.ext

theorem Own.mb {D : FD} {B N : Nat} {w w' : World} {E : TypeId} {v : Value} {b c : Option Nat} {xs : List Value} (h : Own D B N w E v b xs) (hm : Mb D B c w w') (hne : ∀ k, b = some k → c ≠ some k) : Own D B N w' E v b xs := by
  rcases h with h | ⟨g, cap, cur, rfl, rfl, h1, hB, h2, h3, h4, h5, h6, h7⟩
  · exact .inl h
  · exact .inr ⟨g, cap, cur, rfl, rfl, h1, hB, (hm.keep g (heap_lt h2) (fun e => hne g rfl e.symm)).trans h2, h3, h4, h5, h6, hm.priv h7⟩

/-- Two rows of unlike types lie in unlike blocks. -/
theorem Own.ne_type {D : FD} {B N N' : Nat} {w : World} {E E' : TypeId} {v v' : Value} {b b' : Option Nat} {xs xs' : List Value} (h : Own D B N w E v b xs) (h' : Own D B N' w E' v' b' xs') (hE : E ≠ E') : ∀ k, b = some k → b' ≠ some k := by
  rintro k rfl e
  subst e
  rcases h with ⟨_, h, _⟩ | ⟨g, cap, cur, rfl, hb, h1, hB, h2, h3⟩
  · cases h
  · obtain rfl := Option.some.inj hb
    rcases h' with ⟨_, h, _⟩ | ⟨g', cap', cur', rfl, hb', h1', hB', h2', h3'⟩
    · cases h
    · obtain rfl := Option.some.inj hb'
      rw [h2] at h2'
      exact hE (Obj.cells.inj (Option.some.inj h2')).2.1

theorem Own.lt {D : FD} {B N : Nat} {w : World} {E : TypeId} {v : Value} {b : Option Nat} {xs : List Value} (h : Own D B N w E v b xs) : ∀ k, b = some k → N ≤ k ∧ k < w.heap.size := by
  rintro k rfl
  rcases h with ⟨_, h, _⟩ | ⟨g, cap, cur, rfl, hb, h1, hB, h2, h3⟩
  · cases h
  · obtain rfl := Option.some.inj hb
    exact ⟨h1, heap_lt h2⟩

theorem Own.le {D : FD} {B N N' : Nat} {w : World} {E : TypeId} {v : Value} {b : Option Nat} {xs : List Value} (h : Own D B N w E v b xs) (hN : N' ≤ N) : Own D B N' w E v b xs :=
  h.imp id fun ⟨g, cap, cur, h1, h2, h3, h4⟩ => ⟨g, cap, cur, h1, h2, Nat.le_trans hN h3, h4⟩

/-- A row that is finished is one that is read. -/
theorem Own.row {D : FD} {B N : Nat} {w : World} {E : TypeId} {v : Value} {b : Option Nat} {xs : List Value} (h : Own D B N w E v b xs) (hE : E ≠ D.T) : Row D B w.heap.size w v xs := by
  rcases h with ⟨rfl, -, rfl⟩ | ⟨g, cap, cur, rfl, rfl, h1, hB, h2, h3, h4, h5, h6, h7⟩
  · exact .inl ⟨_, _, rfl, rfl⟩
  · refine .inr ⟨g, 0, cap, rfl, h3, heap_lt h2, .inr fun c fr e => ?_, heap_lt h2, fun i u hu => ?_⟩
    · rw [h2] at e; exact hE (Obj.cells.inj (Option.some.inj e)).2.1
    · have hi := (List.getElem?_eq_some_iff.1 hu).1
      rw [← h6, List.getElem?_take] at hu
      rw [if_pos hi] at hu
      simp only [World.cell?, h2]
      simpa using hu

theorem Own.shape {D : FD} {B N : Nat} {w : World} {E : TypeId} {v : Value} {b : Option Nat} {xs : List Value} (h : Own D B N w E v b xs) : ∃ a cap, v = .slice a xs.length cap := by
  rcases h with ⟨rfl, -, rfl⟩ | ⟨g, cap, cur, rfl, _⟩
  · exact ⟨none, 0, rfl⟩
  · exact ⟨_, cap, rfl⟩

/-! ### a block that is known whole -/
def Blk (w : World) (g : Nat) (E : TypeId) (cs : List Value) : Prop := w.heap[g]? = some (.cells cs.toArray E (0, 0))

theorem Blk.ext {D : FD} {B : Nat} {w w' : World} {g : Nat} {E : TypeId} {cs : List Value} (h : Blk w g E cs) (hE : E ≠ D.T) (hs : Ext D B w w') : Blk w' g E cs := by
  unfold Blk at *
  rw [hs.keep g (heap_lt h) (.inr fun c fr e => by rw [h] at e; exact hE (Obj.cells.inj (Option.some.inj e)).2.1)]
  exact h
theorem Blk.st {D : FD} {B : Nat} {w w' : World} {g : Nat} {E : TypeId} {cs : List Value} (h : Blk w g E cs) (hE : E ≠ D.T) (hs : St D B w w') : Blk w' g E cs := h.ext hE hs.ext
theorem Blk.mb {D : FD} {B : Nat} {b : Option Nat} {w w' : World} {g : Nat} {E : TypeId} {cs : List Value} (h : Blk w g E cs) (hm : Mb D B b w w') (hne : b ≠ some g) : Blk w' g E cs := by
  unfold Blk at *
  rw [hm.keep g (heap_lt h) (fun e => hne e.symm)]
  exact h
theorem Blk.at {w : World} {g : Nat} {E : TypeId} {cs : List Value} (h : Blk w g E cs) (i : Nat) {v : Value} (hv : nth cs i = some v) : w.cell? ⟨g, i, none⟩ = some v := by
  rw [nth_eq] at hv
  simp [World.cell?, show w.heap[g]? = _ from h, hv]
theorem Blk.ld {D : FD} {B : Nat} {w w' : World} {g : Nat} {E : TypeId} {cs : List Value} (h : Blk w g E cs) (hE : E ≠ D.T) (hs : Ext D B w w') (i : Nat) {v : Value} (hv : nth cs i = some v) : w'.cell? ⟨g, i, none⟩ = some v := (h.ext hE hs).at i hv

/-! ### operations that make memory -/
section
variable {P : Program} {ops : Array Oper} {K : Kont} {rest : List Oper} {n : NN} {F : Fs} {T : TypeId} {pp : String} {af : Array Edge} {v : Value} {d : Nat} {a : Act} {w : World} {x : Operand} {D : FD} {B : Nat}

theorem s_run {op : Op} {w' : World} (hF : Fr n F a) (hrun : ∀ ρ, Reads F ρ → (execOp ρ ⟨some d, op, T, pp, af, none⟩).run P w = .ok (.value v) w') (hd : Nat.blt d n.n = true)
    (k : ∀ a, Fr n ((d, v) :: F) a → WL P ops K rest a w') : WL P ops K (⟨some d, op, T, pp, af, none⟩ :: rest) a w := by
  unfold WL wpList
  rw [if_pos (by simp [Region.wanted])]
  refine .inl ?_
  unfold Oper.wp
  rw [hrun a.eval hF.reads]
  exact k _ (hF.put hd)

/-- A variable of its own block. -/
theorem s_box {e : TypeId} (hF : Fr n F a) (hx : ev F x = some v) (he : e ≠ D.T) (hI : Inv D B w) (hd : Nat.blt d n.n = true)
    (k : ∀ w' a, Mb D B none w w' → Blk w' w.heap.size e v.cells.toList → w'.heap.size = w.heap.size + 1 → Fr n ((d, .pointer (some ⟨w.heap.size, 0, none⟩)) :: F) a → WL P ops K rest a w') :
    WL P ops K (⟨some d, .box e x, T, pp, af, none⟩ :: rest) a w := by
  refine s_run (w' := w.alloc (.cells v.cells e)) hF (fun ρ h => ?_) hd fun a hF => k _ a (Mb.alloc D B w _ e _ he) (by unfold Blk; rw [Array.toArray_toList]; exact alloc_new w _) (by simp) hF
  simp [execOp, Instr.box, h x v hx, newVar, newRow, newObj, Sem.run]
end
end Go.Gam
