/- Stores into blocks, and regions of open order that store: for the making of a field's tables. No program in sight. -/
import Derived.Test.YtkoiolamnnmokaaDoorGGf
import Derived.Test.YtkoiolamnnmokaaDoorGDraw
import Derived.Laws.CopyRow
set_option linter.unusedVariables false
set_option linter.unusedSimpArgs false
namespace Go.Gam
open Go Px

/-- Only block b turns: it holds o. -/
structure Upd (w w' : World) (b : Nat) (o : Obj) : Prop where
  os : w'.os = w.os
  tape : w'.tape = w.tape
  output : w'.output = w.output
  size : w'.heap.size = w.heap.size
  new : w'.heap[b]? = some o
  keep : ∀ j, j ≠ b → w'.heap[j]? = w.heap[j]?

theorem Upd.setRow {w : World} {g : Nat} {cur cs : Array Value} {t : TypeId} {fr : Nat × Nat} (hg : w.heap[g]? = some (.cells cur t fr)) : Upd w (w.setRow g cs) g (.cells cs t fr) :=
  ⟨rfl, rfl, rfl, by simp [World.setRow], setRow_heap w g cur cs t fr hg, fun j hj => setRow_other w g j cs hj⟩

section
variable {P : Program} {ops : Array Oper} {K : Kont} {rest : List Oper} {n : NN} {F : Fs} {T : TypeId} {pp : String} {af : Array Edge} {v : Value} {d : Nat} {a : Act} {w : World} {x y : Operand}

def One (P : Program) (t : TypeId) : Prop := (P.info? t).map (·.size) = some 1

theorem run_size1 {t : TypeId} (h : One P t) (w : World) : (sizeOf t).run P w = .ok 1 w := by
  unfold One at h
  cases hi : P.info? t with
  | none => rw [hi] at h; cases h
  | some i =>
    rw [hi] at h
    have : i.size = 1 := by simpa using h
    simp [sizeOf, typeInfo, hi, program, Sem.run, this]

/-- A store of one cell. -/
theorem s_st {t b o : Nat} {E : TypeId} {cur : Array Value} (hF : Fr n F a) (ht : One P t) (hx : ev F x = some (.pointer (some ⟨b, o, none⟩))) (hy : ev F y = some v) (hv : v.oneCell' = true)
    (hb : w.heap[b]? = some (.cells cur E (0, 0))) (ho : o < cur.size) (k : ∀ w', Upd w w' b (.cells (cur.setIfInBounds o v) E (0, 0)) → WL P ops K rest a w') :
    WL P ops K (⟨none, .store t x y, T, pp, af, none⟩ :: rest) a w := by
  have hc : v.cells = #[v] := by cases v <;> first | rfl | simp [Value.oneCell'] at hv
  have hst := run_storeCells_at P b o E [v] 0 cur w hb (by simp; omega) (by simpa using hv)
  have hset : (cur.toList.take (o + 0) ++ [v] ++ cur.toList.drop (o + 0 + [v].length)).toArray = cur.setIfInBounds o v := by
    apply Array.toList_inj.1
    rw [Array.toList_setIfInBounds, List.set_eq_take_append_cons_drop, if_pos (by simpa using ho)]
    simp
  rw [hset] at hst
  have hrun : (execOp a.eval ⟨none, .store t x y, T, pp, af, none⟩).run P w = .ok .skip (w.setRow b (cur.setIfInBounds o v)) := by
    simp only [execOp, hF.reads x _ hx, hF.reads y _ hy, Instr.storeAt, Instr.sureAddr, storeVar, hc]
    simp [run_size1 ht, hst]
  unfold WL wpList
  rw [if_pos (by simp [Region.wanted])]
  refine .inl ?_
  unfold Oper.wp
  rw [hrun]
  exact k _ (Upd.setRow hb)
end

/-! ### regions of open order, what is read being held by S -/
def WS (P : Program) (S : World → Prop) (ops : Array Oper) (K : Kont) (fuel : Nat) (L : Array Bool) (a : Act) (w : World) : Prop :=
  wpAnyH P .any ops (Qof K [] (fun _ _ => False)) S fuel L a w

section
variable {P : Program} {S : World → Prop} {N : Kont} {X : List (Nat × Kont)} {R : Kont} {a : Act} {w : World} {ops : Array Oper} {K : Kont} {fuel : Nat} {L : Array Bool} {n : NN} {F : Fs} {op : Op} {T : TypeId} {pp : String} {af : Array Edge} {v : Value} {d : Nat}

theorem W_dS (S : World → Prop) {id m : Nat} (hsz : ops.size = m) (hm : P.follows .mixedOrders = true)
    (h : ∀ K : Kont, (∀ a w, N a w → K a w) → WS P S ops K m (Array.replicate m false) a { w with drawn := w.drawn + 1 }) : W P (.region id ops true) N X R a w := by
  subst hsz
  refine wp_mono (wp_region_held hm (h N (fun _ _ h => h))) fun e a w hq => ?_
  cases e with
  | exit i => simp [Qof, lookX] at hq
  | normal => exact hq
  | ret => exact hq.elim
  | goto l => exact hq.elim
  | panic c => exact hq.elim
  | outgrown => exact hq.elim

theorem b_v {i : Nat} (hi : nth ops.toList i = some ⟨some d, op, T, pp, af, none⟩) (hk : okv ops L i = true) (hF : Fr n F a) (hv : ∀ w', S w' → Val P op T F w' v) (hd : Nat.blt d n.n = true) (hS : S w)
    (k : ∀ a, Fr n ((d, v) :: F) a → WS P S ops K fuel (L.setIfInBounds i true) a w) : WS P S ops K (fuel + 1) L a w := by
  simp only [okv, Bool.and_eq_true] at hk
  rw [nth_eq, Array.getElem?_toList] at hi
  exact wpAnyH_take hi hk.1.1 hk.1.2 hk.2 (fun _ _ _ h => h) (.inl ⟨by simp [Region.wanted], fun w' hw => hv w' hw a.eval hF.reads _ _ _ _⟩) hS (k _ (hF.put hd))

theorem of_WL {i : Nat} {o : Oper} (hi : nth ops.toList i = some o) (h : WL P ops (fun a' w' => S w' ∧ WS P S ops K fuel (L.setIfInBounds i true) a' w') [o] a w) :
    wpOp P ops (Qof K [] (fun _ _ => False)) i (fun a' w' => S w' ∧ wpAnyH P .any ops (Qof K [] (fun _ _ => False)) S fuel (L.setIfInBounds i true) a' w') a w := by
  rw [nth_eq, Array.getElem?_toList] at hi
  unfold wpOp
  simp only [hi]
  have hno : ∀ K' : Kont, ¬ LetsOut (Qof K' [] (fun _ _ => False)) := fun K' ⟨a, w, h⟩ => h
  unfold WL wpList at h
  split
  · rename_i hw
    rw [if_pos hw] at h
    rcases h with h | ⟨_, h⟩
    · refine .inl ?_
      exact Oper.wp_mono (K := wpList P ops (Qof (fun a' w' => S w' ∧ WS P S ops K fuel (L.setIfInBounds i true) a' w') [] (fun _ _ => False)) []) (fun a' w' hk => hk) (upon_congr (fun _ _ _ h => h) (fun h => absurd h (hno _)) h)
    · exact absurd h (hno _)
  · rename_i hw
    rw [if_neg hw] at h
    exact h

theorem b_e {i : Nat} {o : Oper} (hr : Region.ready .any ops L = [i]) (hi : nth ops.toList i = some o) (h : WL P ops (fun a' w' => S w' ∧ WS P S ops K fuel (L.setIfInBounds i true) a' w') [o] a w) : WS P S ops K (fuel + 1) L a w :=
  wpAnyH_all hr (by simp) fun j hj => by obtain rfl : j = i := by simpa using hj
                                         exact of_WL hi h

theorem b_e2 {i i' : Nat} {o o' : Oper} (hr : Region.ready .any ops L = [i, i']) (hi : nth ops.toList i = some o) (hi' : nth ops.toList i' = some o') (h : WL P ops (fun a' w' => S w' ∧ WS P S ops K fuel (L.setIfInBounds i true) a' w') [o] a w)
    (h' : WL P ops (fun a' w' => S w' ∧ WS P S ops K fuel (L.setIfInBounds i' true) a' w') [o'] a w) : WS P S ops K (fuel + 1) L a w :=
  wpAnyH_all hr (by simp) fun j hj => by
    have : j = i ∨ j = i' := by simpa using hj
    rcases this with rfl | rfl
    · exact of_WL hi h
    · exact of_WL hi' h'

theorem b_done (hr : Region.ready .any ops L = []) (h : K a w) : WS P S ops K fuel L a w := wpAnyH_done hr h fuel
end

/-! ### the tables in the making -/
/-- From w to w1: block k holds C; the blocks gs are new rows of m zeros. -/
structure Mid (E T m : Nat) (w w1 : World) (k : Nat) (C : Array Value) (gs : List Nat) : Prop where
  os : w1.os = w.os
  tape : w1.tape = w.tape
  output : w1.output = w.output
  size : w1.heap.size = w.heap.size + gs.length
  keep : ∀ j, j < w.heap.size → j ≠ k → w1.heap[j]? = w.heap[j]?
  blk : w1.heap[k]? = some (.cells C T (0, 0))
  old : k < w.heap.size
  new : ∀ g ∈ gs, w.heap.size ≤ g ∧ g < w1.heap.size ∧ w1.heap[g]? = some (.cells (ints (List.replicate m 0)).toArray E (0, 0))

theorem Mid.start {E T m : Nat} {w : World} {k : Nat} {C : Array Value} (h : w.heap[k]? = some (.cells C T (0, 0))) : Mid E T m w { w with drawn := w.drawn + 1 } k C [] :=
  ⟨rfl, rfl, rfl, rfl, fun _ _ _ => rfl, h, heap_lt h, fun g hg => by cases hg⟩

theorem Mid.make {E T m : Nat} {w w1 : World} {k : Nat} {C : Array Value} {gs : List Nat} (h : Mid E T m w w1 k C gs) : Mid E T m w (w1.alloc (.cells (ints (List.replicate m 0)).toArray E)) k C (w1.heap.size :: gs) := by
  have hold : ∀ j, j < w1.heap.size → (w1.alloc (.cells (ints (List.replicate m 0)).toArray E)).heap[j]? = w1.heap[j]? := fun j hj => RowKit.Below.heap_alloc w1 _ j hj
  have hsz : (w1.alloc (.cells (ints (List.replicate m 0)).toArray E)).heap.size = w1.heap.size + 1 := by simp
  refine ⟨h.os, h.tape, h.output, by rw [hsz, h.size]; simp; omega, fun j hj hk => ?_, ?_, h.old, fun g hg => ?_⟩
  · rw [hold j (by have := h.size; omega)]; exact h.keep j hj hk
  · rw [hold k (heap_lt h.blk)]; exact h.blk
  · rcases List.mem_cons.1 hg with rfl | hg
    · exact ⟨by have := h.size; omega, by omega, alloc_new _ _⟩
    · obtain ⟨a, b, c⟩ := h.new g hg
      exact ⟨a, by omega, by rw [hold g b]; exact c⟩

theorem Mid.store {E T m : Nat} {w w1 w2 : World} {k : Nat} {C C' : Array Value} {gs : List Nat} (h : Mid E T m w w1 k C gs) (hu : Upd w1 w2 k (.cells C' T (0, 0))) : Mid E T m w w2 k C' gs := by
  refine ⟨hu.os.trans h.os, hu.tape.trans h.tape, hu.output.trans h.output, hu.size.trans h.size, fun j hj hk => (hu.keep j hk).trans (h.keep j hj hk), hu.new, h.old, fun g hg => ?_⟩
  obtain ⟨a, b, c⟩ := h.new g hg
  have hgk : g ≠ k := fun e => by have := h.old; omega
  exact ⟨a, by rw [hu.size]; exact b, by rw [hu.keep g hgk]; exact c⟩

section
variable {P : Program} {ops : Array Oper} {K : Kont} {rest : List Oper} {n : NN} {F : Fs} {T : TypeId} {pp : String} {af : Array Edge} {v : Value} {d : Nat} {a : Act} {w w1 : World} {x y : Operand}
theorem s_mkM {E Tf t by_ m k : Nat} {C : Array Value} {gs : List Nat} {k1 k2 : IntKind} (hF : Fr n F a) (ht : Sl P t E (.int .i64 0) by_) (hx : ev F x = some (.int k1 (m : Int))) (hy : ev F y = some (.int k2 (m : Int)))
    (hb : m * by_ ≤ 281474976710656) (hm : m ≤ maxLen) (hd : Nat.blt d n.n = true) (hM : Mid E Tf m w w1 k C gs)
    (kk : ∀ w' a g, (∀ g' ∈ gs, g' < g) → Mid E Tf m w w' k C (g :: gs) → Fr n ((d, .slice (some ⟨g, 0, none⟩) m m) :: F) a → WL P ops K rest a w') :
    WL P ops K (⟨some d, .makeSlice t x y, T, pp, af, none⟩ :: rest) a w1 := by
  refine s_run (w' := w1.alloc (.cells (List.replicate m (Value.int .i64 0)).toArray E)) hF (fun ρ h => ?_) hd fun a hF => kk _ a _ (fun g' hg => (hM.new g' hg).2.1) ?_ hF
  · simp [execOp, h x _ hx, h y _ hy, run_mk ht hb hm]
  · have := hM.make
    simpa [ints] using this
end

/-- From w to w1: block k holds C, the blocks g1, g2 behind w hold xs and ls, all else of w is as it was. -/
structure Tst (D : FD) (w w1 : World) (k : Nat) (C : Array Value) (g1 g2 : Nat) (xs ls : List Nat) : Prop where
  os : w1.os = w.os
  tape : w1.tape = w.tape
  output : w1.output = w.output
  size : w.heap.size + 2 ≤ w1.heap.size
  keep : ∀ j, j < w.heap.size → j ≠ k → w1.heap[j]? = w.heap[j]?
  blk : w1.heap[k]? = some (.cells C D.T (0, 0))
  old : k < w.heap.size
  n1 : w.heap.size ≤ g1 ∧ g1 < w.heap.size + 2
  n2 : w.heap.size ≤ g2 ∧ g2 < w.heap.size + 2
  ne : g1 ≠ g2
  b1 : w1.heap[g1]? = some (.cells (ints xs).toArray D.E (0, 0))
  b2 : w1.heap[g2]? = some (.cells (ints ls).toArray D.E (0, 0))
  inv : Inv D (w.heap.size + 2) w1

theorem Mid.tst {D : FD} {m : Nat} {w w1 : World} {k : Nat} {C : Array Value} {g1 g2 : Nat} (h : Mid D.E D.T m w w1 k C [g2, g1]) (hne : g1 ≠ g2) : Tst D w w1 k C g1 g2 (List.replicate m 0) (List.replicate m 0) := by
  obtain ⟨a1, b1, c1⟩ := h.new g1 (by simp)
  obtain ⟨a2, b2, c2⟩ := h.new g2 (by simp)
  have hs : w1.heap.size = w.heap.size + 2 := h.size
  exact ⟨h.os, h.tape, h.output, by omega, h.keep, h.blk, h.old, ⟨a1, by omega⟩, ⟨a2, by omega⟩, hne, c1, c2, by rw [← hs]; exact ⟨Nat.le_refl _, fun j hj c fr hc => by have := heap_lt hc; omega⟩⟩
theorem Mid.swap {E T m : Nat} {w w1 : World} {k : Nat} {C : Array Value} {g1 g2 : Nat} (h : Mid E T m w w1 k C [g1, g2]) : Mid E T m w w1 k C [g2, g1] :=
  ⟨h.os, h.tape, h.output, h.size, h.keep, h.blk, h.old, fun g hg => h.new g (by simp at hg ⊢; omega)⟩

/-- A step that turns nothing below w.heap.size + 2. -/
theorem Tst.step {D : FD} {w w1 w2 : World} {k : Nat} {C : Array Value} {g1 g2 : Nat} {xs ls : List Nat} (h : Tst D w w1 k C g1 g2 xs ls) (hs : St D (w.heap.size + 2) w1 w2) : Tst D w w2 k C g1 g2 xs ls := by
  have hb := hs.ext.below h.inv.1
  have hk : ∀ j, j < w.heap.size + 2 → w2.heap[j]? = w1.heap[j]? := fun j hj => hb.block j hj
  refine ⟨hs.ext.os.trans h.os, hs.ext.tape.trans h.tape, hs.ext.output.trans h.output, Nat.le_trans h.size hs.ext.size, fun j hj hjk => ?_, ?_, h.old, h.n1, h.n2, h.ne, ?_, ?_, hs.inv⟩
  · rw [hk j (by omega)]; exact h.keep j hj hjk
  · rw [hk k (by have := h.old; omega)]; exact h.blk
  · rw [hk g1 h.n1.2]; exact h.b1
  · rw [hk g2 h.n2.2]; exact h.b2

theorem Inv.upd {D : FD} {B b : Nat} {w w' : World} {o : Obj} (hI : Inv D B w) (hu : Upd w w' b o) (hb : b < B) : Inv D B w' := by
  refine ⟨by rw [hu.size]; exact hI.1, fun k hk c fr hc => ?_⟩
  rw [hu.keep k (by omega)] at hc
  obtain ⟨wb, p, h1, h2⟩ := hI.2 k hk c fr hc
  have htab : ∀ v xs, Tab D.E B w v xs → Tab D.E B w' v xs := by
    rintro v xs ⟨g, h1, h2, h3⟩
    exact ⟨g, h1, h2, by rw [hu.keep g (by omega)]; exact h3⟩
  refine ⟨wb, p, h1, ?_⟩
  rw [hu.keep k (by omega)]
  exact h2.imp id fun ⟨e, l, h3, h4, h5⟩ => ⟨e, l, h3, htab _ _ h4, htab _ _ h5⟩

theorem Tst.exp {D : FD} {w w1 w2 : World} {k : Nat} {C : Array Value} {g1 g2 i n : Nat} {xs ls : List Nat} (h : Tst D w w1 k C g1 g2 xs ls) (hu : Upd w1 w2 g1 (.cells ((ints xs).toArray.setIfInBounds i (.int .i64 (n : Int))) D.E (0, 0))) :
    Tst D w w2 k C g1 g2 (xs.set i n) ls := by
  have hkg : k ≠ g1 := fun e => by have := h.old; have := h.n1; omega
  refine ⟨hu.os.trans h.os, hu.tape.trans h.tape, hu.output.trans h.output, by rw [hu.size]; exact h.size, fun j hj hjk => ?_, ?_, h.old, h.n1, h.n2, h.ne, ?_, ?_, h.inv.upd hu h.n1.2⟩
  · rw [hu.keep j (by have := h.n1; omega)]; exact h.keep j hj hjk
  · rw [hu.keep k hkg]; exact h.blk
  · rw [hu.new, ← ints_set]; simp
  · rw [hu.keep g2 (Ne.symm h.ne)]; exact h.b2

theorem Tst.log {D : FD} {w w1 w2 : World} {k : Nat} {C : Array Value} {g1 g2 i n : Nat} {xs ls : List Nat} (h : Tst D w w1 k C g1 g2 xs ls) (hu : Upd w1 w2 g2 (.cells ((ints ls).toArray.setIfInBounds i (.int .i64 (n : Int))) D.E (0, 0))) :
    Tst D w w2 k C g1 g2 xs (ls.set i n) := by
  have hkg : k ≠ g2 := fun e => by have := h.old; have := h.n2; omega
  refine ⟨hu.os.trans h.os, hu.tape.trans h.tape, hu.output.trans h.output, by rw [hu.size]; exact h.size, fun j hj hjk => ?_, ?_, h.old, h.n1, h.n2, h.ne, ?_, ?_, h.inv.upd hu h.n2.2⟩
  · rw [hu.keep j (by have := h.n2; omega)]; exact h.keep j hj hjk
  · rw [hu.keep k hkg]; exact h.blk
  · rw [hu.keep g1 h.ne]; exact h.b1
  · rw [hu.new, ← ints_set]; simp

theorem Mid.S {E T m : Nat} {w w1 : World} {k pb : Nat} {C : Array Value} {gs : List Nat} {u v : Value} (h : Mid E T m w w1 k C gs) (hc : w.cell? ⟨pb, 0, none⟩ = some v) (hne : k ≠ pb) (hu : C[0]? = some u) :
    w1.cell? ⟨pb, 0, none⟩ = some v ∧ w1.cell? ⟨k, 0, none⟩ = some u := by
  have hlt : pb < w.heap.size := by
    apply Classical.byContradiction
    intro hn
    simp [World.cell?, Array.getElem?_eq_none (show w.heap.size ≤ pb by omega)] at hc
  refine ⟨(cell_of_heap (a := ⟨pb, 0, none⟩) (h.keep pb hlt (Ne.symm hne))).trans hc, ?_⟩
  simp [World.cell?, h.blk, hu]
theorem Tst.c {D : FD} {w w1 : World} {k : Nat} {C : Array Value} {g1 g2 : Nat} {xs ls : List Nat} (h : Tst D w w1 k C g1 g2 xs ls) (i : Nat) {u : Value} (hu : C[i]? = some u) : w1.cell? ⟨k, i, none⟩ = some u := by
  simp [World.cell?, h.blk, hu]
theorem Tst.pb {D : FD} {w w1 : World} {k pb : Nat} {C : Array Value} {g1 g2 : Nat} {xs ls : List Nat} {v : Value} (h : Tst D w w1 k C g1 g2 xs ls) (hc : w.cell? ⟨pb, 0, none⟩ = some v) (hne : k ≠ pb) : w1.cell? ⟨pb, 0, none⟩ = some v := by
  have hlt : pb < w.heap.size := by
    apply Classical.byContradiction
    intro hn
    simp [World.cell?, Array.getElem?_eq_none (show w.heap.size ≤ pb by omega)] at hc
  exact (cell_of_heap (a := ⟨pb, 0, none⟩) (h.keep pb hlt (Ne.symm hne))).trans hc
theorem Tst.drew {D : FD} {w w1 : World} {k : Nat} {C : Array Value} {g1 g2 : Nat} {xs ls : List Nat} (h : Tst D w w1 k C g1 g2 xs ls) : Tst D w { w1 with drawn := w1.drawn + 1 } k C g1 g2 xs ls :=
  h.step ⟨ext_drew D _ w1, h.inv⟩

theorem setCell_heap {w : World} {k i : Nat} {C : Array Value} {T : TypeId} {fr : Nat × Nat} (v : Value) (h : w.heap[k]? = some (.cells C T fr)) : Upd w (w.setCell ⟨k, i, none⟩ v) k (.cells (C.setIfInBounds i v) T fr) := by
  refine ⟨rfl, rfl, rfl, by simp [World.setCell], ?_, fun j hj => ?_⟩
  · simp [World.setCell, Array.getElem?_modify, h]
  · simp only [World.setCell, Array.getElem?_modify]
    rw [if_neg (Ne.symm hj)]

/-- The tables are made: the field is one whose tables are made, all else is as it was. -/
theorem Tst.done {D : FD} {B wb p k g1 g2 : Nat} {w w2 : World} (hI : Inv D B w) (hB : B ≤ k) (hk : w.heap[k]? = some (.cells (fcells wb p 0 (.slice none 0 0) (.slice none 0 0)) D.T (0, 0)))
    (hT : Tst D (w.setCell ⟨k, 3, none⟩ (.int .i32 1)) w2 k #[.int .i64 (wb : Int), .int .u32 (p : Int), .int .u32 0, .int .i32 1, .int .u32 0, .slice (some ⟨g1, 0, none⟩) (2 ^ wb) (2 ^ wb), .slice (some ⟨g2, 0, none⟩) (2 ^ wb) (2 ^ wb)] g1 g2 (expL wb p (2 ^ wb - 1)) (logL wb p (2 ^ wb - 1))) :
    St D B w ((w2.drew.setCell ⟨k, 2, none⟩ (.int .u32 1)).setCell ⟨k, 3, none⟩ (.int .i32 0)) ∧ Made D B ((w2.drew.setCell ⟨k, 2, none⟩ (.int .u32 1)).setCell ⟨k, 3, none⟩ (.int .i32 0)) k wb p g1 g2 := by
  have hu0 := setCell_heap (i := 3) (.int .i32 1) hk
  have hu1 := setCell_heap (w := w2.drew) (i := 2) (.int .u32 1) hT.blk
  have hu2 := setCell_heap (i := 3) (.int .i32 0) hu1.new
  generalize (w2.drew.setCell ⟨k, 2, none⟩ (.int .u32 1)).setCell ⟨k, 3, none⟩ (.int .i32 0) = w' at *
  generalize w.setCell ⟨k, 3, none⟩ (.int .i32 1) = w0 at *
  have hs0 : w0.heap.size = w.heap.size := hu0.size
  have hs2 : w'.heap.size = w2.heap.size := by rw [hu2.size, hu1.size]; rfl
  have hsz : w.heap.size + 2 ≤ w'.heap.size := by have := hT.size; omega
  have hkl : k < w.heap.size := heap_lt hk
  have heq2 : ∀ j, j ≠ k → w'.heap[j]? = w2.heap[j]? := fun j hj => (hu2.keep j hj).trans (hu1.keep j hj)
  have heq : ∀ j, j < w.heap.size → j ≠ k → w'.heap[j]? = w.heap[j]? := fun j hj hjk => (heq2 j hjk).trans ((hT.keep j (by omega) hjk).trans (hu0.keep j hjk))
  have hblk : w'.heap[k]? = some (.cells (fcells wb p 1 (.slice (some ⟨g1, 0, none⟩) (2 ^ wb) (2 ^ wb)) (.slice (some ⟨g2, 0, none⟩) (2 ^ wb) (2 ^ wb))) D.T (0, 0)) := hu2.new
  have n1 := hT.n1
  have n2 := hT.n2
  have c1 : w'.heap[g1]? = some (.cells (ints (expL wb p (2 ^ wb - 1))).toArray D.E (0, 0)) := by rw [heq2 g1 (by omega)]; exact hT.b1
  have c2 : w'.heap[g2]? = some (.cells (ints (logL wb p (2 ^ wb - 1))).toArray D.E (0, 0)) := by rw [heq2 g2 (by omega)]; exact hT.b2
  have l1 : (ints (expL wb p (2 ^ wb - 1))).length = 2 ^ wb := by rw [ints_length, expL_len (Nat.sub_le _ _)]
  have l2 : (ints (logL wb p (2 ^ wb - 1))).length = 2 ^ wb := by rw [ints_length, logL_len]
  have hBs := hI.1
  have hmade : Made D B w' k wb p g1 g2 := ⟨hB, hblk, ⟨g1, by rw [l1]; rfl, by omega, c1⟩, ⟨g2, by rw [l2]; rfl, by omega, c2⟩⟩
  have htab : ∀ v xs, Tab D.E B w v xs → Tab D.E B w' v xs := by
    rintro v xs ⟨g, h1, h2, h3⟩
    refine ⟨g, h1, h2, ?_⟩
    rw [heq g (heap_lt h3) (fun e => ?_)]
    · exact h3
    · subst e; rw [hk] at h3; exact D.ne (Obj.cells.inj (Option.some.inj h3)).2.1.symm
  have hne1 : ∀ j wb' p' e l, w.heap[j]? = some (.cells (fcells wb' p' 1 e l) D.T (0, 0)) → j ≠ k := by
    rintro j wb' p' e l h2 rfl
    rw [hk] at h2; have := (Obj.cells.inj (Option.some.inj h2)).1; simp [fcells] at this
  have hmades : ∀ j wb p e l, Made D B w j wb p e l → Made D B w' j wb p e l := by
    rintro j wb p e l ⟨h1, h2, h3, h4⟩
    exact ⟨h1, by rw [heq j (heap_lt h2) (hne1 _ _ _ _ _ h2)]; exact h2, htab _ _ h3, htab _ _ h4⟩
  have hfok : ∀ j wb p, FOK D B w j wb p → FOK D B w' j wb p := by
    intro j wb' p' h
    obtain ⟨h1, h2 | h2⟩ := h
    · by_cases e : j = k
      · subst e
        rw [hk] at h2
        have := (Obj.cells.inj (Option.some.inj h2)).1
        simp [fcells] at this
        obtain ⟨e1, e2⟩ := this
        have e1' : wb = wb' := by omega
        have e2' : p = p' := by omega
        subst e1' e2'
        exact hmade.fok
      · exact ⟨h1, .inl (by rw [heq j (heap_lt h2) e]; exact h2)⟩
    · obtain ⟨e, l, h2, h3, h4⟩ := h2
      exact ⟨h1, .inr ⟨e, l, by rw [heq j (heap_lt h2) (hne1 _ _ _ _ _ h2)]; exact h2, htab _ _ h3, htab _ _ h4⟩⟩
  have hnew : ∀ j c fr, w.heap.size ≤ j → w'.heap[j]? = some (.cells c D.T fr) → w.heap.size + 2 ≤ j ∧ ∃ wb p, FOK D (w.heap.size + 2) w2 j wb p ∧ w2.heap[j]? = some (.cells c D.T fr) := by
    intro j c fr hj hc
    have hjk : j ≠ k := by omega
    have h12 : j ≠ g1 ∧ j ≠ g2 := by
      constructor
      · rintro rfl; rw [c1] at hc; exact D.ne (Obj.cells.inj (Option.some.inj hc)).2.1
      · rintro rfl; rw [c2] at hc; exact D.ne (Obj.cells.inj (Option.some.inj hc)).2.1
    have hne := hT.ne
    have hj2 : w.heap.size + 2 ≤ j := by omega
    rw [heq2 j hjk] at hc
    obtain ⟨wb, p, h⟩ := hT.inv.2 j (by omega) c fr hc
    rw [hs0] at h
    exact ⟨hj2, wb, p, h, hc⟩
  have hlift : ∀ j wb p, w.heap.size + 2 ≤ j → FOK D (w.heap.size + 2) w2 j wb p → FOK D B w' j wb p := by
    rintro j wb p hj ⟨h1, h2⟩
    have ht2 : ∀ v xs, Tab D.E (w.heap.size + 2) w2 v xs → Tab D.E B w' v xs := by
      rintro v xs ⟨g, a1, a2, a3⟩
      exact ⟨g, a1, by omega, by rw [heq2 g (by omega)]; exact a3⟩
    refine ⟨by omega, ?_⟩
    rw [heq2 j (by omega)]
    exact h2.imp id fun ⟨e, l, h3, h4, h5⟩ => ⟨e, l, h3, ht2 _ _ h4, ht2 _ _ h5⟩
  refine ⟨⟨⟨?_, ?_, ?_, by omega, fun j hj hc => ?_, hfok, fun b hb hp j hj c fr hc => ?_, hmades⟩, ⟨by omega, fun j hj c fr hc => ?_⟩⟩, hmade⟩
  · exact hu2.os.trans (hu1.os.trans (hT.os.trans hu0.os))
  · exact hu2.tape.trans (hu1.tape.trans (hT.tape.trans hu0.tape))
  · exact hu2.output.trans (hu1.output.trans (hT.output.trans hu0.output))
  · refine heq j hj ?_
    rintro rfl
    rcases hc with hc | hc
    · omega
    · exact hc _ _ hk
  · by_cases hjk : j = k
    · subst hjk
      rw [hblk] at hc
      obtain ⟨rfl, -, -⟩ := Obj.cells.inj (Option.some.inj hc)
      intro a n m hm
      simp [fcells] at hm
      rcases hm with ⟨rfl, _⟩ | ⟨rfl, _⟩ <;> simp <;> omega
    · by_cases hlt : j < w.heap.size
      · rw [heq j hlt hjk] at hc
        exact hp j hj c fr hc
      · obtain ⟨hj2, wb', p', ⟨h1, h2⟩, h3⟩ := hnew j c fr (by omega) hc
        intro a n m hm
        rcases h2 with h2 | ⟨e, l, h2, ⟨g, rfl, hg, _⟩, ⟨g', rfl, hg', _⟩⟩
        · rw [h2] at h3
          obtain ⟨rfl, -, -⟩ := Obj.cells.inj (Option.some.inj h3)
          simp [fcells] at hm
        · rw [h2] at h3
          obtain ⟨rfl, -, -⟩ := Obj.cells.inj (Option.some.inj h3)
          simp [fcells] at hm
          rcases hm with ⟨rfl, _⟩ | ⟨rfl, _⟩ <;> simp <;> omega
  · by_cases hjk : j = k
    · subst hjk; exact ⟨wb, p, hmade.fok⟩
    · by_cases hlt : j < w.heap.size
      · rw [heq j hlt hjk] at hc
        obtain ⟨wb', p', h⟩ := hI.2 j hj c fr hc
        exact ⟨wb', p', hfok _ _ _ h⟩
      · obtain ⟨hj2, wb', p', h, h3⟩ := hnew j c fr (by omega) hc
        exact ⟨wb', p', hlift j wb' p' hj2 h⟩
end Go.Gam
