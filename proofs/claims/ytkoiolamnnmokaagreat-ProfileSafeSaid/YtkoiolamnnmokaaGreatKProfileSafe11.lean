/- Texts of the claim ProfileSafe (part 11), put together in the order of their imports. -/
import Derived.Test.YtkoiolamnnmokaaGreatKProfileSafe10
/- Ranges over functions whose rounds turn nothing that was there: an iterator's contract; the statement's rule, in no round's frame and in a round's; a round that is handed on within a region whose order is open; a function's end with marks, its results in cells. No program in sight. -/
set_option linter.unusedVariables false
set_option linter.unusedSimpArgs false
set_option linter.unusedSectionVars false
namespace Go.Gam
open Go

theorem Xt.mono {D : FD} {B n n' : Nat} {w w' : World} (h : Xt D B n w w') (hn : n' ≤ n) : Xt D B n' w w' :=
  ⟨h.os, h.tape, h.output, h.size, fun k hk hc => h.keep k hk (hc.imp (fun h => Nat.lt_of_lt_of_le h hn) id), h.fld, h.priv, h.made, h.inv⟩
/-- What is no row and lies below n stays. -/
theorem Xt.oth {D : FD} {B n : Nat} {w w' : World} (h : Xt D B n w w') {k : Nat} {o : Obj} (hk : w.heap[k]? = some o) (ho : o.isCells = false) (hn : k < n) : w'.heap[k]? = some o :=
  (h.keep k (heap_lt hk) (.inl hn) (.inr (notT_nc hk ho))).trans hk
/-- A whole round: the loop's record is as it was, and so is all else. -/
theorem St.round {D : FD} {B : Nat} {A A2 A' : World} {l : Nat} {o1 o2 : Obj} (h : St D B A A2) (h2 : St D B (A2.putObj l o1) A') (hl : A.heap[l]? = some o2) (ho2 : o2.isCells = false) (ho1 : o1.isCells = false) : St D B A (A'.putObj l o2) := by
  have hl2 : A2.heap[l]? = some o2 := (h.z (Z := fun _ => False)).ext.oth l o2 hl ho2
  have hs := sameC_put hl2 ho2 ho1
  have hl3 : (A2.putObj l o1).heap[l]? = some o1 := World.putObj_heap_same (heap_lt hl2)
  have hl4 : A'.heap[l]? = some o1 := (h2.z (Z := fun _ => False)).ext.oth l o1 hl3 ho1
  have hs4 := sameC_put hl4 ho1 ho2
  refine ⟨⟨h2.ext.os.trans h.ext.os, h2.ext.tape.trans h.ext.tape, h2.ext.output.trans h.ext.output, ?_, fun k hk hc => ?_, fun k wb p hf => hs4.fok (h2.ext.fld k wb p (hs.fok (h.ext.fld k wb p hf))),
    fun b hb hp => hs4.priv (h2.ext.priv b (by have := h.ext.size; simp; omega) (hs.priv (h.ext.priv b hb hp))), fun k wb p e g hf => hs4.made (h2.ext.made k wb p e g (hs.made (h.ext.made k wb p e g hf)))⟩, hs4.inv (by simp) h2.inv⟩
  · have h1 := h.ext.size; have h3 := h2.ext.size; simp at h3 ⊢; omega
  · by_cases hne : k = l
    · subst hne
      rw [hl]
      exact World.putObj_heap_same (heap_lt hl4)
    · have e1 := h.ext.keep k hk hc
      have e2 : (A2.putObj l o1).heap[k]? = A.heap[k]? := (World.putObj_heap_other hne).trans e1
      have e3 := h2.ext.keep k (by have := h.ext.size; simp; omega) (hc.imp id (notT_of e2))
      exact (World.putObj_heap_other hne).trans (e3.trans e2)
/-- What is no row, from m on, stays, whatever else turns. -/
structure StO (D : FD) (B m : Nat) (w w' : World) : Prop where
  os : w'.os = w.os
  tape : w'.tape = w.tape
  output : w'.output = w.output
  size : w.heap.size ≤ w'.heap.size
  oth : ∀ (k : Nat) (o : Obj), m ≤ k → w.heap[k]? = some o → o.isCells = false → w'.heap[k]? = some o
  fld : ∀ k wb p, FOK D B w k wb p → FOK D B w' k wb p
  priv : ∀ b, b < w.heap.size → Priv D B w b → Priv D B w' b
  made : ∀ k wb p ge gl, Made D B w k wb p ge gl → Made D B w' k wb p ge gl
  inv : Inv D B w'
theorem StZ.o {D : FD} {B m : Nat} {Z : Nat → Prop} {w w' : World} (h : StZ D B Z w w') : StO D B m w w' :=
  ⟨h.ext.os, h.ext.tape, h.ext.output, h.ext.size, fun k o _ => h.ext.oth k o, h.ext.fld, h.ext.priv, h.ext.made, h.inv⟩
theorem St.o {D : FD} {B m : Nat} {w w' : World} (h : St D B w w') : StO D B m w w' := (h.z (Z := fun _ => False)).o
theorem StO.mono {D : FD} {B m m' : Nat} {w w' : World} (h : StO D B m w w') (hm : m ≤ m') : StO D B m' w w' :=
  ⟨h.os, h.tape, h.output, h.size, fun k o hk => h.oth k o (Nat.le_trans hm hk), h.fld, h.priv, h.made, h.inv⟩
theorem StO.trans {D : FD} {B m : Nat} {a b c : World} (h : StO D B m a b) (k : StO D B m b c) : StO D B m a c :=
  ⟨k.os.trans h.os, k.tape.trans h.tape, k.output.trans h.output, Nat.le_trans h.size k.size, fun i o hi h1 h2 => k.oth i o hi (h.oth i o hi h1 h2) h2,
    fun i wb p hf => k.fld i wb p (h.fld i wb p hf), fun b hb hp => k.priv b (Nat.lt_of_lt_of_le hb h.size) (h.priv b hb hp), fun i wb p e l hf => k.made i wb p e l (h.made i wb p e l hf), k.inv⟩
theorem StO.xt {D : FD} {B m n : Nat} {a b c : World} (h : StO D B m a b) (k : Xt D B n b c) (hn : a.heap.size ≤ n) : StO D B m a c :=
  ⟨k.os.trans h.os, k.tape.trans h.tape, k.output.trans h.output, Nat.le_trans h.size k.size, fun i o hi h1 h2 => k.oth (h.oth i o hi h1 h2) h2 (by have := heap_lt h1; omega),
    fun i wb p hf => k.fld i wb p (h.fld i wb p hf), fun b hb hp => k.priv b (Nat.lt_of_lt_of_le hb h.size) (h.priv b hb hp), fun i wb p e l hf => k.made i wb p e l (h.made i wb p e l hf), k.inv⟩
theorem StO.put {D : FD} {B m : Nat} {w A : World} {l : Nat} {o o' : Obj} (h : StO D B m w A) (hl : A.heap[l]? = some o) (ho : o.isCells = false) (ho' : o'.isCells = false) (hn : l < m) : StO D B m w (A.putObj l o') := by
  have hs := sameC_put hl ho ho'
  exact ⟨h.os, h.tape, h.output, by simpa using h.size, fun k o1 hk h1 h2 => (World.putObj_heap_other (show k ≠ l by omega)).trans (h.oth k o1 hk h1 h2), fun k wb p hf => hs.fok (h.fld k wb p hf), fun b hb hp => hs.priv (h.priv b hb hp), fun k wb p e g hf => hs.made (h.made k wb p e g hf), hs.inv (by simp) h.inv⟩
/-- A step that changes a row. -/
theorem StO.mb {D : FD} {B m : Nat} {b : Option Nat} {w0 w w' : World} (hs : StO D B m w0 w) (h : Mb D B b w w') (hb : ∀ k, b = some k → ∃ c e fr, w.heap[k]? = some (.cells c e fr)) : StO D B m w0 w' :=
  hs.trans (StZ.o (Z := fun _ => True) (StZ.mb (StZ.refl hs.inv) h (fun k e => ⟨trivial, hb k e⟩)))
theorem Mk.o {D : FD} {B m n : Nat} {ds : List Nat} {w w' : World} (h : Mk n ds w) (hs : StO D B m w w') (hm : m ≤ n) : Mk n ds w' :=
  ⟨h.1, fun k hk => ⟨(h.2 k hk).1, hs.oth k _ (Nat.le_trans hm (h.2 k hk).1) (h.2 k hk).2 rfl⟩⟩
section
variable {P : Program}

/-- Function gf with lb captured, called with yield, hands over the elements xs, one behind the other, until a round has had enough. Rounds that go on turn nothing that was there. -/
def SeqS (P : Program) (D : FD) (B : Nat) {α : Type} (gf : FuncId) (lb : List Value) (enc : α → World → Value → Prop) (xs : List α) (w0 : World) : Prop :=
  ∀ (l : Nat) (J Jx : Nat → World → Prop) (W : World), St D B w0 W →
    (∀ i A C, J i A → Xt D B W.heap.size A C → J i C) → (∀ i A C, Jx i A → Xt D B W.heap.size A C → Jx i C) →
    (∀ i x v A, xs[i]? = some x → J i A → St D B W A → enc x A v → YieldOk P l v A fun b A' => (b = true ∧ J (i + 1) A' ∧ St D B A A') ∨ (b = false ∧ Jx (i + 1) A' ∧ StO D B W.heap.size A A')) →
    J 0 W → Calls P gf (#[.func (.yield l) #[] #[]] ++ lb.toArray) W fun e A' => ∃ v, e = .returned v ∧ ((J xs.length A' ∧ St D B W A') ∨ ∃ i, Jx i A')

variable {a : Act} {w : World} {N : Kont} {X : List (Nat × Kont)} {R : Kont}
/-- **A range over a function, in no round's frame.** -/
theorem W_rfS {D : FD} {B : Nat} {α : Type} {g : Operand} {p : Tmp} {assign body : Code} {n : NN} {F : Fs} {gf : FuncId} {lb : List Value} {enc : α → World → Value → Prop} {xs : List α}
    (J : Nat → World → Prop) (Jr : World → Prop) (G : Value → Act → World → Prop)
    (hF : Fr n F a) (hg : ev F g = some (.func (.func gf) #[] lb.toArray)) (hp : Nat.blt p n.n = true) (eg : Ent P gf) (hI : Inv D B w)
    (hseq : SeqS P D B gf lb enc xs w)
    (hJ : ∀ i A C, J i A → Xt D B w.heap.size A C → J i C) (hJr : ∀ A C, Jr A → Xt D B w.heap.size A C → Jr C) (hG : ∀ v a A C, G v a A → Xt D B w.heap.size A C → G v a C)
    (hE : ∀ x v A C, enc x A v → Xt D B w.heap.size A C → enc x C v) (h0 : J 0 w)
    (hassign : ∀ l i x v A a', xs[i]? = some x → J i A → St D B w A → enc x A v → Fr ⟨n.n, []⟩ ((p, v) :: F) a' → WI P (some l) assign (fun a2 A2 => St D B A A2 ∧ G v a2 A2) [] (fun _ _ => False) a' A)
    (hbody : ∀ l i x v A a2, (∃ r, A.heap[l]? = some (.loop r)) → xs[i]? = some x → J i A → St D B w A → enc x A v → G v a2 A → WI P (some l) body (fun _ A' => J (i + 1) A' ∧ St D B A A') [] (fun _ A' => Jr A' ∧ StO D B w.heap.size A A') a2 A)
    (hdone : ∀ a' W, Fr ⟨n.n, w.heap.size :: n.ds⟩ F a' → W.heap[w.heap.size]? = some (.deferred (some [])) → J xs.length W → St D B w W → N a' W)
    (hret : ∀ a' W, Fr ⟨n.n, w.heap.size :: n.ds⟩ F a' → W.heap[w.heap.size]? = some (.deferred (some [])) → Jr W → Inv D B W → R a' W) :
    W P (.rangeFunc g #[p] assign body) N X R a w := by
  refine W_of (wpIn_rangeFunc fun fn _ => ?_)
  obtain ⟨rec, hrec⟩ : ∃ rec : LoopState → Option Code → Loop, rec = fun st pe => { state := st, pending := pe, fn, tmps := a.tmps, params := #[p], assign, body, defers := w.heap.size } := ⟨_, rfl⟩
  obtain ⟨W1, hW1⟩ : ∃ W1, (w.alloc (.deferred (some []))).alloc (.loop (rec .ready none)) = W1 := ⟨_, rfl⟩
  have hs0 : St D B w (w.alloc (.deferred (some []))) := St.new hI rfl
  have hs1 : St D B w W1 := by rw [← hW1]; exact hs0.trans (St.new hs0.inv rfl)
  have hL1 : W1.heap[w.heap.size + 1]? = some (.loop (rec .ready none)) := by
    rw [← hW1]; have := World.alloc_heap_new (w.alloc (.deferred (some []))) (.loop (rec .ready none)); rwa [World.size_alloc] at this
  have hK1 : W1.heap[w.heap.size]? = some (.deferred (some [])) := by
    rw [← hW1]; exact (RowKit.Below.heap_alloc _ _ _ (by simp)).trans (World.alloc_heap_new w _)
  have hz1 : W1.heap.size = w.heap.size + 2 := by rw [← hW1]; simp
  refine ⟨(w.heap.size + 1), [{ target := .collected w.heap.size, args := #[] }], W1, { target := .fn (.func gf) lb.toArray, args := #[.func (.yield (w.heap.size + 1)) #[] #[]] }, W1, gf,
    #[.func (.yield (w.heap.size + 1)) #[] #[]] ++ lb.toArray, W1, ?_, ?_, fun _ _ => trivial, ?_, fun hd => by simp [FW, Fence.wide] at hd, ?_⟩
  · rw [← hW1, hrec]; exact run_enterLoop_outer _ _ _ _ _
  · have := hF.reads g _ hg
    simp [resolve, rangeCall, Deferred.ofValue, Act.eval] at this ⊢
    simp [this]
  · have := eg (#[.func (.yield (w.heap.size + 1)) #[] #[]] ++ lb.toArray) W1
    simp [invoke] at this ⊢
    exact this
  · refine callsIn_wide.2 ?_
    have key := hseq (w.heap.size + 1) (fun i A => J i A ∧ Inv D B A ∧ A.heap[(w.heap.size + 1)]? = some (.loop (rec .ready none)) ∧ A.heap[w.heap.size]? = some (.deferred (some [])))
      (fun i A => Jr A ∧ Inv D B A ∧ A.heap[(w.heap.size + 1)]? = some (.loop (rec .done (some .ret))) ∧ A.heap[w.heap.size]? = some (.deferred (some [])))
      W1 hs1
      (fun i A C ⟨h1, h2, h3, h4⟩ hs => ⟨hJ i A C h1 (hs.mono (by omega)), hs.inv, hs.oth h3 rfl (by omega), hs.oth h4 rfl (by omega)⟩)
      (fun i A C ⟨h1, h2, h3, h4⟩ hs => ⟨hJr A C h1 (hs.mono (by omega)), hs.inv, hs.oth h3 rfl (by omega), hs.oth h4 rfl (by omega)⟩) ?_ ⟨hJ 0 w W1 h0 hs1.xt, hs1.inv, hL1, hK1⟩
    · refine Calls.mono key ?_
      rintro e A' ⟨v, rfl, ⟨⟨h1, h2, h3, h4⟩, hz⟩ | ⟨i, h1, h2, h3, h4⟩⟩
      · refine ⟨none, _, by subst hrec; exact run_endLoop (P := P) h3 (by simp), ?_⟩
        have hx := Xt.put (n := w.heap.size) h2 (Nat.le_succ _) h3 rfl (o' := .loop { rec .ready none with state := .exhausted }) rfl
        refine hdone _ _ ⟨hF.size, by show _ :: a.defers = _; rw [hF.defers]; rfl, hF.val⟩ ?_ (hJ _ _ _ h1 (by subst hrec; exact hx)) ((hs1.trans hz).thenX (by subst hrec; exact hx) (Nat.le_refl _))
        exact (World.putObj_heap_other (by omega)).trans h4
      · refine ⟨some .ret, _, by subst hrec; exact run_endLoop (P := P) h3 (by simp), ?_⟩
        have hx := Xt.put (n := w.heap.size) h2 (Nat.le_succ _) h3 rfl (o' := .loop { rec .done (some .ret) with state := .exhausted }) rfl
        refine wpIn_ret (hret _ _ ⟨hF.size, by show _ :: a.defers = _; rw [hF.defers]; rfl, hF.val⟩ ?_ (hJr _ _ h1 (by subst hrec; exact hx)) (by subst hrec; exact hx.inv))
        exact (World.putObj_heap_other (by omega)).trans h4
    · rintro i x v A hx ⟨h1, h2, h3, h4⟩ hz he
      have hy := run_yield (P := P) (args := #[v]) h3 (by subst hrec; rfl)
      replace hy : (Instr.yield (w.heap.size + 1) #[v]).run P A = .ok (.round (w.heap.size + 1) fn (a.tmps.setIfInBounds p v) assign body) A := by subst hrec; simpa using hy
      refine ⟨fn, _, assign, body, hy, roundIn_of_wpIn trivial ?_⟩
      have hfr : Fr ⟨n.n, []⟩ ((p, v) :: F) { tmps := a.tmps.setIfInBounds p v, defers := [] } := by
        have := Fr.put (n := ⟨n.n, []⟩) (F := F) (a := { tmps := a.tmps, defers := [] }) (d := p) (v := v) ⟨hF.size, rfl, hF.val⟩ hp
        exact this
      have hzA : St D B w A := hs1.trans hz
      refine wpIn_mono (hassign (w.heap.size + 1) i x v A { tmps := a.tmps.setIfInBounds p v, defers := [] } hx h1 hzA he hfr) ?_
      rintro e a2 A2 hq
      cases e with
      | normal =>
        obtain ⟨hs2, hg2⟩ : St D B A A2 ∧ G v a2 A2 := hq
        have hl2 : A2.heap[(w.heap.size + 1)]? = some (.loop (rec .ready none)) := (hs2.z (Z := fun _ => False)).ext.oth _ _ h3 rfl
        have hx2 := Xt.put (n := w.heap.size) hs2.inv (Nat.le_succ _) hl2 rfl (o' := .loop { rec .ready none with state := .busy }) rfl
        have hb3 : (A2.putObj (w.heap.size + 1) (.loop { rec .ready none with state := .busy })).heap[(w.heap.size + 1)]? = some (.loop { rec .ready none with state := .busy }) := World.putObj_heap_same (heap_lt hl2)
        refine ⟨_, run_beginRound hl2 (by subst hrec; rfl), ?_⟩
        have hd3 : (A2.putObj (w.heap.size + 1) (.loop { rec .ready none with state := .busy })).heap[w.heap.size]? = some (.deferred (some [])) := (World.putObj_heap_other (by omega)).trans ((hs2.z (Z := fun _ => False)).ext.oth _ _ h4 rfl)
        refine wpIn_mono (hbody (w.heap.size + 1) i x v _ a2 ⟨_, hb3⟩ hx (hJ _ _ _ (hJ _ _ _ h1 hs2.xt) hx2) ((hzA.trans hs2).thenX hx2 (Nat.le_refl _)) (hE _ _ _ _ (hE _ _ _ _ he hs2.xt) hx2) (hG _ _ _ _ hg2 hx2)) ?_
        rintro e' a3 A' hq'
        cases e' with
        | normal =>
          obtain ⟨j1, j2⟩ : J (i + 1) A' ∧ St D B (A2.putObj (w.heap.size + 1) (.loop { rec .ready none with state := .busy })) A' := hq'
          have hl' := (j2.z (Z := fun _ => False)).ext.oth _ _ hb3 rfl
          have hx4 := Xt.put (n := w.heap.size) j2.inv (Nat.le_succ _) hl' rfl (o' := .loop (rec .ready none)) rfl
          refine ⟨_, _, run_endRound none hl', true, rfl, .inl ⟨rfl, ⟨?_, ?_, ?_, ?_⟩, ?_⟩⟩
          · subst hrec; exact hJ _ _ _ j1 hx4
          · subst hrec; exact hx4.inv
          · subst hrec; exact World.putObj_heap_same (heap_lt hl')
          · exact (World.putObj_heap_other (by omega)).trans ((j2.z (Z := fun _ => False)).ext.oth _ _ hd3 rfl)
          · subst hrec; exact St.round hs2 j2 h3 rfl rfl
        | ret =>
          obtain ⟨j1, j2⟩ : Jr A' ∧ StO D B w.heap.size (A2.putObj (w.heap.size + 1) (.loop { rec .ready none with state := .busy })) A' := hq'
          have hl' := j2.oth _ _ (Nat.le_succ _) hb3 rfl
          have hx4 := Xt.put (n := w.heap.size) j2.inv (Nat.le_succ _) hl' rfl (o' := .loop (rec .done (some .ret))) rfl
          refine ⟨_, _, run_endRound (some .ret) hl', false, rfl, .inr ⟨rfl, ⟨?_, ?_, ?_, ?_⟩, ?_⟩⟩
          · subst hrec; exact hJr _ _ j1 hx4
          · subst hrec; exact hx4.inv
          · subst hrec; exact World.putObj_heap_same (heap_lt hl')
          · exact (World.putObj_heap_other (by omega)).trans (j2.oth _ _ (Nat.le_refl _) hd3 rfl)
          · have hfirst : StO D B W1.heap.size A (A2.putObj (w.heap.size + 1) (.loop { rec .ready none with state := .busy })) := hs2.o.put hl2 rfl rfl (by omega)
            have := (hfirst.trans (j2.mono (by omega))).put hl' rfl (o' := .loop (rec .done (some .ret))) rfl (by omega)
            subst hrec; exact this
        | exit id => exact absurd hq' (by simp [Qof, lookX])
        | goto t => exact hq'.elim
        | panic c => exact hq'.elim
        | outgrown => exact hq'.elim
      | exit id => exact absurd hq (by simp [Qof, lookX])
      | ret => exact hq.elim
      | goto t => exact hq.elim
      | panic c => exact hq.elim
      | outgrown => exact hq.elim
/-- **A range over a function, in a round's frame.** -/
theorem Rd.W_rfS {D : FD} {B l0 : Nat} {α : Type} {g : Operand} {p : Tmp} {assign body : Code} {n : NN} {F : Fs} {gf : FuncId} {lb : List Value} {enc : α → World → Value → Prop} {xs : List α}
    (J : Nat → World → Prop) (Jr : World → Prop) (G : Value → Act → World → Prop) (hl0 : ∃ r, w.heap[l0]? = some (.loop r))
    (hF : Fr n F a) (hg : ev F g = some (.func (.func gf) #[] lb.toArray)) (hp : Nat.blt p n.n = true) (eg : Ent P gf) (hI : Inv D B w)
    (hseq : SeqS P D B gf lb enc xs w)
    (hJ : ∀ i A C, J i A → Xt D B w.heap.size A C → J i C) (hJr : ∀ A C, Jr A → Xt D B w.heap.size A C → Jr C) (hG : ∀ v a A C, G v a A → Xt D B w.heap.size A C → G v a C)
    (hE : ∀ x v A C, enc x A v → Xt D B w.heap.size A C → enc x C v) (h0 : J 0 w)
    (hassign : ∀ l i x v A a', xs[i]? = some x → J i A → St D B w A → enc x A v → Fr ⟨n.n, []⟩ ((p, v) :: F) a' → WI P (some l) assign (fun a2 A2 => St D B A A2 ∧ G v a2 A2) [] (fun _ _ => False) a' A)
    (hbody : ∀ l i x v A a2, (∃ r, A.heap[l]? = some (.loop r)) → xs[i]? = some x → J i A → St D B w A → enc x A v → G v a2 A → WI P (some l) body (fun _ A' => J (i + 1) A' ∧ St D B A A') [] (fun _ A' => Jr A' ∧ StO D B w.heap.size A A') a2 A)
    (hdone : ∀ a' W, Fr n F a' → J xs.length W → St D B w W → N a' W)
    (hret : ∀ a' W, Fr n F a' → Jr W → Inv D B W → R a' W) :
    WI P (some l0) (.rangeFunc g #[p] assign body) N X R a w := by
  obtain ⟨r0, hl0⟩ := hl0
  refine wpIn_rangeFunc fun fn _ => ?_
  obtain ⟨rec, hrec⟩ : ∃ rec : LoopState → Option Code → Loop, rec = fun st pe => { state := st, pending := pe, fn, tmps := a.tmps, params := #[p], assign, body, defers := r0.defers } := ⟨_, rfl⟩
  obtain ⟨W1, hW1⟩ : ∃ W1, w.alloc (.loop (rec .ready none)) = W1 := ⟨_, rfl⟩
  have hs1 : St D B w W1 := by rw [← hW1]; exact St.new hI rfl
  have hL1 : W1.heap[w.heap.size]? = some (.loop (rec .ready none)) := by rw [← hW1]; exact World.alloc_heap_new w _
  have hz1 : W1.heap.size = w.heap.size + 1 := by rw [← hW1]; simp
  refine ⟨w.heap.size, [], W1, { target := .fn (.func gf) lb.toArray, args := #[.func (.yield w.heap.size) #[] #[]] }, W1, gf,
    #[.func (.yield w.heap.size) #[] #[]] ++ lb.toArray, W1, ?_, ?_, fun _ _ => trivial, ?_, fun hd => by simp [FW, Fence.wide] at hd, ?_⟩
  · rw [← hW1, hrec]; exact run_enterLoop_inner hl0 _ _ _ _ _
  · have := hF.reads g _ hg
    simp [resolve, rangeCall, Deferred.ofValue, Act.eval] at this ⊢
    simp [this]
  · have := eg (#[.func (.yield w.heap.size) #[] #[]] ++ lb.toArray) W1
    simp [invoke] at this ⊢
    exact this
  · refine callsIn_wide.2 ?_
    have key := hseq w.heap.size (fun i A => J i A ∧ Inv D B A ∧ A.heap[w.heap.size]? = some (.loop (rec .ready none)))
      (fun i A => Jr A ∧ Inv D B A ∧ A.heap[w.heap.size]? = some (.loop (rec .done (some .ret))))
      W1 hs1
      (fun i A C ⟨h1, h2, h3⟩ hs => ⟨hJ i A C h1 (hs.mono (by omega)), hs.inv, hs.oth h3 rfl (by omega)⟩)
      (fun i A C ⟨h1, h2, h3⟩ hs => ⟨hJr A C h1 (hs.mono (by omega)), hs.inv, hs.oth h3 rfl (by omega)⟩) ?_ ⟨hJ 0 w W1 h0 hs1.xt, hs1.inv, hL1⟩
    · refine Calls.mono key ?_
      rintro e A' ⟨v, rfl, ⟨⟨h1, h2, h3⟩, hz⟩ | ⟨i, h1, h2, h3⟩⟩
      · refine ⟨none, _, by subst hrec; exact run_endLoop (P := P) h3 (by simp), ?_⟩
        have hx := Xt.put (n := w.heap.size) h2 (Nat.le_refl _) h3 rfl (o' := .loop { rec .ready none with state := .exhausted }) rfl
        exact hdone _ _ ⟨hF.size, by show a.defers = _; exact hF.defers, hF.val⟩ (hJ _ _ _ h1 (by subst hrec; exact hx)) ((hs1.trans hz).thenX (by subst hrec; exact hx) (Nat.le_refl _))
      · refine ⟨some .ret, _, by subst hrec; exact run_endLoop (P := P) h3 (by simp), ?_⟩
        have hx := Xt.put (n := w.heap.size) h2 (Nat.le_refl _) h3 rfl (o' := .loop { rec .done (some .ret) with state := .exhausted }) rfl
        refine wpIn_ret (hret _ _ ⟨hF.size, by show a.defers = _; exact hF.defers, hF.val⟩ (hJr _ _ h1 (by subst hrec; exact hx)) (by subst hrec; exact hx.inv))
    · rintro i x v A hx ⟨h1, h2, h3⟩ hz he
      have hy := run_yield (P := P) (args := #[v]) h3 (by subst hrec; rfl)
      replace hy : (Instr.yield w.heap.size #[v]).run P A = .ok (.round w.heap.size fn (a.tmps.setIfInBounds p v) assign body) A := by subst hrec; simpa using hy
      refine ⟨fn, _, assign, body, hy, roundIn_of_wpIn trivial ?_⟩
      have hfr : Fr ⟨n.n, []⟩ ((p, v) :: F) { tmps := a.tmps.setIfInBounds p v, defers := [] } := by
        have := Fr.put (n := ⟨n.n, []⟩) (F := F) (a := { tmps := a.tmps, defers := [] }) (d := p) (v := v) ⟨hF.size, rfl, hF.val⟩ hp
        exact this
      have hzA : St D B w A := hs1.trans hz
      refine wpIn_mono (hassign w.heap.size i x v A { tmps := a.tmps.setIfInBounds p v, defers := [] } hx h1 hzA he hfr) ?_
      rintro e a2 A2 hq
      cases e with
      | normal =>
        obtain ⟨hs2, hg2⟩ : St D B A A2 ∧ G v a2 A2 := hq
        have hl2 : A2.heap[w.heap.size]? = some (.loop (rec .ready none)) := (hs2.z (Z := fun _ => False)).ext.oth _ _ h3 rfl
        have hx2 := Xt.put (n := w.heap.size) hs2.inv (Nat.le_refl _) hl2 rfl (o' := .loop { rec .ready none with state := .busy }) rfl
        have hb3 : (A2.putObj w.heap.size (.loop { rec .ready none with state := .busy })).heap[w.heap.size]? = some (.loop { rec .ready none with state := .busy }) := World.putObj_heap_same (heap_lt hl2)
        refine ⟨_, run_beginRound hl2 (by subst hrec; rfl), ?_⟩
        refine wpIn_mono (hbody w.heap.size i x v _ a2 ⟨_, hb3⟩ hx (hJ _ _ _ (hJ _ _ _ h1 hs2.xt) hx2) ((hzA.trans hs2).thenX hx2 (Nat.le_refl _)) (hE _ _ _ _ (hE _ _ _ _ he hs2.xt) hx2) (hG _ _ _ _ hg2 hx2)) ?_
        rintro e' a3 A' hq'
        cases e' with
        | normal =>
          obtain ⟨j1, j2⟩ : J (i + 1) A' ∧ St D B (A2.putObj w.heap.size (.loop { rec .ready none with state := .busy })) A' := hq'
          have hl' := (j2.z (Z := fun _ => False)).ext.oth _ _ hb3 rfl
          have hx4 := Xt.put (n := w.heap.size) j2.inv (Nat.le_refl _) hl' rfl (o' := .loop (rec .ready none)) rfl
          refine ⟨_, _, run_endRound none hl', true, rfl, .inl ⟨rfl, ⟨?_, ?_, ?_⟩, ?_⟩⟩
          · subst hrec; exact hJ _ _ _ j1 hx4
          · subst hrec; exact hx4.inv
          · subst hrec; exact World.putObj_heap_same (heap_lt hl')
          · subst hrec; exact St.round hs2 j2 h3 rfl rfl
        | ret =>
          obtain ⟨j1, j2⟩ : Jr A' ∧ StO D B w.heap.size (A2.putObj w.heap.size (.loop { rec .ready none with state := .busy })) A' := hq'
          have hl' := j2.oth _ _ (Nat.le_refl _) hb3 rfl
          have hx4 := Xt.put (n := w.heap.size) j2.inv (Nat.le_refl _) hl' rfl (o' := .loop (rec .done (some .ret))) rfl
          refine ⟨_, _, run_endRound (some .ret) hl', false, rfl, .inr ⟨rfl, ⟨?_, ?_, ?_⟩, ?_⟩⟩
          · subst hrec; exact hJr _ _ j1 hx4
          · subst hrec; exact hx4.inv
          · subst hrec; exact World.putObj_heap_same (heap_lt hl')
          · have hfirst : StO D B W1.heap.size A (A2.putObj w.heap.size (.loop { rec .ready none with state := .busy })) := hs2.o.put hl2 rfl rfl (by omega)
            have := (hfirst.trans (j2.mono (by omega))).put hl' rfl (o' := .loop (rec .done (some .ret))) rfl (by omega)
            subst hrec; exact this
        | exit id => exact absurd hq' (by simp [Qof, lookX])
        | goto t => exact hq'.elim
        | panic c => exact hq'.elim
        | outgrown => exact hq'.elim
      | exit id => exact absurd hq (by simp [Qof, lookX])
      | ret => exact hq.elim
      | goto t => exact hq.elim
      | panic c => exact hq.elim
      | outgrown => exact hq.elim

/-! ### a function's end, with marks, its results in cells -/
theorem leavesMC {D : FD} {B m : Nat} {fn : Func} {tmps : Array Value} {v : Value} {Q : Value → World → Prop} : ∀ (ds : List Nat) (w : World), Mk m ds w → Inv D B w → (∀ w2, Xt D B m w w2 → (results fn tmps).run P w2 = .ok v w2) → (∀ w2, Xt D B m w w2 → Q v w2) →
    LeavesInM Fence.wide 0 P fn tmps (fun e w' => ∃ u, e = .returned u ∧ Q u w') (ds.map dmark) .returning w
  | [], w, _, hI, hr, hq => ⟨v, hr w (Xt.refl hI), v, rfl, hq w (Xt.refl hI)⟩
  | d :: ds, w, hM, hI, hr, hq => by
    obtain ⟨h1, h2⟩ := hM.2 d (by simp)
    have hx := Xt.put (n := m) hI h1 h2 rfl (o' := .deferred none) rfl
    refine ⟨by simp, .inl ⟨d, w.putObj d (.deferred none), rfl, run_takeDeferred h2, leavesMC ds _ ⟨(List.nodup_cons.1 hM.1).2, fun k hk => ?_⟩ hx.inv (fun w2 h => hr w2 (hx.trans h)) (fun w2 h => hq w2 (hx.trans h))⟩⟩
    have hne : k ≠ d := fun e => (List.nodup_cons.1 hM.1).1 (e ▸ hk)
    exact ⟨(hM.2 k (by simp [hk])).1, (World.putObj_heap_other hne).trans (hM.2 k (by simp [hk])).2⟩

theorem enterMGC {D : FD} {B : Nat} {f : FuncId} {fn : Func} {c : Code} {vs : List Value} {Q : Value → World → Prop} {n : NN} {F : Fs} (m : Nat) (E : Kont) (hf : P.funcs[f]? = some fn) (hb : fn.body = some c) (hn : n = ⟨fn.ntmps, []⟩) (hle : Nat.ble vs.length n.n = true) (hF : F = idx vs 0)
    (hE : ∀ a w, E a w → ∃ ds v, a.defers = ds.map dmark ∧ Mk m ds w ∧ Inv D B w ∧ (∀ w2, Xt D B m w w2 → (results fn a.tmps).run P w2 = .ok v w2) ∧ ∀ w2, Xt D B m w w2 → Q v w2) (h : ∀ a, Fr n F a → W P c E [] E a w) : Ret P f vs w Q := by
  refine callsIn_wide.1 (callsIn_of_wp_marks (F := Fence.wide) (n := 0) hf hb trivial (wpIn_mono (WI_of (h _ ⟨by have := Nat.le_of_ble_eq_true hle; subst hn; simp at this ⊢; omega, by subst hn; rfl, fun i v hv => ?_⟩)) ?_) rfl)
  · rw [hF] at hv
    obtain ⟨k, hk, h1⟩ := look_idx vs 0 i v hv
    rw [show i = k from by omega]
    have h2 : k < vs.length := (List.getElem?_eq_some_iff.1 h1).1
    rw [Array.getElem?_append_left (by simpa using h2)]
    simpa using h1
  · intro e a w hq
    have key : ∀ a w, E a w → LeavesInM Fence.wide 0 P fn a.tmps (fun e w' => ∃ u, e = .returned u ∧ Q u w') a.defers .returning w := fun a w he => by
      obtain ⟨ds, v, h1, h2, h3, h4, h5⟩ := hE a w he
      rw [h1]
      exact leavesMC ds w h2 h3 h4 h5
    cases e with
    | normal => exact key a w hq
    | ret => exact key a w hq
    | exit i => simp [Qof, lookX] at hq
    | goto l => exact hq.elim
    | panic c => exact hq.elim
    | outgrown => exact hq.elim
/-- A function's end: two results, read from cells that stay. -/
abbrev EMC (P : Program) (D : FD) (B m : Nat) (n : NN) (t ty s sy : Nat) (Q : Value → World → Prop) : Kont := fun a w =>
  ∃ ds F' g k v u, Mk m ds w ∧ Inv D B w ∧ Fr ⟨n.n, ds⟩ F' a ∧ look F' t = some (.pointer (some g)) ∧ look F' s = some (.pointer (some k)) ∧ (∀ w2, Xt D B m w w2 → (loadVar ty g).run P w2 = .ok v w2 ∧ (loadVar sy k).run P w2 = .ok u w2 ∧ Q (.tuple #[v, u]) w2)
theorem enterMCC {D : FD} {B : Nat} {f : FuncId} {fn : Func} {c : Code} {vs : List Value} {Q : Value → World → Prop} (m : Nat) (n : NN) (F : Fs) (t ty s sy : Nat) (hf : P.funcs[f]? = some fn) (hb : fn.body = some c) (hn : n = ⟨fn.ntmps, []⟩) (hr : fn.results = #[.cell t ty, .cell s sy]) (hle : Nat.ble vs.length n.n = true) (hF : F = idx vs 0)
    (h : ∀ a, Fr n F a → W P c (EMC P D B m n t ty s sy Q) [] (EMC P D B m n t ty s sy Q) a w) : Ret P f vs w Q := by
  refine enterMGC (D := D) (B := B) m _ hf hb hn hle hF (fun a w he => ?_) h
  obtain ⟨ds, F', g, k, v, u, hM, hI, hF', hl, hk, hq⟩ := he
  have hv := hF'.val t _ hl
  have hu := hF'.val s _ hk
  refine ⟨ds, _, hF'.defers, hM, hI, fun w2 hx => ?_, fun w2 hx => (hq w2 hx).2.2⟩
  obtain ⟨e1, e2, -⟩ := hq w2 hx
  simp [results, hr, Array.getD_eq_getD_getElem?, hv, hu, asAddr, e1, e2]
theorem enterM0 {D : FD} {B : Nat} {f : FuncId} {fn : Func} {c : Code} {vs : List Value} {Q : Value → World → Prop} (m : Nat) (n : NN) (F : Fs) (hf : P.funcs[f]? = some fn) (hb : fn.body = some c) (hn : n = ⟨fn.ntmps, []⟩) (hr : fn.results = #[]) (hle : Nat.ble vs.length n.n = true) (hF : F = idx vs 0)
    (h : ∀ a, Fr n F a → W P c (fun a w => ∃ ds F', Mk m ds w ∧ Inv D B w ∧ Fr ⟨n.n, ds⟩ F' a ∧ ∀ w2, Xt D B m w w2 → Q (.tuple #[]) w2) [] (fun a w => ∃ ds F', Mk m ds w ∧ Inv D B w ∧ Fr ⟨n.n, ds⟩ F' a ∧ ∀ w2, Xt D B m w w2 → Q (.tuple #[]) w2) a w) : Ret P f vs w Q := by
  refine enterMGC (D := D) (B := B) m _ hf hb hn hle hF (fun a w ⟨ds, F', hM, hI, hF', hq⟩ => ⟨ds, _, hF'.defers, hM, hI, fun w2 _ => ?_, hq⟩) h
  simp [results, hr]

/-! ### a region whose order is open, in a frame of a round -/
/-- What is still to come. -/
def WAI (P : Program) (r : Option Nat) (ops : Array Oper) (K : Kont) (fuel : Nat) (L : Array Bool) (a : Act) (w : World) : Prop := wpAnyIn (FW r) 0 P .any ops (Qof K [] (fun _ _ => False)) fuel L a w
section
variable {r : Option Nat} {ops : Array Oper} {K : Kont} {rest : List Oper} {n : NN} {F : Fs} {op : Op} {T : TypeId} {pp : String} {af : Array Edge} {v : Value} {d fuel : Nat} {L : Array Bool}
theorem Rd.W_sdI {D : FD} {B : Nat} {id m : Nat} {y : Code} (hsz : ops.size = m) (hm : P.follows .mixedOrders = true) (hI : Inv D B w)
    (h : ∀ K : Kont, (∀ a w, WI P r y N X R a w → K a w) → ∀ w', St D B w w' → w'.heap = w.heap → WAI P r ops K m (Array.replicate m false) a w') : WI P r (.seq (.region id ops true) y) N X R a w := by
  subst hsz
  refine Rd.W_seq (wpIn_mono (wpIn_region_any hm (h _ (fun _ _ h => h) { w with drawn := w.drawn + 1 } ⟨ext_drew D B w, hI⟩ rfl)) Rd.qof_reg)
theorem uponIn_congr {o : Oper} {a : Act} {next : Act → World → Prop} {K K' : Kont} {x : Result Next} (h : o.uponIn (FW r) 0 P a next (Qof K [] (fun _ _ => False)) x) : o.uponIn (FW r) 0 P a next (Qof K' [] (fun _ _ => False)) x := by
  have hno : ∀ K : Kont, ¬ LetsOut (Qof K [] (fun _ _ => False)) := fun K ⟨_, _, h⟩ => h
  cases x with
  | ok nx w' =>
    cases nx <;> simp only [Oper.uponIn] at h ⊢ <;> first
      | exact h
      | exact ⟨h.1, CallsIn.mono h.2 (fun e w'' he => by cases e <;> first | exact he | exact (he : False).elim | exact absurd he (hno _))⟩
      | exact ⟨h.1, RoundIn.mono h.2 (fun e w'' he => by cases e <;> first | exact he | exact (he : False).elim | exact absurd he (hno _))⟩
  | halt x w' => cases x <;> simp only [Oper.uponIn] at h ⊢ <;> exact h
theorem opI_of {i : Nat} {o : Oper} {M : Kont} (hi : nth ops.toList i = some o) (h : WLI P r ops M [o] a w) : wpOpIn (FW r) 0 P ops (Qof K [] (fun _ _ => False)) i M a w := by
  rw [nth_eq, Array.getElem?_toList] at hi
  unfold wpOpIn
  simp only [hi]
  unfold WLI wpListIn at h
  split
  · rename_i hw
    rw [if_pos hw] at h
    exact ⟨h.1, uponIn_congr (K := M) h.2⟩
  · rename_i hw
    rw [if_neg hw] at h
    exact h
/-- Number i is the only one that may come. -/
theorem ai_1 {i : Nat} {o : Oper} (hr : Region.ready .any ops L = [i]) (hi : nth ops.toList i = some o) (h : WLI P r ops (WAI P r ops K fuel (L.setIfInBounds i true)) [o] a w) : WAI P r ops K (fuel + 1) L a w :=
  wpAnyIn_all hr (by simp) fun j hj => by
    obtain rfl : j = i := by simpa using hj
    exact opI_of hi h
/-- Numbers i, j may come. -/
theorem ai_2 {i j : Nat} {o o' : Oper} (hr : Region.ready .any ops L = [i, j]) (hi : nth ops.toList i = some o) (hj : nth ops.toList j = some o') (h : WLI P r ops (WAI P r ops K fuel (L.setIfInBounds i true)) [o] a w) (h' : WLI P r ops (WAI P r ops K fuel (L.setIfInBounds j true)) [o'] a w) : WAI P r ops K (fuel + 1) L a w :=
  wpAnyIn_all hr (by simp) fun k hk => by
    rcases List.mem_cons.1 hk with rfl | hk
    · exact opI_of hi h
    · obtain rfl : k = j := by simpa using hk
      exact opI_of hj h'
/-- Numbers i, j, k may come. -/
theorem ai_3 {i j l : Nat} {o o' o2 : Oper} (hr : Region.ready .any ops L = [i, j, l]) (hi : nth ops.toList i = some o) (hj : nth ops.toList j = some o') (hl : nth ops.toList l = some o2) (h : WLI P r ops (WAI P r ops K fuel (L.setIfInBounds i true)) [o] a w) (h' : WLI P r ops (WAI P r ops K fuel (L.setIfInBounds j true)) [o'] a w) (h2 : WLI P r ops (WAI P r ops K fuel (L.setIfInBounds l true)) [o2] a w) : WAI P r ops K (fuel + 1) L a w :=
  wpAnyIn_all hr (by simp) fun k hk => by
    rcases List.mem_cons.1 hk with rfl | hk
    · exact opI_of hi h
    · rcases List.mem_cons.1 hk with rfl | hk
      · exact opI_of hj h'
      · obtain rfl : k = l := by simpa using hk
        exact opI_of hl h2
theorem ai_done (hr : Region.ready .any ops L = []) (h : K a w) : WAI P r ops K fuel L a w := wpAnyIn_done hr h fuel
theorem wli_nil (h : K a w) : WLI P r ops K [] a w := h
end
end
end Go.Gam

/- The walks of package cauchy: choices. -/
set_option linter.unusedVariables false
set_option linter.unusedSimpArgs false
namespace Go.Proofs.YtkoiolamnnmokaaGreat
open Go Go.Gam


namespace FxFSafe
theorem en45 : Ent Tryz.prog 45 := ent Tryz.func45 (by kernel_rfl) (by kernel_rfl)
theorem hmix : Tryz.prog.follows .mixedOrders = true := by kernel_rfl
theorem on3 : Gam.One Tryz.prog 3 := by unfold Gam.One; kernel_rfl
theorem sc117 : Scalar Tryz.prog 117 := ⟨_, Tryz.underlying117, by simp, by simp⟩
theorem sc3 : Scalar Tryz.prog 3 := ⟨_, Tryz.underlying3, by simp, by simp⟩
theorem sl53 : Sl Tryz.prog 53 3 (.int .i64 0) 8 := sl_of Tryz.underlying53 rfl (by kernel_rfl)
theorem zv3 : Zv Tryz.prog 3 (.int .i64 0) := zv_of rfl (by kernel_rfl)
end FxFSafe
open FxFSafe

def encL (B : Nat) (x : List Nat) (A : World) (v : Value) : Prop := Row FDx B A.heap.size A v (zints (casts x))
theorem encL_xt {B n : Nat} {x : List Nat} {v : Value} {A C : World} (h : encL B x A v) (hx : Xt FDx B n A C) : encL B x C v := (Row.xt h hx).mono hx.size

set_option maxRecDepth 100000 in
set_option maxHeartbeats 1000000 in
theorem choices_ok (B fr to m : Nat) (w : World) (hI : Inv FDx B w) : Ret Tryz.prog 45 [.int .i64 (fr : Int), .int .i64 (to : Int), .int .i64 (m : Int)] w fun v w' => ∃ gm gf gt, v = .func (.func 80) #[] #[.pointer (some ⟨gm, 0, none⟩), .pointer (some ⟨gf, 0, none⟩), .pointer (some ⟨gt, 0, none⟩)] ∧ Blk w' gm FDx.E [.int .i64 (m : Int)] ∧ Blk w' gf FDx.E [.int .i64 (fr : Int)] ∧ Blk w' gt FDx.E [.int .i64 (to : Int)] ∧ St FDx B w w' := by
 refine enter 8 [(0, .int .i64 (fr : Int)), (1, .int .i64 (to : Int)), (2, .int .i64 (m : Int))] 6 Tryz.func45 rfl rfl rfl rfl rfl ?_; intro a hF
 have hS := St.refl hI
 refine W_sr rfl (fun K hK => ?_)
 refine s_box (D := FDx) (B := B) hF rfl (by decide) hS.inv rfl ?_; clear hF a; intro w' a hm hbf hsz hF
 replace hS := hS.mb0 hm
 clear hm
 refine s_box (D := FDx) (B := B) hF rfl (by decide) hS.inv rfl ?_; clear hF a; intro w' a hm hbt hsz hF
 replace hbf := hbf.mb hm (by simp)
 replace hS := hS.mb0 hm
 clear hm
 refine s_box (D := FDx) (B := B) hF rfl (by decide) hS.inv rfl ?_; clear hF a; intro w' a hm hbm hsz hF
 replace hbf := hbf.mb hm (by simp)
 replace hbt := hbt.mb hm (by simp)
 replace hS := hS.mb0 hm
 clear hm
 refine sv hF (v_assign rfl) rfl ?_; clear hF a; intro a hF
 refine WL_nil (hK _ _ ?_)
 clear hK K
 replace hF := hF.sub _ (c_ 6 rfl (c_ 5 rfl (c_ 4 rfl (c_ 3 rfl (n_)))))
 refine W_sr rfl (fun K hK => ?_)
 refine sv hF (v_mkf rfl) rfl ?_; clear hF a; intro a hF
 refine sv hF (v_assign rfl) rfl ?_; clear hF a; intro a hF
 refine WL_nil (hK _ _ ?_)
 clear hK K
 replace hF := hF.sub _ (c_ 6 rfl (n_))
 refine W_ret ?_
 refine ⟨_, _, hF, rfl, ?_⟩
 exact ⟨_, _, _, rfl, hbm, hbf, hbt, hS⟩

set_option maxRecDepth 100000 in
set_option maxHeartbeats 1000000 in
theorem chs_zero (B to fr gm gf gt l : Nat) (J Jx : Nat → World → Prop) (w : World) (hI : Inv FDx B w) (hbm : Blk w gm FDx.E [.int .i64 ((0 : Nat) : Int)]) (hbf : Blk w gf FDx.E [.int .i64 (fr : Int)]) (hbt : Blk w gt FDx.E [.int .i64 (to : Int)]) (hJ : ∀ i A C, J i A → Xt FDx B w.heap.size A C → J i C) (hJx : ∀ i A C, Jx i A → Xt FDx B w.heap.size A C → Jx i C) (hy : ∀ i x v A, (ch to (0) fr)[i]? = some x → J i A → St FDx B w A → encL B x A v → YieldOk Tryz.prog l v A fun b A' => (b = true ∧ J (i + 1) A' ∧ St FDx B A A') ∨ (b = false ∧ Jx (i + 1) A' ∧ StO FDx B w.heap.size A A')) (h0 : J 0 w) : Ret Tryz.prog 80 [.func (.yield l) #[] #[], .pointer (some ⟨gm, 0, none⟩), .pointer (some ⟨gf, 0, none⟩), .pointer (some ⟨gt, 0, none⟩)] w fun _ A' => (J 1 A' ∧ St FDx B w A') ∨ ∃ i, Jx i A' := by
 refine enterM0 (D := FDx) (B := B) w.heap.size 34 [(0, .func (.yield l) #[] #[]), (1, .pointer (some ⟨gm, 0, none⟩)), (2, .pointer (some ⟨gf, 0, none⟩)), (3, .pointer (some ⟨gt, 0, none⟩))]  Tryz.func80 rfl rfl rfl rfl rfl ?_; intro a hF
 have hS := St.refl hI
 have hMk := Mk.nil w.heap.size w
 refine W_sr rfl (fun K hK => ?_)
 refine s_box (D := FDx) (B := B) hF rfl (by decide) hS.inv rfl ?_; clear hF a; intro w' a hm hby hsz hF
 replace hbm := hbm.mb hm (by simp)
 replace hMk := hMk.mb hm (fun k e => by cases e)
 replace hS := hS.mb0 hm
 clear hm
 refine WL_nil (hK _ _ ?_)
 clear hK K
 replace hF := hF.sub _ (c_ 4 rfl (c_ 1 rfl (c_ 2 rfl (c_ 3 rfl (n_)))))
 refine W_seq ?_
 refine W_sr rfl (fun K hK => ?_)
 refine sv hF (v_load sc3 rfl (hbm.at 0 rfl)) rfl ?_; clear hF a; intro a hF
 refine sv hF ((v_eql rfl rfl).as (congrArg Value.bool (decide_eq_true (rfl)))) rfl ?_; clear hF a; intro a hF
 refine WL_nil (hK _ _ ?_)
 clear hK K
 replace hF := hF.sub _ (c_ 8 rfl (c_ 4 rfl (c_ 1 rfl (c_ 2 rfl (c_ 3 rfl (n_))))))
 refine W_ifT hF rfl ?_
 refine W_srY rfl (fun K hK => ?_)
 refine svI hF rfl (v_load sc117 rfl (hby.at 0 rfl)) rfl ?_; clear hF a; intro a hF
 refine syI hF rfl rfl rfl ((hy 0 [] _ _ rfl (hJ _ _ _ h0 hS.xt) hS (Or.inl ⟨_, _, rfl, rfl⟩)).mono (fun b w' hb => ?_))
 rcases hb with ⟨rfl, hJ', hz⟩ | ⟨rfl, hX'⟩
 ·
  skip
  clear hF; intro a hF
  refine WLI_of rfl ?_
  replace hS := hS.trans hz
  replace hMk := hMk.st hz
  refine WL_nil (hK _ _ ?_)
  clear hK K
  replace hF := hF.sub _ (c_ 4 rfl (c_ 1 rfl (c_ 2 rfl (c_ 3 rfl (n_)))))
  refine W_ret ?_
  refine ⟨_, _, hMk, hS.inv, hF, fun w2 hX => ?_⟩
  first | exact Or.inl ⟨hJ _ _ _ hJ' hX, hS.thenX hX (Nat.le_refl _)⟩ | exact Or.inr ⟨_, hJx _ _ _ hX1 hX⟩
 ·
  skip
  clear hF; intro a hF
  refine WLI_of rfl ?_
  obtain ⟨hX1, hO⟩ := hX'
  clear hS hMk
  have hS := hO
  have hMk := Mk.nil w.heap.size w'
  refine WL_nil (hK _ _ ?_)
  clear hK K
  replace hF := hF.sub _ (c_ 4 rfl (c_ 1 rfl (c_ 2 rfl (c_ 3 rfl (n_)))))
  refine W_ret ?_
  refine ⟨_, _, hMk, hS.inv, hF, fun w2 hX => ?_⟩
  first | exact Or.inl ⟨hJ _ _ _ hJ' hX, hS.thenX hX (Nat.le_refl _)⟩ | exact Or.inr ⟨_, hJx _ _ _ hX1 hX⟩

set_option maxRecDepth 100000 in
set_option maxHeartbeats 1000000 in
theorem chs_succ (B to fr m gm gf gt l : Nat) (J Jx : Nat → World → Prop) (w : World) (hI : Inv FDx B w) (hsz : to ≤ 1000 ∧ fr ≤ 1000 ∧ m ≤ 1000) (hbm : Blk w gm FDx.E [.int .i64 ((m + 1 : Nat) : Int)]) (hbf : Blk w gf FDx.E [.int .i64 (fr : Int)]) (hbt : Blk w gt FDx.E [.int .i64 (to : Int)]) (hJ : ∀ i A C, J i A → Xt FDx B w.heap.size A C → J i C) (hJx : ∀ i A C, Jx i A → Xt FDx B w.heap.size A C → Jx i C) (hy : ∀ i x v A, (ch to (m + 1) fr)[i]? = some x → J i A → St FDx B w A → encL B x A v → YieldOk Tryz.prog l v A fun b A' => (b = true ∧ J (i + 1) A' ∧ St FDx B A A') ∨ (b = false ∧ Jx (i + 1) A' ∧ StO FDx B w.heap.size A A')) (h0 : J 0 w) (ih : ∀ (fr' : Nat) (w0 : World) (gm gf gt : Nat), fr' ≤ 1000 → Blk w0 gm FDx.E [.int .i64 (m : Int)] → Blk w0 gf FDx.E [.int .i64 (fr' : Int)] → Blk w0 gt FDx.E [.int .i64 (to : Int)] → SeqS Tryz.prog FDx B 80 [.pointer (some ⟨gm, 0, none⟩), .pointer (some ⟨gf, 0, none⟩), .pointer (some ⟨gt, 0, none⟩)] (encL B) (ch to m fr') w0) : Ret Tryz.prog 80 [.func (.yield l) #[] #[], .pointer (some ⟨gm, 0, none⟩), .pointer (some ⟨gf, 0, none⟩), .pointer (some ⟨gt, 0, none⟩)] w fun _ A' => (J (ch to (m + 1) fr).length A' ∧ St FDx B w A') ∨ ∃ i, Jx i A' := by
 refine enterM0 (D := FDx) (B := B) w.heap.size 34 [(0, .func (.yield l) #[] #[]), (1, .pointer (some ⟨gm, 0, none⟩)), (2, .pointer (some ⟨gf, 0, none⟩)), (3, .pointer (some ⟨gt, 0, none⟩))]  Tryz.func80 rfl rfl rfl rfl rfl ?_; intro a hF
 have hS := St.refl hI
 have hMk := Mk.nil w.heap.size w
 refine W_sr rfl (fun K hK => ?_)
 obtain ⟨gy, hgy⟩ : ∃ g, g = w.heap.size := ⟨_, rfl⟩
 refine s_box (D := FDx) (B := B) hF rfl (by decide) hS.inv rfl ?_; clear hF a; intro w' a hm hby hsz hF
 replace hbm := hbm.mb hm (by simp)
 replace hbf := hbf.mb hm (by simp)
 replace hbt := hbt.mb hm (by simp)
 replace hMk := hMk.mb hm (fun k e => by cases e)
 replace hS := hS.mb0 hm
 clear hm
 rw [← hgy] at hby hF
 have hgyl : w.heap.size ≤ gy := by omega
 clear hgy
 refine WL_nil (hK _ _ ?_)
 clear hK K
 replace hF := hF.sub _ (c_ 4 rfl (c_ 1 rfl (c_ 2 rfl (c_ 3 rfl (n_)))))
 refine W_seq ?_
 refine W_sr rfl (fun K hK => ?_)
 refine sv hF (v_load sc3 rfl (hbm.at 0 rfl)) rfl ?_; clear hF a; intro a hF
 refine sv hF ((v_eql rfl rfl).as (congrArg Value.bool (decide_eq_false (by omega)))) rfl ?_; clear hF a; intro a hF
 refine WL_nil (hK _ _ ?_)
 clear hK K
 replace hF := hF.sub _ (c_ 8 rfl (c_ 4 rfl (c_ 1 rfl (c_ 2 rfl (c_ 3 rfl (n_))))))
 refine W_ifF hF rfl ?_
 refine W_skip ?_
 refine W_sr rfl (fun K hK => ?_)
 refine sv hF (v_load sc3 rfl (hbf.at 0 rfl)) rfl ?_; clear hF a; intro a hF
 have hs0 := hS.ext.size
 obtain ⟨gi, hgi⟩ : ∃ g, g = w'.heap.size := ⟨_, rfl⟩
 have h1m := heap_lt hbm
 have h1f := heap_lt hbf
 have h1t := heap_lt hbt
 have h1y := heap_lt hby
 rw [← hgi] at hs0 h1m h1f h1t h1y
 refine s_alloc (D := FDx) (B := B) hF zv3 (by decide) hS.inv rfl ?_; clear hF a; intro w' a hm hI' hbi hsz hF
 replace hbm := hbm.mb hm (by simp)
 replace hbf := hbf.mb hm (by simp)
 replace hbt := hbt.mb hm (by simp)
 replace hMk := hMk.mb hm (fun k e => by cases e)
 replace hby := hby.mb hm (by simp)
 replace hS := hS.mb0 hm
 clear hm hI' hsz
 rw [← hgi] at hbi hF
 clear hgi
 refine s_stb (D := FDx) (B := B) hF on3 rfl rfl (rfl) hbi hS.inv ?_; intro w' hm hI' hbx'
 replace hbm := hbm.mb hm (by simp; omega)
 replace hbf := hbf.mb hm (by simp; omega)
 replace hbt := hbt.mb hm (by simp; omega)
 replace hMk := hMk.mb hm (fun k e => by cases e; exact ⟨_, _, _, hbi.blk⟩)
 replace hby := hby.mb hm (by simp; omega)
 replace hS := hS.mb hm (fun k h => by cases h; exact hs0)
 replace hbi := hbx'
 clear hm hI' hbx'
 refine WL_nil (hK _ _ ?_)
 clear hK K
 replace hF := hF.sub _ (c_ 5 rfl (c_ 4 rfl (c_ 1 rfl (c_ 3 rfl (n_)))))
 refine W_block ?_
 refine W_loop (fun q a w1 => ∃ (i gi : Nat) (ds : List Nat), Fr ⟨34, ds⟩ [(1, .pointer (some ⟨gm, 0, none⟩)), (3, .pointer (some ⟨gt, 0, none⟩)), (4, .pointer (some ⟨gy, 0, none⟩)), (5, .pointer (some ⟨gi, 0, none⟩))] a ∧ (St FDx B w w1) ∧ (Mk w.heap.size ds w1) ∧ (Blk w1 gm FDx.E [.int .i64 ((m + 1 : Nat) : Int)]) ∧ (Blk w1 gf FDx.E [.int .i64 (fr : Int)]) ∧ (Blk w1 gt FDx.E [.int .i64 (to : Int)]) ∧ (Blk w1 gy 117 [.func (.yield l) #[] #[]]) ∧ (Box FDx B gi w1 gi FDx.E (.int .i64 ((fr + i : Nat) : Int))) ∧ (w.heap.size ≤ gi) ∧ (J (chP to m fr i).length w1) ∧ (i ≤ to - m - fr) ∧ (q + i = to - m - fr)) (to - m - fr) ?_ ?_
 ·
  skip
  exact ⟨0, _, _, hF.sub _ (c_ 1 rfl (c_ 3 rfl (c_ 4 rfl (c_ 5 rfl (n_))))), hS, hMk, hbm, hbf, hbt, hby, hbi, hs0, hJ _ _ _ h0 hS.xt, by omega, by omega⟩
 ·
  skip
  clear hF
  clear hS hMk hbm hbf hbt hby hbi hs0
  rintro q a w1 ⟨i, gi, ds, hF, hS, hMk, hbm, hbf, hbt, hby, hbi, hgiw, hJ0, hi, hq⟩
  refine W_seq ?_
  refine W_sr rfl (fun K hK => ?_)
  refine sv hF (v_load sc3 rfl (hbi.blk.at 0 rfl)) rfl ?_; clear hF a; intro a hF
  refine sv hF (v_load sc3 rfl (hbt.at 0 rfl)) rfl ?_; clear hF a; intro a hF
  refine sv hF (v_load sc3 rfl (hbm.at 0 rfl)) rfl ?_; clear hF a; intro a hF
  refine sv hF (v_subI rfl rfl (by omega)) rfl ?_; clear hF a; intro a hF
  refine sv hF (v_leq rfl rfl) rfl ?_; clear hF a; intro a hF
  refine WL_nil (hK _ _ ?_)
  clear hK K
  replace hF := hF.sub _ (c_ 16 rfl (c_ 1 rfl (c_ 3 rfl (c_ 4 rfl (c_ 5 rfl (n_))))))
  refine W_if hF rfl (fun hc1 => ?_) (fun hc1 => ?_)
  ·
   skip
   try simp only [dcl] at hc1
   have hlt : i < to - m - fr := by omega
   refine W_skip ?_
   refine W_seq ?_
   refine W_block ?_
   refine W_sr rfl (fun K hK => ?_)
   refine sv hF (v_load sc3 rfl (hbi.blk.at 0 rfl)) rfl ?_; clear hF a; intro a hF
   refine sv hF ((v_addI rfl rfl (by omega)).as (show Value.int .i64 (((fr + i : Nat) : Int) + 1) = .int .i64 ((fr + i + 1 : Nat) : Int) by simp)) rfl ?_; clear hF a; intro a hF
   refine sv hF (v_load sc3 rfl (hbt.at 0 rfl)) rfl ?_; clear hF a; intro a hF
   refine sv hF (v_load sc3 rfl (hbm.at 0 rfl)) rfl ?_; clear hF a; intro a hF
   refine sv hF ((v_subI rfl rfl (by omega)).as (show Value.int .i64 (((m + 1 : Nat) : Int) - 1) = .int .i64 ((m : Nat) : Int) by congr 1; omega)) rfl ?_; clear hF a; intro a hF
   refine sc hF rfl rfl rfl en45 rfl (choices_ok B (fr + i + 1) to m _ hS.inv) ?_; clear hF a; intro v w' a hv hF
   obtain ⟨gm2, gf2, gt2, rfl, hbm2, hbf2, hbt2, hS'⟩ := hv
   replace hJ0 := hJ _ _ _ hJ0 hS'.xt
   replace hMk := hMk.st hS'
   replace hbm := hbm.st (by decide) hS'
   replace hbf := hbf.st (by decide) hS'
   replace hbt := hbt.st (by decide) hS'
   replace hby := hby.st (by decide) hS'
   replace hbi := hbi.st hS'
   replace hS := hS.trans hS'
   clear hS'
   have hsw := hS.ext.size
   have hds : ∀ d ∈ ds, d < w'.heap.size := fun d hd => heap_lt (hMk.2 d hd).2
   refine WL_nil (hK _ _ ?_)
   clear hK K
   replace hF := hF.sub _ (c_ 24 rfl (c_ 1 rfl (c_ 3 rfl (c_ 4 rfl (c_ 5 rfl (n_))))))
   refine W_block ?_
   refine W_rfS (D := FDx) (B := B) (fun k A => J ((chP to m fr i).length + k) A) (fun A => (∃ j, Jx j A) ∧ Mk w.heap.size ds A) (fun v a2 _ => Fr ⟨34, []⟩ [(4, .pointer (some ⟨gy, 0, none⟩)), (5, .pointer (some ⟨gi, 0, none⟩)), (6, v)] a2) hF rfl rfl (ent Tryz.func80 (by kernel_rfl) (by kernel_rfl)) hS.inv (ih (fr + i + 1) _ gm2 gf2 gt2 (by omega) hbm2 hbf2 hbt2) ?_ ?_ ?_ ?_ (hJ0) ?_ ?_ ?_ ?_
   ·
    exact fun k A C h hX => hJ _ _ _ h (hX.mono hsw)
   ·
    exact fun A C h hX => ⟨h.1.elim fun j h => ⟨j, hJx _ _ _ h (hX.mono hsw)⟩, h.2.xt hX hds⟩
   ·
    exact fun _ _ _ _ h _ => h
   ·
    exact fun x v A C h hX => encL_xt h hX
   ·
    skip
    clear hF
    intro l2 k x v A a hx hJA hSA he hF
    replace hS := St.refl hSA.inv
    refine Rd.W_reg rfl rfl (fun K hK => ?_)
    refine sv hF (v_assign rfl) rfl ?_; clear hF a; intro a hF
    refine WL_nil (hK _ _ ?_)
    clear hK K
    replace hF := hF.sub _ (c_ 6 rfl (c_ 4 rfl (c_ 5 rfl (n_))))
    exact ⟨hS, hF.sub _ (c_ 4 rfl ( c_ 5 rfl ( c_ 6 rfl (n_))))⟩
   ·
    skip
    clear hF
    intro l2 k x v A a hlp hxk hJA hSA he hF
    replace hby := hby.st (by decide) hSA
    replace hbi := hbi.st hSA
    obtain ⟨pv, cv, rfl⟩ := Row.sl he
    obtain ⟨KA, hKe⟩ : ∃ K, K = A.heap.size := ⟨_, rfl⟩
    have he : Row FDx B KA A (.slice pv (zints (casts x)).length cv) (zints (casts x)) := by rw [hKe]; exact he
    have hKA : KA ≤ A.heap.size := by omega
    have hgl := heap_lt hbi.blk
    rw [zints_length, casts_length] at he hF
    have hSW := hS.trans hSA
    have hl1 := (ch_mem.1 (List.mem_of_getElem? hxk)).1
    have hcl : (zints (casts x)).length = m := by rw [zints_length, casts_length, hl1]
    replace hS := St.refl hSA.inv
    refine Rd.W_block ?_
    refine Rd.W_sdI (m := 7) rfl hmix hS.inv (fun K hK w1 hS' hh => ?_)
    replace hby := hby.st (by decide) hS'
    replace hbi := hbi.st hS'
    replace he := he.st hS'
    replace hKA := Nat.le_trans hKA hS'.ext.size
    replace hS := hS.trans hS'
    clear hS'
    clear hh
    refine ai_3 (i := 0) (j := 1) (l := 3) (by kernel_rfl) rfl rfl rfl ?_ ?_ ?_
    ·
     skip
     refine svI hF rfl (v_load sc117 rfl (hby.at 0 rfl)) rfl ?_; clear hF a; intro a hF
     refine wli_nil ?_
     refine ai_2 (i := 1) (j := 3) (by kernel_rfl) rfl rfl ?_ ?_
     ·
      skip
      refine svI hF rfl (v_load sc3 rfl (hbi.blk.at 0 rfl)) rfl ?_; clear hF a; intro a hF
      refine wli_nil ?_
      refine ai_2 (i := 2) (j := 3) (by kernel_rfl) rfl rfl ?_ ?_
      ·
       skip
       have hKA1 := hKA
       refine WLI_of rfl ?_
       refine s_bs (D := FDx) (B := B) hF sl53 rfl rfl (by decide) (by simp [Value.cells]) (by decide) hS.inv rfl ?_; clear hF a; intro w' a hm hI' hL hF
       replace hby := hby.mb hm (by simp)
       replace hbi := hbi.mb hm (by simp)
       replace he := he.mb hm (fun _ h => by cases h)
       replace hKA := Nat.le_trans hKA hm.size
       replace hS := hS.mb0 hm
       clear hm hI'
       replace hL := hL.le hKA1
       clear hKA1
       refine WL_nil ?_
       refine ai_1 (i := 3) (by kernel_rfl) rfl ?_
       refine svI hF rfl (v_move rfl) rfl ?_; clear hF a; intro a hF
       refine wli_nil ?_
       refine ai_1 (i := 4) (by kernel_rfl) rfl ?_
       refine WLI_of rfl ?_
       refine s_app (D := FDx) (B := B) hF rfl sl53 rfl rfl hL (he) (zints_one _) (by simp only [List.length_cons, List.length_nil, hcl]; omega) (by simp only [List.length_cons, List.length_nil, hcl, maxLen]; omega) (hKA) (by decide) hS.inv rfl ?_; clear hF a; intro v' b' w' a ho' hm hI' hb' hF
       replace hby := hby.mb hm (Blk.ne_own hby hL (by decide))
       replace hbi := hbi.mb hm ((fun e => by have := (hL.lt _ e).1; omega))
       replace he := he.mb hm (fun k h => Nat.le_trans (Nat.le_refl _) (hL.lt k h).1)
       replace hKA := Nat.le_trans hKA hm.size
       replace hS := hS.mb hm (fun k h => Nat.le_trans (by omega) (hL.lt k h).1)
       replace hL := ho'
       clear hm hI' ho'
       refine WL_nil ?_
       refine ai_1 (i := 5) (by kernel_rfl) rfl ?_
       refine syI hF rfl rfl rfl ((hy ((chP to m fr i).length + k) ((fr + i) :: x) _ _ (chP_at hlt hxk) (hJ _ _ _ hJA hS.xt) (hSW.trans hS) ((hL.cast (ys := zints (casts ((fr + i) :: x))) rfl).row (by decide))).mono (fun b w' hb => ?_))
       rcases hb with ⟨rfl, hJ', hz⟩ | ⟨rfl, hX'⟩
       ·
        skip
        clear hF; intro a hF
        replace hS := hS.trans hz
        clear hz
        refine wli_nil ?_
        refine ai_1 (i := 6) (by kernel_rfl) rfl ?_
        refine svI hF rfl (v_not rfl) rfl ?_; clear hF a; intro a hF
        refine wli_nil ?_
        refine ai_done (by kernel_rfl) (hK _ _ ?_)
        clear hK K
        replace hF := hF.sub _ (c_ 32 rfl (n_))
        refine Rd.W_ifF hF rfl ?_
        refine Rd.W_skip ?_
        exact ⟨hJ', hS⟩
       ·
        skip
        clear hF; intro a hF
        obtain ⟨hX1, hO⟩ := hX'
        refine wli_nil ?_
        refine ai_1 (i := 6) (by kernel_rfl) rfl ?_
        refine svI hF rfl (v_not rfl) rfl ?_; clear hF a; intro a hF
        refine wli_nil ?_
        refine ai_done (by kernel_rfl) (hK _ _ ?_)
        clear hK K
        replace hF := hF.sub _ (c_ 32 rfl (n_))
        refine Rd.W_ifT hF rfl ?_
        refine Rd.W_ret ?_
        exact ⟨⟨⟨_, hX1⟩, ((hMk.st hSA).st hS).o hO (Nat.le_refl _)⟩, hS.o.trans (hO.mono hsw)⟩
      ·
       skip
       refine svI hF rfl (v_move rfl) rfl ?_; clear hF a; intro a hF
       refine wli_nil ?_
       refine ai_1 (i := 2) (by kernel_rfl) rfl ?_
       have hKA1 := hKA
       refine WLI_of rfl ?_
       refine s_bs (D := FDx) (B := B) hF sl53 rfl rfl (by decide) (by simp [Value.cells]) (by decide) hS.inv rfl ?_; clear hF a; intro w' a hm hI' hL hF
       replace hby := hby.mb hm (by simp)
       replace hbi := hbi.mb hm (by simp)
       replace he := he.mb hm (fun _ h => by cases h)
       replace hKA := Nat.le_trans hKA hm.size
       replace hS := hS.mb0 hm
       clear hm hI'
       replace hL := hL.le hKA1
       clear hKA1
       refine WL_nil ?_
       refine ai_1 (i := 4) (by kernel_rfl) rfl ?_
       refine WLI_of rfl ?_
       refine s_app (D := FDx) (B := B) hF rfl sl53 rfl rfl hL (he) (zints_one _) (by simp only [List.length_cons, List.length_nil, hcl]; omega) (by simp only [List.length_cons, List.length_nil, hcl, maxLen]; omega) (hKA) (by decide) hS.inv rfl ?_; clear hF a; intro v' b' w' a ho' hm hI' hb' hF
       replace hby := hby.mb hm (Blk.ne_own hby hL (by decide))
       replace hbi := hbi.mb hm ((fun e => by have := (hL.lt _ e).1; omega))
       replace he := he.mb hm (fun k h => Nat.le_trans (Nat.le_refl _) (hL.lt k h).1)
       replace hKA := Nat.le_trans hKA hm.size
       replace hS := hS.mb hm (fun k h => Nat.le_trans (by omega) (hL.lt k h).1)
       replace hL := ho'
       clear hm hI' ho'
       refine WL_nil ?_
       refine ai_1 (i := 5) (by kernel_rfl) rfl ?_
       refine syI hF rfl rfl rfl ((hy ((chP to m fr i).length + k) ((fr + i) :: x) _ _ (chP_at hlt hxk) (hJ _ _ _ hJA hS.xt) (hSW.trans hS) ((hL.cast (ys := zints (casts ((fr + i) :: x))) rfl).row (by decide))).mono (fun b w' hb => ?_))
       rcases hb with ⟨rfl, hJ', hz⟩ | ⟨rfl, hX'⟩
       ·
        skip
        clear hF; intro a hF
        replace hS := hS.trans hz
        clear hz
        refine wli_nil ?_
        refine ai_1 (i := 6) (by kernel_rfl) rfl ?_
        refine svI hF rfl (v_not rfl) rfl ?_; clear hF a; intro a hF
        refine wli_nil ?_
        refine ai_done (by kernel_rfl) (hK _ _ ?_)
        clear hK K
        replace hF := hF.sub _ (c_ 32 rfl (n_))
        refine Rd.W_ifF hF rfl ?_
        refine Rd.W_skip ?_
        exact ⟨hJ', hS⟩
       ·
        skip
        clear hF; intro a hF
        obtain ⟨hX1, hO⟩ := hX'
        refine wli_nil ?_
        refine ai_1 (i := 6) (by kernel_rfl) rfl ?_
        refine svI hF rfl (v_not rfl) rfl ?_; clear hF a; intro a hF
        refine wli_nil ?_
        refine ai_done (by kernel_rfl) (hK _ _ ?_)
        clear hK K
        replace hF := hF.sub _ (c_ 32 rfl (n_))
        refine Rd.W_ifT hF rfl ?_
        refine Rd.W_ret ?_
        exact ⟨⟨⟨_, hX1⟩, ((hMk.st hSA).st hS).o hO (Nat.le_refl _)⟩, hS.o.trans (hO.mono hsw)⟩
     ·
      skip
      refine svI hF rfl (v_move rfl) rfl ?_; clear hF a; intro a hF
      refine wli_nil ?_
      refine ai_1 (i := 1) (by kernel_rfl) rfl ?_
      refine svI hF rfl (v_load sc3 rfl (hbi.blk.at 0 rfl)) rfl ?_; clear hF a; intro a hF
      refine wli_nil ?_
      refine ai_1 (i := 2) (by kernel_rfl) rfl ?_
      have hKA1 := hKA
      refine WLI_of rfl ?_
      refine s_bs (D := FDx) (B := B) hF sl53 rfl rfl (by decide) (by simp [Value.cells]) (by decide) hS.inv rfl ?_; clear hF a; intro w' a hm hI' hL hF
      replace hby := hby.mb hm (by simp)
      replace hbi := hbi.mb hm (by simp)
      replace he := he.mb hm (fun _ h => by cases h)
      replace hKA := Nat.le_trans hKA hm.size
      replace hS := hS.mb0 hm
      clear hm hI'
      replace hL := hL.le hKA1
      clear hKA1
      refine WL_nil ?_
      refine ai_1 (i := 4) (by kernel_rfl) rfl ?_
      refine WLI_of rfl ?_
      refine s_app (D := FDx) (B := B) hF rfl sl53 rfl rfl hL (he) (zints_one _) (by simp only [List.length_cons, List.length_nil, hcl]; omega) (by simp only [List.length_cons, List.length_nil, hcl, maxLen]; omega) (hKA) (by decide) hS.inv rfl ?_; clear hF a; intro v' b' w' a ho' hm hI' hb' hF
      replace hby := hby.mb hm (Blk.ne_own hby hL (by decide))
      replace hbi := hbi.mb hm ((fun e => by have := (hL.lt _ e).1; omega))
      replace he := he.mb hm (fun k h => Nat.le_trans (Nat.le_refl _) (hL.lt k h).1)
      replace hKA := Nat.le_trans hKA hm.size
      replace hS := hS.mb hm (fun k h => Nat.le_trans (by omega) (hL.lt k h).1)
      replace hL := ho'
      clear hm hI' ho'
      refine WL_nil ?_
      refine ai_1 (i := 5) (by kernel_rfl) rfl ?_
      refine syI hF rfl rfl rfl ((hy ((chP to m fr i).length + k) ((fr + i) :: x) _ _ (chP_at hlt hxk) (hJ _ _ _ hJA hS.xt) (hSW.trans hS) ((hL.cast (ys := zints (casts ((fr + i) :: x))) rfl).row (by decide))).mono (fun b w' hb => ?_))
      rcases hb with ⟨rfl, hJ', hz⟩ | ⟨rfl, hX'⟩
      ·
       skip
       clear hF; intro a hF
       replace hS := hS.trans hz
       clear hz
       refine wli_nil ?_
       refine ai_1 (i := 6) (by kernel_rfl) rfl ?_
       refine svI hF rfl (v_not rfl) rfl ?_; clear hF a; intro a hF
       refine wli_nil ?_
       refine ai_done (by kernel_rfl) (hK _ _ ?_)
       clear hK K
       replace hF := hF.sub _ (c_ 32 rfl (n_))
       refine Rd.W_ifF hF rfl ?_
       refine Rd.W_skip ?_
       exact ⟨hJ', hS⟩
      ·
       skip
       clear hF; intro a hF
       obtain ⟨hX1, hO⟩ := hX'
       refine wli_nil ?_
       refine ai_1 (i := 6) (by kernel_rfl) rfl ?_
       refine svI hF rfl (v_not rfl) rfl ?_; clear hF a; intro a hF
       refine wli_nil ?_
       refine ai_done (by kernel_rfl) (hK _ _ ?_)
       clear hK K
       replace hF := hF.sub _ (c_ 32 rfl (n_))
       refine Rd.W_ifT hF rfl ?_
       refine Rd.W_ret ?_
       exact ⟨⟨⟨_, hX1⟩, ((hMk.st hSA).st hS).o hO (Nat.le_refl _)⟩, hS.o.trans (hO.mono hsw)⟩
    ·
     skip
     refine svI hF rfl (v_load sc3 rfl (hbi.blk.at 0 rfl)) rfl ?_; clear hF a; intro a hF
     refine wli_nil ?_
     refine ai_3 (i := 0) (j := 2) (l := 3) (by kernel_rfl) rfl rfl rfl ?_ ?_ ?_
     ·
      skip
      refine svI hF rfl (v_load sc117 rfl (hby.at 0 rfl)) rfl ?_; clear hF a; intro a hF
      refine wli_nil ?_
      refine ai_2 (i := 2) (j := 3) (by kernel_rfl) rfl rfl ?_ ?_
      ·
       skip
       have hKA1 := hKA
       refine WLI_of rfl ?_
       refine s_bs (D := FDx) (B := B) hF sl53 rfl rfl (by decide) (by simp [Value.cells]) (by decide) hS.inv rfl ?_; clear hF a; intro w' a hm hI' hL hF
       replace hby := hby.mb hm (by simp)
       replace hbi := hbi.mb hm (by simp)
       replace he := he.mb hm (fun _ h => by cases h)
       replace hKA := Nat.le_trans hKA hm.size
       replace hS := hS.mb0 hm
       clear hm hI'
       replace hL := hL.le hKA1
       clear hKA1
       refine WL_nil ?_
       refine ai_1 (i := 3) (by kernel_rfl) rfl ?_
       refine svI hF rfl (v_move rfl) rfl ?_; clear hF a; intro a hF
       refine wli_nil ?_
       refine ai_1 (i := 4) (by kernel_rfl) rfl ?_
       refine WLI_of rfl ?_
       refine s_app (D := FDx) (B := B) hF rfl sl53 rfl rfl hL (he) (zints_one _) (by simp only [List.length_cons, List.length_nil, hcl]; omega) (by simp only [List.length_cons, List.length_nil, hcl, maxLen]; omega) (hKA) (by decide) hS.inv rfl ?_; clear hF a; intro v' b' w' a ho' hm hI' hb' hF
       replace hby := hby.mb hm (Blk.ne_own hby hL (by decide))
       replace hbi := hbi.mb hm ((fun e => by have := (hL.lt _ e).1; omega))
       replace he := he.mb hm (fun k h => Nat.le_trans (Nat.le_refl _) (hL.lt k h).1)
       replace hKA := Nat.le_trans hKA hm.size
       replace hS := hS.mb hm (fun k h => Nat.le_trans (by omega) (hL.lt k h).1)
       replace hL := ho'
       clear hm hI' ho'
       refine WL_nil ?_
       refine ai_1 (i := 5) (by kernel_rfl) rfl ?_
       refine syI hF rfl rfl rfl ((hy ((chP to m fr i).length + k) ((fr + i) :: x) _ _ (chP_at hlt hxk) (hJ _ _ _ hJA hS.xt) (hSW.trans hS) ((hL.cast (ys := zints (casts ((fr + i) :: x))) rfl).row (by decide))).mono (fun b w' hb => ?_))
       rcases hb with ⟨rfl, hJ', hz⟩ | ⟨rfl, hX'⟩
       ·
        skip
        clear hF; intro a hF
        replace hS := hS.trans hz
        clear hz
        refine wli_nil ?_
        refine ai_1 (i := 6) (by kernel_rfl) rfl ?_
        refine svI hF rfl (v_not rfl) rfl ?_; clear hF a; intro a hF
        refine wli_nil ?_
        refine ai_done (by kernel_rfl) (hK _ _ ?_)
        clear hK K
        replace hF := hF.sub _ (c_ 32 rfl (n_))
        refine Rd.W_ifF hF rfl ?_
        refine Rd.W_skip ?_
        exact ⟨hJ', hS⟩
       ·
        skip
        clear hF; intro a hF
        obtain ⟨hX1, hO⟩ := hX'
        refine wli_nil ?_
        refine ai_1 (i := 6) (by kernel_rfl) rfl ?_
        refine svI hF rfl (v_not rfl) rfl ?_; clear hF a; intro a hF
        refine wli_nil ?_
        refine ai_done (by kernel_rfl) (hK _ _ ?_)
        clear hK K
        replace hF := hF.sub _ (c_ 32 rfl (n_))
        refine Rd.W_ifT hF rfl ?_
        refine Rd.W_ret ?_
        exact ⟨⟨⟨_, hX1⟩, ((hMk.st hSA).st hS).o hO (Nat.le_refl _)⟩, hS.o.trans (hO.mono hsw)⟩
      ·
       skip
       refine svI hF rfl (v_move rfl) rfl ?_; clear hF a; intro a hF
       refine wli_nil ?_
       refine ai_1 (i := 2) (by kernel_rfl) rfl ?_
       have hKA1 := hKA
       refine WLI_of rfl ?_
       refine s_bs (D := FDx) (B := B) hF sl53 rfl rfl (by decide) (by simp [Value.cells]) (by decide) hS.inv rfl ?_; clear hF a; intro w' a hm hI' hL hF
       replace hby := hby.mb hm (by simp)
       replace hbi := hbi.mb hm (by simp)
       replace he := he.mb hm (fun _ h => by cases h)
       replace hKA := Nat.le_trans hKA hm.size
       replace hS := hS.mb0 hm
       clear hm hI'
       replace hL := hL.le hKA1
       clear hKA1
       refine WL_nil ?_
       refine ai_1 (i := 4) (by kernel_rfl) rfl ?_
       refine WLI_of rfl ?_
       refine s_app (D := FDx) (B := B) hF rfl sl53 rfl rfl hL (he) (zints_one _) (by simp only [List.length_cons, List.length_nil, hcl]; omega) (by simp only [List.length_cons, List.length_nil, hcl, maxLen]; omega) (hKA) (by decide) hS.inv rfl ?_; clear hF a; intro v' b' w' a ho' hm hI' hb' hF
       replace hby := hby.mb hm (Blk.ne_own hby hL (by decide))
       replace hbi := hbi.mb hm ((fun e => by have := (hL.lt _ e).1; omega))
       replace he := he.mb hm (fun k h => Nat.le_trans (Nat.le_refl _) (hL.lt k h).1)
       replace hKA := Nat.le_trans hKA hm.size
       replace hS := hS.mb hm (fun k h => Nat.le_trans (by omega) (hL.lt k h).1)
       replace hL := ho'
       clear hm hI' ho'
       refine WL_nil ?_
       refine ai_1 (i := 5) (by kernel_rfl) rfl ?_
       refine syI hF rfl rfl rfl ((hy ((chP to m fr i).length + k) ((fr + i) :: x) _ _ (chP_at hlt hxk) (hJ _ _ _ hJA hS.xt) (hSW.trans hS) ((hL.cast (ys := zints (casts ((fr + i) :: x))) rfl).row (by decide))).mono (fun b w' hb => ?_))
       rcases hb with ⟨rfl, hJ', hz⟩ | ⟨rfl, hX'⟩
       ·
        skip
        clear hF; intro a hF
        replace hS := hS.trans hz
        clear hz
        refine wli_nil ?_
        refine ai_1 (i := 6) (by kernel_rfl) rfl ?_
        refine svI hF rfl (v_not rfl) rfl ?_; clear hF a; intro a hF
        refine wli_nil ?_
        refine ai_done (by kernel_rfl) (hK _ _ ?_)
        clear hK K
        replace hF := hF.sub _ (c_ 32 rfl (n_))
        refine Rd.W_ifF hF rfl ?_
        refine Rd.W_skip ?_
        exact ⟨hJ', hS⟩
       ·
        skip
        clear hF; intro a hF
        obtain ⟨hX1, hO⟩ := hX'
        refine wli_nil ?_
        refine ai_1 (i := 6) (by kernel_rfl) rfl ?_
        refine svI hF rfl (v_not rfl) rfl ?_; clear hF a; intro a hF
        refine wli_nil ?_
        refine ai_done (by kernel_rfl) (hK _ _ ?_)
        clear hK K
        replace hF := hF.sub _ (c_ 32 rfl (n_))
        refine Rd.W_ifT hF rfl ?_
        refine Rd.W_ret ?_
        exact ⟨⟨⟨_, hX1⟩, ((hMk.st hSA).st hS).o hO (Nat.le_refl _)⟩, hS.o.trans (hO.mono hsw)⟩
     ·
      skip
      have hKA1 := hKA
      refine WLI_of rfl ?_
      refine s_bs (D := FDx) (B := B) hF sl53 rfl rfl (by decide) (by simp [Value.cells]) (by decide) hS.inv rfl ?_; clear hF a; intro w' a hm hI' hL hF
      replace hby := hby.mb hm (by simp)
      replace hbi := hbi.mb hm (by simp)
      replace he := he.mb hm (fun _ h => by cases h)
      replace hKA := Nat.le_trans hKA hm.size
      replace hS := hS.mb0 hm
      clear hm hI'
      replace hL := hL.le hKA1
      clear hKA1
      refine WL_nil ?_
      refine ai_2 (i := 0) (j := 3) (by kernel_rfl) rfl rfl ?_ ?_
      ·
       skip
       refine svI hF rfl (v_load sc117 rfl (hby.at 0 rfl)) rfl ?_; clear hF a; intro a hF
       refine wli_nil ?_
       refine ai_1 (i := 3) (by kernel_rfl) rfl ?_
       refine svI hF rfl (v_move rfl) rfl ?_; clear hF a; intro a hF
       refine wli_nil ?_
       refine ai_1 (i := 4) (by kernel_rfl) rfl ?_
       refine WLI_of rfl ?_
       refine s_app (D := FDx) (B := B) hF rfl sl53 rfl rfl hL (he) (zints_one _) (by simp only [List.length_cons, List.length_nil, hcl]; omega) (by simp only [List.length_cons, List.length_nil, hcl, maxLen]; omega) (hKA) (by decide) hS.inv rfl ?_; clear hF a; intro v' b' w' a ho' hm hI' hb' hF
       replace hby := hby.mb hm (Blk.ne_own hby hL (by decide))
       replace hbi := hbi.mb hm ((fun e => by have := (hL.lt _ e).1; omega))
       replace he := he.mb hm (fun k h => Nat.le_trans (Nat.le_refl _) (hL.lt k h).1)
       replace hKA := Nat.le_trans hKA hm.size
       replace hS := hS.mb hm (fun k h => Nat.le_trans (by omega) (hL.lt k h).1)
       replace hL := ho'
       clear hm hI' ho'
       refine WL_nil ?_
       refine ai_1 (i := 5) (by kernel_rfl) rfl ?_
       refine syI hF rfl rfl rfl ((hy ((chP to m fr i).length + k) ((fr + i) :: x) _ _ (chP_at hlt hxk) (hJ _ _ _ hJA hS.xt) (hSW.trans hS) ((hL.cast (ys := zints (casts ((fr + i) :: x))) rfl).row (by decide))).mono (fun b w' hb => ?_))
       rcases hb with ⟨rfl, hJ', hz⟩ | ⟨rfl, hX'⟩
       ·
        skip
        clear hF; intro a hF
        replace hS := hS.trans hz
        clear hz
        refine wli_nil ?_
        refine ai_1 (i := 6) (by kernel_rfl) rfl ?_
        refine svI hF rfl (v_not rfl) rfl ?_; clear hF a; intro a hF
        refine wli_nil ?_
        refine ai_done (by kernel_rfl) (hK _ _ ?_)
        clear hK K
        replace hF := hF.sub _ (c_ 32 rfl (n_))
        refine Rd.W_ifF hF rfl ?_
        refine Rd.W_skip ?_
        exact ⟨hJ', hS⟩
       ·
        skip
        clear hF; intro a hF
        obtain ⟨hX1, hO⟩ := hX'
        refine wli_nil ?_
        refine ai_1 (i := 6) (by kernel_rfl) rfl ?_
        refine svI hF rfl (v_not rfl) rfl ?_; clear hF a; intro a hF
        refine wli_nil ?_
        refine ai_done (by kernel_rfl) (hK _ _ ?_)
        clear hK K
        replace hF := hF.sub _ (c_ 32 rfl (n_))
        refine Rd.W_ifT hF rfl ?_
        refine Rd.W_ret ?_
        exact ⟨⟨⟨_, hX1⟩, ((hMk.st hSA).st hS).o hO (Nat.le_refl _)⟩, hS.o.trans (hO.mono hsw)⟩
      ·
       skip
       refine svI hF rfl (v_move rfl) rfl ?_; clear hF a; intro a hF
       refine wli_nil ?_
       refine ai_2 (i := 0) (j := 4) (by kernel_rfl) rfl rfl ?_ ?_
       ·
        skip
        refine svI hF rfl (v_load sc117 rfl (hby.at 0 rfl)) rfl ?_; clear hF a; intro a hF
        refine wli_nil ?_
        refine ai_1 (i := 4) (by kernel_rfl) rfl ?_
        refine WLI_of rfl ?_
        refine s_app (D := FDx) (B := B) hF rfl sl53 rfl rfl hL (he) (zints_one _) (by simp only [List.length_cons, List.length_nil, hcl]; omega) (by simp only [List.length_cons, List.length_nil, hcl, maxLen]; omega) (hKA) (by decide) hS.inv rfl ?_; clear hF a; intro v' b' w' a ho' hm hI' hb' hF
        replace hby := hby.mb hm (Blk.ne_own hby hL (by decide))
        replace hbi := hbi.mb hm ((fun e => by have := (hL.lt _ e).1; omega))
        replace he := he.mb hm (fun k h => Nat.le_trans (Nat.le_refl _) (hL.lt k h).1)
        replace hKA := Nat.le_trans hKA hm.size
        replace hS := hS.mb hm (fun k h => Nat.le_trans (by omega) (hL.lt k h).1)
        replace hL := ho'
        clear hm hI' ho'
        refine WL_nil ?_
        refine ai_1 (i := 5) (by kernel_rfl) rfl ?_
        refine syI hF rfl rfl rfl ((hy ((chP to m fr i).length + k) ((fr + i) :: x) _ _ (chP_at hlt hxk) (hJ _ _ _ hJA hS.xt) (hSW.trans hS) ((hL.cast (ys := zints (casts ((fr + i) :: x))) rfl).row (by decide))).mono (fun b w' hb => ?_))
        rcases hb with ⟨rfl, hJ', hz⟩ | ⟨rfl, hX'⟩
        ·
         skip
         clear hF; intro a hF
         replace hS := hS.trans hz
         clear hz
         refine wli_nil ?_
         refine ai_1 (i := 6) (by kernel_rfl) rfl ?_
         refine svI hF rfl (v_not rfl) rfl ?_; clear hF a; intro a hF
         refine wli_nil ?_
         refine ai_done (by kernel_rfl) (hK _ _ ?_)
         clear hK K
         replace hF := hF.sub _ (c_ 32 rfl (n_))
         refine Rd.W_ifF hF rfl ?_
         refine Rd.W_skip ?_
         exact ⟨hJ', hS⟩
        ·
         skip
         clear hF; intro a hF
         obtain ⟨hX1, hO⟩ := hX'
         refine wli_nil ?_
         refine ai_1 (i := 6) (by kernel_rfl) rfl ?_
         refine svI hF rfl (v_not rfl) rfl ?_; clear hF a; intro a hF
         refine wli_nil ?_
         refine ai_done (by kernel_rfl) (hK _ _ ?_)
         clear hK K
         replace hF := hF.sub _ (c_ 32 rfl (n_))
         refine Rd.W_ifT hF rfl ?_
         refine Rd.W_ret ?_
         exact ⟨⟨⟨_, hX1⟩, ((hMk.st hSA).st hS).o hO (Nat.le_refl _)⟩, hS.o.trans (hO.mono hsw)⟩
       ·
        skip
        refine WLI_of rfl ?_
        refine s_app (D := FDx) (B := B) hF rfl sl53 rfl rfl hL (he) (zints_one _) (by simp only [List.length_cons, List.length_nil, hcl]; omega) (by simp only [List.length_cons, List.length_nil, hcl, maxLen]; omega) (hKA) (by decide) hS.inv rfl ?_; clear hF a; intro v' b' w' a ho' hm hI' hb' hF
        replace hby := hby.mb hm (Blk.ne_own hby hL (by decide))
        replace hbi := hbi.mb hm ((fun e => by have := (hL.lt _ e).1; omega))
        replace he := he.mb hm (fun k h => Nat.le_trans (Nat.le_refl _) (hL.lt k h).1)
        replace hKA := Nat.le_trans hKA hm.size
        replace hS := hS.mb hm (fun k h => Nat.le_trans (by omega) (hL.lt k h).1)
        replace hL := ho'
        clear hm hI' ho'
        refine WL_nil ?_
        refine ai_1 (i := 0) (by kernel_rfl) rfl ?_
        refine svI hF rfl (v_load sc117 rfl (hby.at 0 rfl)) rfl ?_; clear hF a; intro a hF
        refine wli_nil ?_
        refine ai_1 (i := 5) (by kernel_rfl) rfl ?_
        refine syI hF rfl rfl rfl ((hy ((chP to m fr i).length + k) ((fr + i) :: x) _ _ (chP_at hlt hxk) (hJ _ _ _ hJA hS.xt) (hSW.trans hS) ((hL.cast (ys := zints (casts ((fr + i) :: x))) rfl).row (by decide))).mono (fun b w' hb => ?_))
        rcases hb with ⟨rfl, hJ', hz⟩ | ⟨rfl, hX'⟩
        ·
         skip
         clear hF; intro a hF
         replace hS := hS.trans hz
         clear hz
         refine wli_nil ?_
         refine ai_1 (i := 6) (by kernel_rfl) rfl ?_
         refine svI hF rfl (v_not rfl) rfl ?_; clear hF a; intro a hF
         refine wli_nil ?_
         refine ai_done (by kernel_rfl) (hK _ _ ?_)
         clear hK K
         replace hF := hF.sub _ (c_ 32 rfl (n_))
         refine Rd.W_ifF hF rfl ?_
         refine Rd.W_skip ?_
         exact ⟨hJ', hS⟩
        ·
         skip
         clear hF; intro a hF
         obtain ⟨hX1, hO⟩ := hX'
         refine wli_nil ?_
         refine ai_1 (i := 6) (by kernel_rfl) rfl ?_
         refine svI hF rfl (v_not rfl) rfl ?_; clear hF a; intro a hF
         refine wli_nil ?_
         refine ai_done (by kernel_rfl) (hK _ _ ?_)
         clear hK K
         replace hF := hF.sub _ (c_ 32 rfl (n_))
         refine Rd.W_ifT hF rfl ?_
         refine Rd.W_ret ?_
         exact ⟨⟨⟨_, hX1⟩, ((hMk.st hSA).st hS).o hO (Nat.le_refl _)⟩, hS.o.trans (hO.mono hsw)⟩
     ·
      skip
      refine svI hF rfl (v_move rfl) rfl ?_; clear hF a; intro a hF
      refine wli_nil ?_
      refine ai_2 (i := 0) (j := 2) (by kernel_rfl) rfl rfl ?_ ?_
      ·
       skip
       refine svI hF rfl (v_load sc117 rfl (hby.at 0 rfl)) rfl ?_; clear hF a; intro a hF
       refine wli_nil ?_
       refine ai_1 (i := 2) (by kernel_rfl) rfl ?_
       have hKA1 := hKA
       refine WLI_of rfl ?_
       refine s_bs (D := FDx) (B := B) hF sl53 rfl rfl (by decide) (by simp [Value.cells]) (by decide) hS.inv rfl ?_; clear hF a; intro w' a hm hI' hL hF
       replace hby := hby.mb hm (by simp)
       replace hbi := hbi.mb hm (by simp)
       replace he := he.mb hm (fun _ h => by cases h)
       replace hKA := Nat.le_trans hKA hm.size
       replace hS := hS.mb0 hm
       clear hm hI'
       replace hL := hL.le hKA1
       clear hKA1
       refine WL_nil ?_
       refine ai_1 (i := 4) (by kernel_rfl) rfl ?_
       refine WLI_of rfl ?_
       refine s_app (D := FDx) (B := B) hF rfl sl53 rfl rfl hL (he) (zints_one _) (by simp only [List.length_cons, List.length_nil, hcl]; omega) (by simp only [List.length_cons, List.length_nil, hcl, maxLen]; omega) (hKA) (by decide) hS.inv rfl ?_; clear hF a; intro v' b' w' a ho' hm hI' hb' hF
       replace hby := hby.mb hm (Blk.ne_own hby hL (by decide))
       replace hbi := hbi.mb hm ((fun e => by have := (hL.lt _ e).1; omega))
       replace he := he.mb hm (fun k h => Nat.le_trans (Nat.le_refl _) (hL.lt k h).1)
       replace hKA := Nat.le_trans hKA hm.size
       replace hS := hS.mb hm (fun k h => Nat.le_trans (by omega) (hL.lt k h).1)
       replace hL := ho'
       clear hm hI' ho'
       refine WL_nil ?_
       refine ai_1 (i := 5) (by kernel_rfl) rfl ?_
       refine syI hF rfl rfl rfl ((hy ((chP to m fr i).length + k) ((fr + i) :: x) _ _ (chP_at hlt hxk) (hJ _ _ _ hJA hS.xt) (hSW.trans hS) ((hL.cast (ys := zints (casts ((fr + i) :: x))) rfl).row (by decide))).mono (fun b w' hb => ?_))
       rcases hb with ⟨rfl, hJ', hz⟩ | ⟨rfl, hX'⟩
       ·
        skip
        clear hF; intro a hF
        replace hS := hS.trans hz
        clear hz
        refine wli_nil ?_
        refine ai_1 (i := 6) (by kernel_rfl) rfl ?_
        refine svI hF rfl (v_not rfl) rfl ?_; clear hF a; intro a hF
        refine wli_nil ?_
        refine ai_done (by kernel_rfl) (hK _ _ ?_)
        clear hK K
        replace hF := hF.sub _ (c_ 32 rfl (n_))
        refine Rd.W_ifF hF rfl ?_
        refine Rd.W_skip ?_
        exact ⟨hJ', hS⟩
       ·
        skip
        clear hF; intro a hF
        obtain ⟨hX1, hO⟩ := hX'
        refine wli_nil ?_
        refine ai_1 (i := 6) (by kernel_rfl) rfl ?_
        refine svI hF rfl (v_not rfl) rfl ?_; clear hF a; intro a hF
        refine wli_nil ?_
        refine ai_done (by kernel_rfl) (hK _ _ ?_)
        clear hK K
        replace hF := hF.sub _ (c_ 32 rfl (n_))
        refine Rd.W_ifT hF rfl ?_
        refine Rd.W_ret ?_
        exact ⟨⟨⟨_, hX1⟩, ((hMk.st hSA).st hS).o hO (Nat.le_refl _)⟩, hS.o.trans (hO.mono hsw)⟩
      ·
       skip
       have hKA1 := hKA
       refine WLI_of rfl ?_
       refine s_bs (D := FDx) (B := B) hF sl53 rfl rfl (by decide) (by simp [Value.cells]) (by decide) hS.inv rfl ?_; clear hF a; intro w' a hm hI' hL hF
       replace hby := hby.mb hm (by simp)
       replace hbi := hbi.mb hm (by simp)
       replace he := he.mb hm (fun _ h => by cases h)
       replace hKA := Nat.le_trans hKA hm.size
       replace hS := hS.mb0 hm
       clear hm hI'
       replace hL := hL.le hKA1
       clear hKA1
       refine WL_nil ?_
       refine ai_2 (i := 0) (j := 4) (by kernel_rfl) rfl rfl ?_ ?_
       ·
        skip
        refine svI hF rfl (v_load sc117 rfl (hby.at 0 rfl)) rfl ?_; clear hF a; intro a hF
        refine wli_nil ?_
        refine ai_1 (i := 4) (by kernel_rfl) rfl ?_
        refine WLI_of rfl ?_
        refine s_app (D := FDx) (B := B) hF rfl sl53 rfl rfl hL (he) (zints_one _) (by simp only [List.length_cons, List.length_nil, hcl]; omega) (by simp only [List.length_cons, List.length_nil, hcl, maxLen]; omega) (hKA) (by decide) hS.inv rfl ?_; clear hF a; intro v' b' w' a ho' hm hI' hb' hF
        replace hby := hby.mb hm (Blk.ne_own hby hL (by decide))
        replace hbi := hbi.mb hm ((fun e => by have := (hL.lt _ e).1; omega))
        replace he := he.mb hm (fun k h => Nat.le_trans (Nat.le_refl _) (hL.lt k h).1)
        replace hKA := Nat.le_trans hKA hm.size
        replace hS := hS.mb hm (fun k h => Nat.le_trans (by omega) (hL.lt k h).1)
        replace hL := ho'
        clear hm hI' ho'
        refine WL_nil ?_
        refine ai_1 (i := 5) (by kernel_rfl) rfl ?_
        refine syI hF rfl rfl rfl ((hy ((chP to m fr i).length + k) ((fr + i) :: x) _ _ (chP_at hlt hxk) (hJ _ _ _ hJA hS.xt) (hSW.trans hS) ((hL.cast (ys := zints (casts ((fr + i) :: x))) rfl).row (by decide))).mono (fun b w' hb => ?_))
        rcases hb with ⟨rfl, hJ', hz⟩ | ⟨rfl, hX'⟩
        ·
         skip
         clear hF; intro a hF
         replace hS := hS.trans hz
         clear hz
         refine wli_nil ?_
         refine ai_1 (i := 6) (by kernel_rfl) rfl ?_
         refine svI hF rfl (v_not rfl) rfl ?_; clear hF a; intro a hF
         refine wli_nil ?_
         refine ai_done (by kernel_rfl) (hK _ _ ?_)
         clear hK K
         replace hF := hF.sub _ (c_ 32 rfl (n_))
         refine Rd.W_ifF hF rfl ?_
         refine Rd.W_skip ?_
         exact ⟨hJ', hS⟩
        ·
         skip
         clear hF; intro a hF
         obtain ⟨hX1, hO⟩ := hX'
         refine wli_nil ?_
         refine ai_1 (i := 6) (by kernel_rfl) rfl ?_
         refine svI hF rfl (v_not rfl) rfl ?_; clear hF a; intro a hF
         refine wli_nil ?_
         refine ai_done (by kernel_rfl) (hK _ _ ?_)
         clear hK K
         replace hF := hF.sub _ (c_ 32 rfl (n_))
         refine Rd.W_ifT hF rfl ?_
         refine Rd.W_ret ?_
         exact ⟨⟨⟨_, hX1⟩, ((hMk.st hSA).st hS).o hO (Nat.le_refl _)⟩, hS.o.trans (hO.mono hsw)⟩
       ·
        skip
        refine WLI_of rfl ?_
        refine s_app (D := FDx) (B := B) hF rfl sl53 rfl rfl hL (he) (zints_one _) (by simp only [List.length_cons, List.length_nil, hcl]; omega) (by simp only [List.length_cons, List.length_nil, hcl, maxLen]; omega) (hKA) (by decide) hS.inv rfl ?_; clear hF a; intro v' b' w' a ho' hm hI' hb' hF
        replace hby := hby.mb hm (Blk.ne_own hby hL (by decide))
        replace hbi := hbi.mb hm ((fun e => by have := (hL.lt _ e).1; omega))
        replace he := he.mb hm (fun k h => Nat.le_trans (Nat.le_refl _) (hL.lt k h).1)
        replace hKA := Nat.le_trans hKA hm.size
        replace hS := hS.mb hm (fun k h => Nat.le_trans (by omega) (hL.lt k h).1)
        replace hL := ho'
        clear hm hI' ho'
        refine WL_nil ?_
        refine ai_1 (i := 0) (by kernel_rfl) rfl ?_
        refine svI hF rfl (v_load sc117 rfl (hby.at 0 rfl)) rfl ?_; clear hF a; intro a hF
        refine wli_nil ?_
        refine ai_1 (i := 5) (by kernel_rfl) rfl ?_
        refine syI hF rfl rfl rfl ((hy ((chP to m fr i).length + k) ((fr + i) :: x) _ _ (chP_at hlt hxk) (hJ _ _ _ hJA hS.xt) (hSW.trans hS) ((hL.cast (ys := zints (casts ((fr + i) :: x))) rfl).row (by decide))).mono (fun b w' hb => ?_))
        rcases hb with ⟨rfl, hJ', hz⟩ | ⟨rfl, hX'⟩
        ·
         skip
         clear hF; intro a hF
         replace hS := hS.trans hz
         clear hz
         refine wli_nil ?_
         refine ai_1 (i := 6) (by kernel_rfl) rfl ?_
         refine svI hF rfl (v_not rfl) rfl ?_; clear hF a; intro a hF
         refine wli_nil ?_
         refine ai_done (by kernel_rfl) (hK _ _ ?_)
         clear hK K
         replace hF := hF.sub _ (c_ 32 rfl (n_))
         refine Rd.W_ifF hF rfl ?_
         refine Rd.W_skip ?_
         exact ⟨hJ', hS⟩
        ·
         skip
         clear hF; intro a hF
         obtain ⟨hX1, hO⟩ := hX'
         refine wli_nil ?_
         refine ai_1 (i := 6) (by kernel_rfl) rfl ?_
         refine svI hF rfl (v_not rfl) rfl ?_; clear hF a; intro a hF
         refine wli_nil ?_
         refine ai_done (by kernel_rfl) (hK _ _ ?_)
         clear hK K
         replace hF := hF.sub _ (c_ 32 rfl (n_))
         refine Rd.W_ifT hF rfl ?_
         refine Rd.W_ret ?_
         exact ⟨⟨⟨_, hX1⟩, ((hMk.st hSA).st hS).o hO (Nat.le_refl _)⟩, hS.o.trans (hO.mono hsw)⟩
    ·
     skip
     refine svI hF rfl (v_move rfl) rfl ?_; clear hF a; intro a hF
     refine wli_nil ?_
     refine ai_2 (i := 0) (j := 1) (by kernel_rfl) rfl rfl ?_ ?_
     ·
      skip
      refine svI hF rfl (v_load sc117 rfl (hby.at 0 rfl)) rfl ?_; clear hF a; intro a hF
      refine wli_nil ?_
      refine ai_1 (i := 1) (by kernel_rfl) rfl ?_
      refine svI hF rfl (v_load sc3 rfl (hbi.blk.at 0 rfl)) rfl ?_; clear hF a; intro a hF
      refine wli_nil ?_
      refine ai_1 (i := 2) (by kernel_rfl) rfl ?_
      have hKA1 := hKA
      refine WLI_of rfl ?_
      refine s_bs (D := FDx) (B := B) hF sl53 rfl rfl (by decide) (by simp [Value.cells]) (by decide) hS.inv rfl ?_; clear hF a; intro w' a hm hI' hL hF
      replace hby := hby.mb hm (by simp)
      replace hbi := hbi.mb hm (by simp)
      replace he := he.mb hm (fun _ h => by cases h)
      replace hKA := Nat.le_trans hKA hm.size
      replace hS := hS.mb0 hm
      clear hm hI'
      replace hL := hL.le hKA1
      clear hKA1
      refine WL_nil ?_
      refine ai_1 (i := 4) (by kernel_rfl) rfl ?_
      refine WLI_of rfl ?_
      refine s_app (D := FDx) (B := B) hF rfl sl53 rfl rfl hL (he) (zints_one _) (by simp only [List.length_cons, List.length_nil, hcl]; omega) (by simp only [List.length_cons, List.length_nil, hcl, maxLen]; omega) (hKA) (by decide) hS.inv rfl ?_; clear hF a; intro v' b' w' a ho' hm hI' hb' hF
      replace hby := hby.mb hm (Blk.ne_own hby hL (by decide))
      replace hbi := hbi.mb hm ((fun e => by have := (hL.lt _ e).1; omega))
      replace he := he.mb hm (fun k h => Nat.le_trans (Nat.le_refl _) (hL.lt k h).1)
      replace hKA := Nat.le_trans hKA hm.size
      replace hS := hS.mb hm (fun k h => Nat.le_trans (by omega) (hL.lt k h).1)
      replace hL := ho'
      clear hm hI' ho'
      refine WL_nil ?_
      refine ai_1 (i := 5) (by kernel_rfl) rfl ?_
      refine syI hF rfl rfl rfl ((hy ((chP to m fr i).length + k) ((fr + i) :: x) _ _ (chP_at hlt hxk) (hJ _ _ _ hJA hS.xt) (hSW.trans hS) ((hL.cast (ys := zints (casts ((fr + i) :: x))) rfl).row (by decide))).mono (fun b w' hb => ?_))
      rcases hb with ⟨rfl, hJ', hz⟩ | ⟨rfl, hX'⟩
      ·
       skip
       clear hF; intro a hF
       replace hS := hS.trans hz
       clear hz
       refine wli_nil ?_
       refine ai_1 (i := 6) (by kernel_rfl) rfl ?_
       refine svI hF rfl (v_not rfl) rfl ?_; clear hF a; intro a hF
       refine wli_nil ?_
       refine ai_done (by kernel_rfl) (hK _ _ ?_)
       clear hK K
       replace hF := hF.sub _ (c_ 32 rfl (n_))
       refine Rd.W_ifF hF rfl ?_
       refine Rd.W_skip ?_
       exact ⟨hJ', hS⟩
      ·
       skip
       clear hF; intro a hF
       obtain ⟨hX1, hO⟩ := hX'
       refine wli_nil ?_
       refine ai_1 (i := 6) (by kernel_rfl) rfl ?_
       refine svI hF rfl (v_not rfl) rfl ?_; clear hF a; intro a hF
       refine wli_nil ?_
       refine ai_done (by kernel_rfl) (hK _ _ ?_)
       clear hK K
       replace hF := hF.sub _ (c_ 32 rfl (n_))
       refine Rd.W_ifT hF rfl ?_
       refine Rd.W_ret ?_
       exact ⟨⟨⟨_, hX1⟩, ((hMk.st hSA).st hS).o hO (Nat.le_refl _)⟩, hS.o.trans (hO.mono hsw)⟩
     ·
      skip
      refine svI hF rfl (v_load sc3 rfl (hbi.blk.at 0 rfl)) rfl ?_; clear hF a; intro a hF
      refine wli_nil ?_
      refine ai_2 (i := 0) (j := 2) (by kernel_rfl) rfl rfl ?_ ?_
      ·
       skip
       refine svI hF rfl (v_load sc117 rfl (hby.at 0 rfl)) rfl ?_; clear hF a; intro a hF
       refine wli_nil ?_
       refine ai_1 (i := 2) (by kernel_rfl) rfl ?_
       have hKA1 := hKA
       refine WLI_of rfl ?_
       refine s_bs (D := FDx) (B := B) hF sl53 rfl rfl (by decide) (by simp [Value.cells]) (by decide) hS.inv rfl ?_; clear hF a; intro w' a hm hI' hL hF
       replace hby := hby.mb hm (by simp)
       replace hbi := hbi.mb hm (by simp)
       replace he := he.mb hm (fun _ h => by cases h)
       replace hKA := Nat.le_trans hKA hm.size
       replace hS := hS.mb0 hm
       clear hm hI'
       replace hL := hL.le hKA1
       clear hKA1
       refine WL_nil ?_
       refine ai_1 (i := 4) (by kernel_rfl) rfl ?_
       refine WLI_of rfl ?_
       refine s_app (D := FDx) (B := B) hF rfl sl53 rfl rfl hL (he) (zints_one _) (by simp only [List.length_cons, List.length_nil, hcl]; omega) (by simp only [List.length_cons, List.length_nil, hcl, maxLen]; omega) (hKA) (by decide) hS.inv rfl ?_; clear hF a; intro v' b' w' a ho' hm hI' hb' hF
       replace hby := hby.mb hm (Blk.ne_own hby hL (by decide))
       replace hbi := hbi.mb hm ((fun e => by have := (hL.lt _ e).1; omega))
       replace he := he.mb hm (fun k h => Nat.le_trans (Nat.le_refl _) (hL.lt k h).1)
       replace hKA := Nat.le_trans hKA hm.size
       replace hS := hS.mb hm (fun k h => Nat.le_trans (by omega) (hL.lt k h).1)
       replace hL := ho'
       clear hm hI' ho'
       refine WL_nil ?_
       refine ai_1 (i := 5) (by kernel_rfl) rfl ?_
       refine syI hF rfl rfl rfl ((hy ((chP to m fr i).length + k) ((fr + i) :: x) _ _ (chP_at hlt hxk) (hJ _ _ _ hJA hS.xt) (hSW.trans hS) ((hL.cast (ys := zints (casts ((fr + i) :: x))) rfl).row (by decide))).mono (fun b w' hb => ?_))
       rcases hb with ⟨rfl, hJ', hz⟩ | ⟨rfl, hX'⟩
       ·
        skip
        clear hF; intro a hF
        replace hS := hS.trans hz
        clear hz
        refine wli_nil ?_
        refine ai_1 (i := 6) (by kernel_rfl) rfl ?_
        refine svI hF rfl (v_not rfl) rfl ?_; clear hF a; intro a hF
        refine wli_nil ?_
        refine ai_done (by kernel_rfl) (hK _ _ ?_)
        clear hK K
        replace hF := hF.sub _ (c_ 32 rfl (n_))
        refine Rd.W_ifF hF rfl ?_
        refine Rd.W_skip ?_
        exact ⟨hJ', hS⟩
       ·
        skip
        clear hF; intro a hF
        obtain ⟨hX1, hO⟩ := hX'
        refine wli_nil ?_
        refine ai_1 (i := 6) (by kernel_rfl) rfl ?_
        refine svI hF rfl (v_not rfl) rfl ?_; clear hF a; intro a hF
        refine wli_nil ?_
        refine ai_done (by kernel_rfl) (hK _ _ ?_)
        clear hK K
        replace hF := hF.sub _ (c_ 32 rfl (n_))
        refine Rd.W_ifT hF rfl ?_
        refine Rd.W_ret ?_
        exact ⟨⟨⟨_, hX1⟩, ((hMk.st hSA).st hS).o hO (Nat.le_refl _)⟩, hS.o.trans (hO.mono hsw)⟩
      ·
       skip
       have hKA1 := hKA
       refine WLI_of rfl ?_
       refine s_bs (D := FDx) (B := B) hF sl53 rfl rfl (by decide) (by simp [Value.cells]) (by decide) hS.inv rfl ?_; clear hF a; intro w' a hm hI' hL hF
       replace hby := hby.mb hm (by simp)
       replace hbi := hbi.mb hm (by simp)
       replace he := he.mb hm (fun _ h => by cases h)
       replace hKA := Nat.le_trans hKA hm.size
       replace hS := hS.mb0 hm
       clear hm hI'
       replace hL := hL.le hKA1
       clear hKA1
       refine WL_nil ?_
       refine ai_2 (i := 0) (j := 4) (by kernel_rfl) rfl rfl ?_ ?_
       ·
        skip
        refine svI hF rfl (v_load sc117 rfl (hby.at 0 rfl)) rfl ?_; clear hF a; intro a hF
        refine wli_nil ?_
        refine ai_1 (i := 4) (by kernel_rfl) rfl ?_
        refine WLI_of rfl ?_
        refine s_app (D := FDx) (B := B) hF rfl sl53 rfl rfl hL (he) (zints_one _) (by simp only [List.length_cons, List.length_nil, hcl]; omega) (by simp only [List.length_cons, List.length_nil, hcl, maxLen]; omega) (hKA) (by decide) hS.inv rfl ?_; clear hF a; intro v' b' w' a ho' hm hI' hb' hF
        replace hby := hby.mb hm (Blk.ne_own hby hL (by decide))
        replace hbi := hbi.mb hm ((fun e => by have := (hL.lt _ e).1; omega))
        replace he := he.mb hm (fun k h => Nat.le_trans (Nat.le_refl _) (hL.lt k h).1)
        replace hKA := Nat.le_trans hKA hm.size
        replace hS := hS.mb hm (fun k h => Nat.le_trans (by omega) (hL.lt k h).1)
        replace hL := ho'
        clear hm hI' ho'
        refine WL_nil ?_
        refine ai_1 (i := 5) (by kernel_rfl) rfl ?_
        refine syI hF rfl rfl rfl ((hy ((chP to m fr i).length + k) ((fr + i) :: x) _ _ (chP_at hlt hxk) (hJ _ _ _ hJA hS.xt) (hSW.trans hS) ((hL.cast (ys := zints (casts ((fr + i) :: x))) rfl).row (by decide))).mono (fun b w' hb => ?_))
        rcases hb with ⟨rfl, hJ', hz⟩ | ⟨rfl, hX'⟩
        ·
         skip
         clear hF; intro a hF
         replace hS := hS.trans hz
         clear hz
         refine wli_nil ?_
         refine ai_1 (i := 6) (by kernel_rfl) rfl ?_
         refine svI hF rfl (v_not rfl) rfl ?_; clear hF a; intro a hF
         refine wli_nil ?_
         refine ai_done (by kernel_rfl) (hK _ _ ?_)
         clear hK K
         replace hF := hF.sub _ (c_ 32 rfl (n_))
         refine Rd.W_ifF hF rfl ?_
         refine Rd.W_skip ?_
         exact ⟨hJ', hS⟩
        ·
         skip
         clear hF; intro a hF
         obtain ⟨hX1, hO⟩ := hX'
         refine wli_nil ?_
         refine ai_1 (i := 6) (by kernel_rfl) rfl ?_
         refine svI hF rfl (v_not rfl) rfl ?_; clear hF a; intro a hF
         refine wli_nil ?_
         refine ai_done (by kernel_rfl) (hK _ _ ?_)
         clear hK K
         replace hF := hF.sub _ (c_ 32 rfl (n_))
         refine Rd.W_ifT hF rfl ?_
         refine Rd.W_ret ?_
         exact ⟨⟨⟨_, hX1⟩, ((hMk.st hSA).st hS).o hO (Nat.le_refl _)⟩, hS.o.trans (hO.mono hsw)⟩
       ·
        skip
        refine WLI_of rfl ?_
        refine s_app (D := FDx) (B := B) hF rfl sl53 rfl rfl hL (he) (zints_one _) (by simp only [List.length_cons, List.length_nil, hcl]; omega) (by simp only [List.length_cons, List.length_nil, hcl, maxLen]; omega) (hKA) (by decide) hS.inv rfl ?_; clear hF a; intro v' b' w' a ho' hm hI' hb' hF
        replace hby := hby.mb hm (Blk.ne_own hby hL (by decide))
        replace hbi := hbi.mb hm ((fun e => by have := (hL.lt _ e).1; omega))
        replace he := he.mb hm (fun k h => Nat.le_trans (Nat.le_refl _) (hL.lt k h).1)
        replace hKA := Nat.le_trans hKA hm.size
        replace hS := hS.mb hm (fun k h => Nat.le_trans (by omega) (hL.lt k h).1)
        replace hL := ho'
        clear hm hI' ho'
        refine WL_nil ?_
        refine ai_1 (i := 0) (by kernel_rfl) rfl ?_
        refine svI hF rfl (v_load sc117 rfl (hby.at 0 rfl)) rfl ?_; clear hF a; intro a hF
        refine wli_nil ?_
        refine ai_1 (i := 5) (by kernel_rfl) rfl ?_
        refine syI hF rfl rfl rfl ((hy ((chP to m fr i).length + k) ((fr + i) :: x) _ _ (chP_at hlt hxk) (hJ _ _ _ hJA hS.xt) (hSW.trans hS) ((hL.cast (ys := zints (casts ((fr + i) :: x))) rfl).row (by decide))).mono (fun b w' hb => ?_))
        rcases hb with ⟨rfl, hJ', hz⟩ | ⟨rfl, hX'⟩
        ·
         skip
         clear hF; intro a hF
         replace hS := hS.trans hz
         clear hz
         refine wli_nil ?_
         refine ai_1 (i := 6) (by kernel_rfl) rfl ?_
         refine svI hF rfl (v_not rfl) rfl ?_; clear hF a; intro a hF
         refine wli_nil ?_
         refine ai_done (by kernel_rfl) (hK _ _ ?_)
         clear hK K
         replace hF := hF.sub _ (c_ 32 rfl (n_))
         refine Rd.W_ifF hF rfl ?_
         refine Rd.W_skip ?_
         exact ⟨hJ', hS⟩
        ·
         skip
         clear hF; intro a hF
         obtain ⟨hX1, hO⟩ := hX'
         refine wli_nil ?_
         refine ai_1 (i := 6) (by kernel_rfl) rfl ?_
         refine svI hF rfl (v_not rfl) rfl ?_; clear hF a; intro a hF
         refine wli_nil ?_
         refine ai_done (by kernel_rfl) (hK _ _ ?_)
         clear hK K
         replace hF := hF.sub _ (c_ 32 rfl (n_))
         refine Rd.W_ifT hF rfl ?_
         refine Rd.W_ret ?_
         exact ⟨⟨⟨_, hX1⟩, ((hMk.st hSA).st hS).o hO (Nat.le_refl _)⟩, hS.o.trans (hO.mono hsw)⟩
   ·
    skip
    clear hF
    intro a W hF hD hJd hSd
    have hMk3 := Mk.cons (D := FDx) (B := B) hMk (Nat.le_refl _) hsw (hMk.st hSd) hD
    clear hMk
    have hMk := hMk3
    clear hMk3
    replace hbm := hbm.st (by decide) hSd
    replace hbf := hbf.st (by decide) hSd
    replace hbt := hbt.st (by decide) hSd
    replace hby := hby.st (by decide) hSd
    replace hbi := hbi.st hSd
    replace hS := hS.trans hSd
    replace hJd : J (chP to m fr (i + 1)).length W := by rw [chP_len]; exact hJd
    have hS1 := St.refl hSd.inv
    clear hds hsw hJ0 hSd
    refine W_seq ?_
    refine W_sr rfl (fun K hK => ?_)
    refine sv hF (v_load sc3 rfl (hbi.blk.at 0 rfl)) rfl ?_; clear hF a; intro a hF
    refine WL_nil (hK _ _ ?_)
    clear hK K
    replace hF := hF.sub _ (c_ 33 rfl (c_ 1 rfl (c_ 3 rfl (c_ 4 rfl (c_ 5 rfl (n_))))))
    clear hbi
    refine W_reg rfl (fun K hK => ?_)
    have hs0 := hS.ext.size
    obtain ⟨gi2, hgi⟩ : ∃ g, g = W.heap.size := ⟨_, rfl⟩
    have hs1 : W.heap.size ≤ gi2 := by omega
    have h1m := heap_lt hbm
    have h1f := heap_lt hbf
    have h1t := heap_lt hbt
    have h1y := heap_lt hby
    rw [← hgi] at hs0 h1m h1f h1t h1y
    refine s_alloc (D := FDx) (B := B) hF zv3 (by decide) hS.inv rfl ?_; clear hF a; intro w' a hm hI' hbi hsz hF
    replace hMk := hMk.mb hm (fun k e => by cases e)
    replace hbm := hbm.mb hm (by simp)
    replace hbf := hbf.mb hm (by simp)
    replace hbt := hbt.mb hm (by simp)
    replace hby := hby.mb hm (by simp)
    replace hS1 := hS1.mb0 hm
    replace hS := hS.mb0 hm
    clear hm hI' hsz
    rw [← hgi] at hbi hF
    clear hgi
    refine s_stb (D := FDx) (B := B) hF on3 rfl rfl (rfl) hbi hS.inv ?_; intro w' hm hI' hbx'
    replace hMk := hMk.mb hm (fun k e => by cases e; exact ⟨_, _, _, hbi.blk⟩)
    replace hbm := hbm.mb hm (by simp; omega)
    replace hbf := hbf.mb hm (by simp; omega)
    replace hbt := hbt.mb hm (by simp; omega)
    replace hby := hby.mb hm (by simp; omega)
    replace hS1 := hS1.mb hm (fun k h => by cases h; exact hs1)
    replace hS := hS.mb hm (fun k h => by cases h; exact hs0)
    replace hbi := hbx'
    clear hm hI' hbx'
    refine WL_nil (hK _ _ ?_)
    clear hK K
    refine W_reg rfl (fun K hK => ?_)
    refine sv hF (v_load sc3 rfl (hbi.blk.at 0 rfl)) rfl ?_; clear hF a; intro a hF
    refine sv hF ((v_addI rfl rfl (by omega)).as (show Value.int .i64 (((fr + i : Nat) : Int) + 1) = .int .i64 ((fr + (i + 1) : Nat) : Int) by congr 1)) rfl ?_; clear hF a; intro a hF
    refine s_stb (D := FDx) (B := B) hF on3 rfl rfl (rfl) hbi hS.inv ?_; intro w' hm hI' hbx'
    replace hMk := hMk.mb hm (fun k e => by cases e; exact ⟨_, _, _, hbi.blk⟩)
    replace hbm := hbm.mb hm (by simp; omega)
    replace hbf := hbf.mb hm (by simp; omega)
    replace hbt := hbt.mb hm (by simp; omega)
    replace hby := hby.mb hm (by simp; omega)
    replace hS1 := hS1.mb hm (fun k h => by cases h; exact hs1)
    replace hS := hS.mb hm (fun k h => by cases h; exact hs0)
    replace hbi := hbx'
    clear hm hI' hbx'
    refine WL_nil (hK _ _ ?_)
    clear hK K
    exact ⟨q - 1, by omega, i + 1, _, _, hF.sub _ (c_ 1 rfl (c_ 3 rfl (c_ 4 rfl (c_ 5 rfl (n_))))), hS, hMk, hbm, hbf, hbt, hby, hbi, hs0, hJ _ _ _ hJd hS1.xt, by omega, by omega⟩
   ·
    rintro a W hF hD ⟨⟨j, hj⟩, hMk2⟩ hIv
    exact ⟨_, _, Mk.cons (D := FDx) (B := B) hMk (Nat.le_refl _) hsw hMk2 hD, hIv, hF, fun w2 hX => Or.inr ⟨j, hJx _ _ _ hj hX⟩⟩
  ·
   skip
   try simp only [dcl] at hc1
   refine W_exit rfl ?_
   refine ⟨ds, _, hMk, hS.inv, hF, fun w2 hX => ?_⟩
   have hie : i = to - m - fr := by omega
   exact Or.inl ⟨hJ _ _ _ (by rw [ch_P, ← hie]; exact hJ0) hX, hS.thenX hX (Nat.le_refl _)⟩

theorem choices_seq (B to : Nat) (hto : to ≤ 1000) : ∀ (m fr : Nat) (w0 : World) (gm gf gt : Nat), m ≤ 1000 → fr ≤ 1000 → Blk w0 gm FDx.E [.int .i64 (m : Int)] → Blk w0 gf FDx.E [.int .i64 (fr : Int)] → Blk w0 gt FDx.E [.int .i64 (to : Int)] → SeqS Tryz.prog FDx B 80 [.pointer (some ⟨gm, 0, none⟩), .pointer (some ⟨gf, 0, none⟩), .pointer (some ⟨gt, 0, none⟩)] (encL B) (ch to m fr) w0
 | 0, fr, w0, gm, gf, gt, hm, hfr, hbm, hbf, hbt => fun l J Jx W hW hJ hJx hy h0 => chs_zero B to fr gm gf gt l J Jx W hW.inv (hbm.st (by decide) hW) (hbf.st (by decide) hW) (hbt.st (by decide) hW) hJ hJx hy h0
 | m + 1, fr, w0, gm, gf, gt, hm, hfr, hbm, hbf, hbt => fun l J Jx W hW hJ hJx hy h0 => chs_succ B to fr m gm gf gt l J Jx W hW.inv ⟨hto, hfr, by omega⟩ (hbm.st (by decide) hW) (hbf.st (by decide) hW) (hbt.st (by decide) hW) hJ hJx hy h0
   (fun fr' w0 gm gf gt hfr' hbm hbf hbt => choices_seq B to hto m fr' w0 gm gf gt (by omega) hfr' hbm hbf hbt)

end Go.Proofs.YtkoiolamnnmokaaGreat
