/- A small calculus for walking the model's code: a frame known by a list of facts, one rule an operation, one rule a form of code. No program in sight. -/
import Derived.OrdersHeld
import Derived.Tactics
import Derived.Laws.AppendOwn
import Derived.Laws.MakeOwn
import Derived.OwnWalk
import Derived.Below
import Derived.KernelRfl
set_option linter.unusedVariables false
set_option linter.unusedSimpArgs false
namespace Go.Gam
open Go

/-! ### frames -/
abbrev Fs := List (Nat × Value)

def look : Fs → Nat → Option Value
  | [], _ => none
  | (k, v) :: r, i => bif Nat.beq k i then some v else look r i

theorem look_cons (k : Nat) (v : Value) (r : Fs) (i : Nat) : look ((k, v) :: r) i = if k = i then some v else look r i := by
  simp only [look]
  by_cases h : k = i
  · subst h; simp
  · have : Nat.beq k i = false := by
      cases hb : Nat.beq k i with
      | false => rfl
      | true => exact absurd (Nat.eq_of_beq_eq_true hb) h
    rw [this]; simp [h]

/-- How many slots a frame has, and the marks that ranges over functions have left. -/
structure NN where
  n : Nat
  ds : List Nat
instance (k : Nat) : OfNat NN k := ⟨⟨k, []⟩⟩

/-- The mark of a range over a function. -/
def dmark (D : Nat) : Deferred := { target := .collected D, args := #[] }

structure Fr (n : NN) (F : Fs) (a : Act) : Prop where
  size : a.tmps.size = n.n
  defers : a.defers = n.ds.map dmark
  val : ∀ i v, look F i = some v → a.tmps[i]? = some v

def ev (F : Fs) : Operand → Option Value
  | .tmp i => look F i
  | .const v => some v
  | .global g => some (.pointer (some ⟨g, 0, none⟩))
  | .func f => some (.func (.func f) #[] #[])

theorem Fr.eval {n : NN} {F : Fs} {a : Act} {x : Operand} {v : Value} (h : Fr n F a) (hx : ev F x = some v) : a.eval x = v := by
  cases x with
  | tmp i => have := h.val i v hx; simp [Act.eval, Array.getD_eq_getD_getElem?, this]
  | const c => simpa [ev, Act.eval] using hx
  | global g => simpa [ev, Act.eval] using hx
  | func f => simpa [ev, Act.eval] using hx

theorem Fr.put {n : NN} {F : Fs} {a : Act} {d : Nat} {v : Value} (h : Fr n F a) (hd : Nat.blt d n.n = true) : Fr n ((d, v) :: F) (a.put (some d) v) := by
  have hlt : d < n.n := by simpa [Nat.blt_eq] using hd
  refine ⟨by simp [Act.put, h.size], by simp [Act.put, h.defers], fun i u hu => ?_⟩
  rw [look_cons] at hu
  simp only [Act.put]
  by_cases e : d = i
  · subst e
    rw [if_pos rfl] at hu
    simp [Array.getElem?_setIfInBounds, h.size, hlt, Option.some.inj hu]
  · rw [if_neg e] at hu
    rw [Array.getElem?_setIfInBounds_ne e]
    exact h.val i u hu

theorem Fr.putNone {n : NN} {F : Fs} {a : Act} {v : Value} (h : Fr n F a) : Fr n F (a.put none v) := h

def sub (F : Fs) : Fs → Prop
  | [] => True
  | (k, v) :: r => look F k = some v ∧ sub F r

theorem Fr.sub {n : NN} {F : Fs} {a : Act} (G : Fs) (h : Fr n F a) (hs : Gam.sub F G) : Fr n G a := by
  refine ⟨h.size, h.defers, fun i v hv => h.val i v ?_⟩
  clear h
  induction G with
  | nil => simp [look] at hv
  | cons p r ih =>
    obtain ⟨k, u⟩ := p
    rw [look_cons] at hv
    by_cases e : k = i
    · subst e; rw [if_pos rfl] at hv; obtain rfl := Option.some.inj hv; exact hs.1
    · rw [if_neg e] at hv; exact ih hs.2 hv

theorem n_ {F : Fs} : Gam.sub F [] := trivial
theorem c_ {F G : Fs} (k : Nat) {v : Value} (h : look F k = some v) (r : Gam.sub F G) : Gam.sub F ((k, v) :: G) := ⟨h, r⟩

def evs (F : Fs) : List Operand → Option (List Value)
  | [] => some []
  | x :: r => match ev F x, evs F r with | some v, some vs => some (v :: vs) | _, _ => none

/-- What a list of facts says of a reading of operands. -/
def Reads (F : Fs) (ρ : Operand → Value) : Prop := ∀ x v, ev F x = some v → ρ x = v

theorem Reads.list {F : Fs} {ρ : Operand → Value} (h : Reads F ρ) : ∀ (l : List Operand) (vs : List Value), evs F l = some vs → l.map ρ = vs := by
  intro l
  induction l with
  | nil => intro vs hv; simp [evs] at hv; simp [hv]
  | cons x r ih =>
    intro vs hv
    simp only [evs] at hv
    split at hv
    · rename_i v vs' h1 h2
      obtain rfl := Option.some.inj hv
      simp [h x v h1, ih vs' h2]
    · cases hv

theorem Fr.reads {n : NN} {F : Fs} {a : Act} (h : Fr n F a) : Reads F a.eval := fun _ _ hx => h.eval hx

/-! ### an operation that yields a value and leaves the world -/
def Val (P : Program) (o : Op) (T : TypeId) (F : Fs) (w : World) (v : Value) : Prop :=
  ∀ ρ, Reads F ρ → ∀ d p af g, (execOp ρ ⟨d, o, T, p, af, g⟩).run P w = .ok (.value v) w

/-! ### continuations -/
abbrev Kont := Act → World → Prop

def lookX : List (Nat × Kont) → Nat → Option Kont
  | [], _ => none
  | (k, v) :: r, i => bif Nat.beq k i then some v else lookX r i

def Qof (N : Kont) (X : List (Nat × Kont)) (R : Kont) : Exit → Act → World → Prop
  | .normal, a, w => N a w
  | .exit id, a, w => match lookX X id with | some K => K a w | none => False
  | .ret, a, w => R a w
  | _, _, _ => False

/-- The code c, begun at a, w, ends: normally in N, by an exit in X, by a return in R. -/
def W (P : Program) (c : Code) (N : Kont) (X : List (Nat × Kont)) (R : Kont) (a : Act) (w : World) : Prop := c.wp P (Qof N X R) a w

/-- The operations l of a region, one behind the other, end in K. -/
def WL (P : Program) (ops : Array Oper) (K : Kont) (l : List Oper) (a : Act) (w : World) : Prop := wpList P ops (Qof K [] (fun _ _ => False)) l a w

section
variable {P : Program} {N : Kont} {X : List (Nat × Kont)} {R : Kont} {a : Act} {w : World}

theorem W_mono {c : Code} {N' : Kont} {X' : List (Nat × Kont)} {R' : Kont} (h : W P c N X R a w) (hN : ∀ a w, N a w → N' a w)
    (hX : ∀ id K, lookX X id = some K → ∀ a w, K a w → ∃ K', lookX X' id = some K' ∧ K' a w) (hR : ∀ a w, R a w → R' a w) : W P c N' X' R' a w :=
  wp_mono h fun e a w hq => by
    cases e with
    | normal => exact hN _ _ hq
    | exit id =>
      simp only [Qof] at hq ⊢
      split at hq
      · rename_i K hK
        obtain ⟨K', h1, h2⟩ := hX id K hK a w hq
        rw [h1]; exact h2
      · exact hq.elim
    | ret => exact hR _ _ hq
    | goto l => exact hq.elim
    | panic c => exact hq.elim
    | outgrown => exact hq.elim

theorem W_seq {x y : Code} (h : W P x (fun a w => W P y N X R a w) X R a w) : W P (.seq x y) N X R a w :=
  wp_seq (wp_mono h fun e a w hq => by cases e <;> exact hq)

/-- A cut: what the first part leaves is told. -/
theorem W_cut {x y : Code} (M : Kont) (h : W P x M X R a w) (h2 : ∀ a w, M a w → W P y N X R a w) : W P (.seq x y) N X R a w :=
  W_seq (W_mono h h2 (fun id K hK a w hk => ⟨K, hK, hk⟩) (fun _ _ h => h))

theorem W_block {id : Nat} {c : Code} (h : W P c N ((id, N) :: X) R a w) : W P (.block id c) N X R a w :=
  wp_block (wp_mono h fun e a w hq => by
    cases e with
    | exit i =>
      simp only [Exit.inBlock]
      simp only [Qof, lookX] at hq
      by_cases e : i = id
      · subst e; rw [if_pos rfl]; simp only [Nat.beq_refl, cond_true] at hq; exact hq
      · rw [if_neg e]
        have hb : Nat.beq id i = false := by
          cases hb : Nat.beq id i with
          | false => rfl
          | true => exact absurd (Nat.eq_of_beq_eq_true hb).symm e
        rw [hb] at hq
        simpa [Qof] using hq
    | normal => exact hq
    | ret => exact hq
    | goto l => exact hq
    | panic c => exact hq
    | outgrown => exact hq)

theorem W_skip (h : N a w) : W P .skip N X R a w := wp_skip h
theorem W_ret (h : R a w) : W P .ret N X R a w := wp_ret h
theorem W_exit {id : Nat} {K : Kont} (hX : lookX X id = some K) (h : K a w) : W P (.exit id) N X R a w := by
  refine wp_exit ?_
  simp only [Qof, hX]
  exact h

theorem W_if {n : NN} {F : Fs} {c : Operand} {x y : Code} {b : Bool} (hF : Fr n F a) (hc : ev F c = some (.bool b)) (ht : b = true → W P x N X R a w) (hf : b = false → W P y N X R a w) :
    W P (.cond c x y) N X R a w := wp_cond_split (hF.eval hc) ht hf

theorem W_ifT {n : NN} {F : Fs} {c : Operand} {x y : Code} (hF : Fr n F a) (hc : ev F c = some (.bool true)) (h : W P x N X R a w) : W P (.cond c x y) N X R a w := wp_cond_true (hF.eval hc) h
theorem W_ifF {n : NN} {F : Fs} {c : Operand} {x y : Code} (hF : Fr n F a) (hc : ev F c = some (.bool false)) (h : W P y N X R a w) : W P (.cond c x y) N X R a w := wp_cond_false (hF.eval hc) h

/-- A loop: I holds at each round's head, m goes down. -/
theorem W_loop {c : Code} (I : Nat → Kont) (m : Nat) (h0 : I m a w)
    (round : ∀ m a w, I m a w → W P c (fun a' w' => ∃ m', m' < m ∧ I m' a' w') X R a w) : W P (.loop c) N X R a w := by
  intro b k cs
  have key : ∀ m a w, I m a w → ∃ e a' w', Qof N X R e a' w' ∧ Arrives P (lone (b.at a (.code c :: .inLoop c :: k)) cs w) b k cs e a' w' := by
    intro m
    induction m using Nat.strongRecOn with
    | _ m ih =>
      intro a w hI
      obtain ⟨e, a₁, w₁, hq, harr⟩ := round m a w hI b (.inLoop c :: k) cs
      cases e with
      | normal =>
        obtain ⟨m', hm, hI'⟩ := hq
        obtain ⟨e₂, a₂, w₂, hq₂, harr₂⟩ := ih m' hm a₁ w₁ hI'
        exact ⟨e₂, a₂, w₂, hq₂, .of_steps (Steps.trans harr (.one step_inLoop)) harr₂⟩
      | exit id => exact ⟨.exit id, a₁, w₁, hq, .pass (x := .inLoop c) rfl (fun _ _ => .inl (by simp)) harr⟩
      | goto l => exact hq.elim
      | ret => exact ⟨.ret, a₁, w₁, hq, .pass (x := .inLoop c) rfl (fun _ _ => .inl (by simp)) harr⟩
      | panic ch => exact hq.elim
      | outgrown => exact hq.elim
  obtain ⟨e, a', w', hq, harr⟩ := key m a w h0
  exact ⟨e, a', w', hq, .of_steps (.one step_loop) harr⟩

/-! ### regions -/
theorem W_reg {id : Nat} {ops : Array Oper} {l : List Oper} (hl : ops.toList = l) (h : ∀ K : Kont, (∀ a w, N a w → K a w) → WL P ops K l a w) : W P (.region id ops false) N X R a w :=
  wp_mono (wp_region_list (by rw [hl]; exact h N (fun _ _ h => h))) fun e a w hq => by
    cases e with
    | exit i => simp [Qof, lookX] at hq
    | normal => exact hq
    | ret => exact hq.elim
    | goto l => exact hq.elim
    | panic c => exact hq.elim
    | outgrown => exact hq.elim

theorem W_sr {id : Nat} {ops : Array Oper} {l : List Oper} {y : Code} (hl : ops.toList = l) (h : ∀ K : Kont, (∀ a w, W P y N X R a w → K a w) → WL P ops K l a w) :
    W P (.seq (.region id ops false) y) N X R a w := W_seq (W_reg hl h)

variable {ops : Array Oper} {K : Kont} {rest : List Oper} {n : NN} {F : Fs} {op : Op} {T : TypeId} {pp : String} {af : Array Edge} {v : Value} {d : Nat}

theorem WL_nil (h : K a w) : WL P ops K [] a w := h

/-- A value, the world as it is. -/
theorem sv (hF : Fr n F a) (hv : Val P op T F w v) (hd : Nat.blt d n.n = true) (k : ∀ a, Fr n ((d, v) :: F) a → WL P ops K rest a w) :
    WL P ops K (⟨some d, op, T, pp, af, none⟩ :: rest) a w := by
  unfold WL wpList
  rw [if_pos (by simp [Region.wanted])]
  refine .inl ?_
  unfold Oper.wp
  rw [hv a.eval hF.reads]
  exact k _ (hF.put hd)

def nth {α : Type} : List α → Nat → Option α
  | [], _ => none
  | x :: _, 0 => some x
  | _ :: r, k + 1 => nth r k

theorem nth_eq {α : Type} : ∀ (l : List α) (i : Nat), nth l i = l[i]?
  | [], _ => by simp [nth]
  | x :: r, 0 => by simp [nth]
  | x :: r, k + 1 => by simp [nth, nth_eq r k]

/-- What a guard's operation has yielded. -/
def yl (ops : List Oper) (F : Fs) (j : Nat) : Option Bool :=
  match nth ops j with
  | some o => match o.dst with
    | some d => match look F d with
      | some (.bool b) => some b
      | _ => none
    | none => none
  | none => none

theorem yl_ok {j : Nat} {b : Bool} (hF : Fr n F a) (h : yl ops.toList F j = some b) : yielded ops a.tmps j = some b := by
  unfold yl at h
  rw [nth_eq] at h
  unfold yielded
  rw [← Array.getElem?_toList]
  split at h <;> try cases h
  rename_i o ho
  split at h <;> try cases h
  rename_i d hd
  split at h <;> try cases h
  rename_i b' hb
  simp [ho, hd, hF.val d _ hb]

/-- A guarded operation that is carried out. -/
theorem svg {j : Nat} {b : Bool} (hF : Fr n F a) (hy : yl ops.toList F j = some b) (k : WL P ops K (⟨some d, op, T, pp, af, none⟩ :: rest) a w) :
    WL P ops K (⟨some d, op, T, pp, af, some (j, b)⟩ :: rest) a w := by
  unfold WL wpList at k ⊢
  rw [if_pos (by simp [Region.wanted])] at k
  rw [if_pos (by simp [Region.wanted, yl_ok hF hy])]
  exact k

/-- A guarded operation that is passed over. -/
theorem svn {j : Nat} {b b' : Bool} (hF : Fr n F a) (hy : yl ops.toList F j = some b') (hb : (b' == b) = false) (hd : Nat.blt d n.n = true) (k : ∀ a, Fr n ((d, undef) :: F) a → WL P ops K rest a w) :
    WL P ops K (⟨some d, op, T, pp, af, some (j, b)⟩ :: rest) a w := by
  unfold WL wpList
  rw [if_neg (by
    simp only [Region.wanted, yl_ok hF hy]
    intro h
    have : (b' == b) = true := by simpa using h
    rw [hb] at this; cases this)]
  exact k _ (hF.put hd)

/-- A guard's operation that was passed over itself. -/
def yu (ops : List Oper) (F : Fs) (j : Nat) : Bool :=
  match nth ops j with
  | some o => match o.dst with
    | some d => match look F d with
      | some (.tuple _) => true
      | _ => false
    | none => false
  | none => false

theorem yu_ok {j : Nat} (hF : Fr n F a) (h : yu ops.toList F j = true) : yielded ops a.tmps j = none := by
  unfold yu at h
  rw [nth_eq] at h
  unfold yielded
  rw [← Array.getElem?_toList]
  split at h <;> try cases h
  rename_i o ho
  split at h <;> try cases h
  rename_i d hd
  split at h <;> try cases h
  rename_i b' hb
  simp [ho, hd, hF.val d _ hb]

theorem svu {j : Nat} {b : Bool} (hF : Fr n F a) (hy : yu ops.toList F j = true) (hd : Nat.blt d n.n = true) (k : ∀ a, Fr n ((d, undef) :: F) a → WL P ops K rest a w) :
    WL P ops K (⟨some d, op, T, pp, af, some (j, b)⟩ :: rest) a w := by
  unfold WL wpList
  rw [if_neg (by simp [Region.wanted, yu_ok hF hy])]
  exact k _ (hF.put hd)

/-- A value that is a Bool: both ways. -/
theorem sb {b : Bool} (hF : Fr n F a) (hv : Val P op T F w (.bool b)) (hd : Nat.blt d n.n = true) (kt : b = true → ∀ a, Fr n ((d, .bool true) :: F) a → WL P ops K rest a w)
    (kf : b = false → ∀ a, Fr n ((d, .bool false) :: F) a → WL P ops K rest a w) : WL P ops K (⟨some d, op, T, pp, af, none⟩ :: rest) a w := by
  cases b with
  | true => exact sv hF hv hd (kt rfl)
  | false => exact sv hF hv hd (kf rfl)

/-- A value that is another one. -/
theorem Val.as {u : Value} (h : Val P op T F w v) (e : v = u) : Val P op T F w u := e ▸ h

/-! ### calls -/
/-- Function f is entered by a call. -/
def Ent (P : Program) (f : FuncId) : Prop := ∀ args w, (callFunc f args).run P w = .ok (.enter f args) w

theorem ent {f : FuncId} {fn : Func} (hf : P.funcs[f]? = some fn) (hn : (fn.name == "runtime.NumGoroutine") = false) (hb : fn.body.isNone = false) : Ent P f := by
  intro args w
  have h1 : fn.name ≠ "runtime.NumGoroutine" := by simpa using hn
  have h2 : ¬ fn.body = none := by intro h; simp [h] at hb
  simp [callFunc, hf, h1, h2]

/-- The call of f with these values returns a value of which Q holds. -/
def Ret (P : Program) (f : FuncId) (vs : List Value) (w : World) (Q : Value → World → Prop) : Prop :=
  Calls P f vs.toArray w fun e w' => ∃ v, e = .returned v ∧ Q v w'

theorem Ret.mono {f : FuncId} {vs : List Value} {Q Q' : Value → World → Prop} (h : Ret P f vs w Q) (hq : ∀ v w', Q v w' → Q' v w') : Ret P f vs w Q' :=
  Calls.mono h fun e w' ⟨v, he, hv⟩ => ⟨v, he, hq v w' hv⟩

theorem sc {fo : Operand} {f : FuncId} {fst cap vs all : List Value} {as : List Operand} {ats : Array TypeId} {Q : Value → World → Prop}
    (hF : Fr n F a) (hf : ev F fo = some (.func (.func f) fst.toArray cap.toArray)) (ha : evs F as = some vs) (hall : fst ++ vs ++ cap = all) (he : Ent P f) (hd : Nat.blt d n.n = true)
    (hc : Ret P f all w Q) (k : ∀ v w' a, Q v w' → Fr n ((d, v) :: F) a → WL P ops K rest a w') :
    WL P ops K (⟨some d, .call ⟨.value fo, as.toArray, ats⟩, T, pp, af, none⟩ :: rest) a w := by
  unfold WL wpList
  rw [if_pos (by simp [Region.wanted])]
  refine .inl ?_
  unfold Oper.wp
  have h1 : a.eval fo = .func (.func f) fst.toArray cap.toArray := hF.eval hf
  have h2 : as.map a.eval = vs := hF.reads.list _ _ ha
  have hrun : (execOp a.eval ⟨some d, .call ⟨.value fo, as.toArray, ats⟩, T, pp, af, none⟩).run P w = .ok (.enter f all.toArray) w := by
    simp [execOp, resolve, h1, h2, Deferred.ofValue, invoke, he _ w, ← hall]
  rw [hrun, Oper.upon_enter]
  exact Calls.mono hc fun e w' ⟨v, he, hv⟩ => by subst he; exact k v w' _ hv (hF.put hd)

/-- Numbered values. -/
def idx : List Value → Nat → List (Nat × Value)
  | [], _ => []
  | v :: r, i => (i, v) :: idx r (i + 1)

theorem look_idx : ∀ (vs : List Value) (j i : Nat) (v : Value), look (idx vs j) i = some v → ∃ k, i = j + k ∧ vs[k]? = some v
  | [], _, _, _, h => by simp [idx, look] at h
  | u :: r, j, i, v, h => by
    simp only [idx] at h
    rw [look_cons] at h
    by_cases e : j = i
    · subst e; rw [if_pos rfl] at h; exact ⟨0, by simp, by simpa using h⟩
    · rw [if_neg e] at h
      obtain ⟨k, hk, hv⟩ := look_idx r (j + 1) i v h
      exact ⟨k + 1, by omega, by simpa using hv⟩

theorem enterG {f : FuncId} {fn : Func} {c : Code} {vs : List Value} {Q : Value → World → Prop} {n : NN} {F : Fs} (E : Kont) (hf : P.funcs[f]? = some fn) (hb : fn.body = some c) (hn : n = ⟨fn.ntmps, []⟩) (hle : Nat.ble vs.length n.n = true) (hF : F = idx vs 0)
    (hE : ∀ a w, E a w → a.defers = [] ∧ ∃ v, (results fn a.tmps).run P w = .ok v w ∧ Q v w) (h : ∀ a, Fr n F a → W P c E [] E a w) : Ret P f vs w Q := by
  refine calls_of_wp hf hb (wp_mono (h _ ⟨by have := Nat.le_of_ble_eq_true hle; subst hn; simp at this ⊢; omega, by subst hn; rfl, fun i v hv => ?_⟩) ?_)
  · rw [hF] at hv
    obtain ⟨k, hk, h1⟩ := look_idx vs 0 i v hv
    rw [show i = k from by omega]
    have h2 : k < vs.length := (List.getElem?_eq_some_iff.1 h1).1
    rw [Array.getElem?_append_left (by simpa using h2)]
    simpa using h1
  · intro e a w hq
    have key : ∀ a w, E a w → a.defers = [] ∧ ∃ v, (results fn a.tmps).run P w = .ok v w ∧ ∃ u, Ending.returned v = .returned u ∧ Q u w := fun a w he =>
      let ⟨h1, v, h2, h3⟩ := hE a w he; ⟨h1, v, h2, v, rfl, h3⟩
    cases e with
    | normal => exact key a w hq
    | ret => exact key a w hq
    | exit i => simp [Qof, lookX] at hq
    | goto l => exact hq.elim
    | panic c => exact hq.elim
    | outgrown => exact hq.elim

/-- Into a function: its frame. -/
theorem enter {f : FuncId} {fn : Func} {c : Code} {vs : List Value} {Q : Value → World → Prop} (n : NN) (F : Fs) (t : Nat) (hf : P.funcs[f]? = some fn) (hb : fn.body = some c) (hn : n = ⟨fn.ntmps, []⟩) (hr : fn.results = #[.tmp t]) (hle : Nat.ble vs.length n.n = true) (hF : F = idx vs 0)
    (h : ∀ a, Fr n F a → W P c (fun a w => ∃ F' v, Fr n F' a ∧ look F' t = some v ∧ Q v w) [] (fun a w => ∃ F' v, Fr n F' a ∧ look F' t = some v ∧ Q v w) a w) : Ret P f vs w Q := by
  refine enterG _ hf hb hn hle hF (fun a w ⟨F', v, hF', hl, hq⟩ => ⟨by rw [hF'.defers, hn]; rfl, v, ?_, hq⟩) h
  have hv := hF'.val t v hl
  simp [results, hr, Array.getD_eq_getD_getElem?, hv]

theorem enter0 {f : FuncId} {fn : Func} {c : Code} {vs : List Value} {Q : Value → World → Prop} (n : NN) (F : Fs) (hf : P.funcs[f]? = some fn) (hb : fn.body = some c) (hn : n = ⟨fn.ntmps, []⟩) (hr : fn.results = #[]) (hle : Nat.ble vs.length n.n = true) (hF : F = idx vs 0)
    (h : ∀ a, Fr n F a → W P c (fun a w => ∃ F', Fr n F' a ∧ Q (.tuple #[]) w) [] (fun a w => ∃ F', Fr n F' a ∧ Q (.tuple #[]) w) a w) : Ret P f vs w Q := by
  refine enterG _ hf hb hn hle hF (fun a w ⟨F', hF', hq⟩ => ⟨by rw [hF'.defers, hn]; rfl, _, ?_, hq⟩) h
  simp [results, hr]

theorem enter2 {f : FuncId} {fn : Func} {c : Code} {vs : List Value} {Q : Value → World → Prop} (n : NN) (F : Fs) (t s : Nat) (hf : P.funcs[f]? = some fn) (hb : fn.body = some c) (hn : n = ⟨fn.ntmps, []⟩) (hr : fn.results = #[.tmp t, .tmp s]) (hle : Nat.ble vs.length n.n = true) (hF : F = idx vs 0)
    (h : ∀ a, Fr n F a → W P c (fun a w => ∃ F' v u, Fr n F' a ∧ look F' t = some v ∧ look F' s = some u ∧ Q (.tuple #[v, u]) w) [] (fun a w => ∃ F' v u, Fr n F' a ∧ look F' t = some v ∧ look F' s = some u ∧ Q (.tuple #[v, u]) w) a w) : Ret P f vs w Q := by
  refine enterG _ hf hb hn hle hF (fun a w ⟨F', v, u, hF', hl, hm, hq⟩ => ⟨by rw [hF'.defers, hn]; rfl, _, ?_, hq⟩) h
  have hv := hF'.val t v hl
  have hu := hF'.val s u hm
  simp [results, hr, Array.getD_eq_getD_getElem?, hv, hu]

theorem enter3 {f : FuncId} {fn : Func} {c : Code} {vs : List Value} {Q : Value → World → Prop} (n : NN) (F : Fs) (t s r : Nat) (hf : P.funcs[f]? = some fn) (hb : fn.body = some c) (hn : n = ⟨fn.ntmps, []⟩) (hr : fn.results = #[.tmp t, .tmp s, .tmp r]) (hle : Nat.ble vs.length n.n = true) (hF : F = idx vs 0)
    (h : ∀ a, Fr n F a → W P c (fun a w => ∃ F' v u x, Fr n F' a ∧ look F' t = some v ∧ look F' s = some u ∧ look F' r = some x ∧ Q (.tuple #[v, u, x]) w) [] (fun a w => ∃ F' v u x, Fr n F' a ∧ look F' t = some v ∧ look F' s = some u ∧ look F' r = some x ∧ Q (.tuple #[v, u, x]) w) a w) : Ret P f vs w Q := by
  refine enterG _ hf hb hn hle hF (fun a w ⟨F', v, u, x, hF', hl, hm, ho, hq⟩ => ⟨by rw [hF'.defers, hn]; rfl, _, ?_, hq⟩) h
  have hv := hF'.val t v hl
  have hu := hF'.val s u hm
  have hx := hF'.val r x ho
  simp [results, hr, Array.getD_eq_getD_getElem?, hv, hu, hx]

end
end Go.Gam
