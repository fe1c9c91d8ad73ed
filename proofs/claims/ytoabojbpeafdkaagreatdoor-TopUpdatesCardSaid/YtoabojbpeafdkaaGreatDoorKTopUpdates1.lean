/- Texts of the claim TopUpdates (part 1), put together in the order of their imports. -/
import Derived.OrdersHeld
import Derived.Tactics
import Derived.Laws.AppendOwn
import Derived.Laws.MakeOwn
import Derived.OwnWalk
import Derived.Below
import Derived.KernelRfl
import Derived.WalkKit
import Derived.ProofKit
import Derived.OpenShut
import Derived.Carry
import Derived.ChangeSlices
set_option linter.all false
set_option maxRecDepth 100000
set_option maxHeartbeats 1000000
/- A small calculus for walking the model's code: a frame known by a list of facts, one rule an operation, one rule a form of code. No program in sight. -/
namespace Go.Gam
open Go
abbrev Fs := List (Nat × Value)
def look : Fs → Nat → Option Value
  | [], _ => none
  | (k, v) :: r, i => bif Nat.beq k i then some v else look r i
theorem look_cons (k : Nat) (v : Value) (r : Fs) (i : Nat) : look ((k, v) :: r) i = if k = i then some v else look r i := by
  simp only [look]
  by_cases h : k = i
  · subst h; simp
  · have : Nat.beq k i = false := by
      cases hb : Nat.beq k i with
      | false => rfl
      | true => exact absurd (Nat.eq_of_beq_eq_true hb) h
    rw [this]; simp [h]
structure NN where
  n : Nat
  ds : List Nat
instance (k : Nat) : OfNat NN k := ⟨⟨k, []⟩⟩
def dmark (D : Nat) : Deferred := { target := .collected D, args := #[] }
structure Fr (n : NN) (F : Fs) (a : Act) : Prop where
  size : a.tmps.size = n.n
  defers : a.defers = n.ds.map dmark
  val : ∀ i v, look F i = some v → a.tmps[i]? = some v
def ev (F : Fs) : Operand → Option Value
  | .tmp i => look F i
  | .const v => some v
  | .global g => some (.pointer (some ⟨g, 0, none⟩))
  | .func f => some (.func (.func f) #[] #[])
theorem Fr.eval {n : NN} {F : Fs} {a : Act} {x : Operand} {v : Value} (h : Fr n F a) (hx : ev F x = some v) : a.eval x = v := by
  cases x with
  | tmp i => have := h.val i v hx; simp [Act.eval, Array.getD_eq_getD_getElem?, this]
  | const c => simpa [ev, Act.eval] using hx
  | global g => simpa [ev, Act.eval] using hx
  | func f => simpa [ev, Act.eval] using hx
theorem Fr.put {n : NN} {F : Fs} {a : Act} {d : Nat} {v : Value} (h : Fr n F a) (hd : Nat.blt d n.n = true) : Fr n ((d, v) :: F) (a.put (some d) v) := by
  have hlt : d < n.n := by simpa [Nat.blt_eq] using hd
  refine ⟨by simp [Act.put, h.size], by simp [Act.put, h.defers], fun i u hu => ?_⟩
  rw [look_cons] at hu
  simp only [Act.put]
  by_cases e : d = i
  · subst e
    rw [if_pos rfl] at hu
    simp [Array.getElem?_setIfInBounds, h.size, hlt, Option.some.inj hu]
  · rw [if_neg e] at hu
    rw [Array.getElem?_setIfInBounds_ne e]
    exact h.val i u hu
def sub (F : Fs) : Fs → Prop
  | [] => True
  | (k, v) :: r => look F k = some v ∧ sub F r
theorem Fr.sub {n : NN} {F : Fs} {a : Act} (G : Fs) (h : Fr n F a) (hs : Gam.sub F G) : Fr n G a := by
  refine ⟨h.size, h.defers, fun i v hv => h.val i v ?_⟩
  clear h
  induction G with
  | nil => simp [look] at hv
  | cons p r ih =>
    obtain ⟨k, u⟩ := p
    rw [look_cons] at hv
    by_cases e : k = i
    · subst e; rw [if_pos rfl] at hv; obtain rfl := Option.some.inj hv; exact hs.1
    · rw [if_neg e] at hv; exact ih hs.2 hv
theorem n_ {F : Fs} : Gam.sub F [] := trivial
theorem c_ {F G : Fs} (k : Nat) {v : Value} (h : look F k = some v) (r : Gam.sub F G) : Gam.sub F ((k, v) :: G) := ⟨h, r⟩
def evs (F : Fs) : List Operand → Option (List Value)
  | [] => some []
  | x :: r => match ev F x, evs F r with | some v, some vs => some (v :: vs) | _, _ => none
def Reads (F : Fs) (ρ : Operand → Value) : Prop := ∀ x v, ev F x = some v → ρ x = v
theorem Reads.list {F : Fs} {ρ : Operand → Value} (h : Reads F ρ) : ∀ (l : List Operand) (vs : List Value), evs F l = some vs → l.map ρ = vs := by
  intro l
  induction l with
  | nil => intro vs hv; simp [evs] at hv; simp [hv]
  | cons x r ih =>
    intro vs hv
    simp only [evs] at hv
    split at hv
    · rename_i v vs' h1 h2
      obtain rfl := Option.some.inj hv
      simp [h x v h1, ih vs' h2]
    · cases hv
theorem Fr.reads {n : NN} {F : Fs} {a : Act} (h : Fr n F a) : Reads F a.eval := fun _ _ hx => h.eval hx
def Val (P : Program) (o : Op) (T : TypeId) (F : Fs) (w : World) (v : Value) : Prop :=
  ∀ ρ, Reads F ρ → ∀ d p af g, (execOp ρ ⟨d, o, T, p, af, g⟩).run P w = .ok (.value v) w
abbrev Kont := Act → World → Prop
def lookX : List (Nat × Kont) → Nat → Option Kont
  | [], _ => none
  | (k, v) :: r, i => bif Nat.beq k i then some v else lookX r i
def Qof (N : Kont) (X : List (Nat × Kont)) (R : Kont) : Exit → Act → World → Prop
  | .normal, a, w => N a w
  | .exit id, a, w => match lookX X id with | some K => K a w | none => False
  | .ret, a, w => R a w
  | _, _, _ => False
def W (P : Program) (c : Code) (N : Kont) (X : List (Nat × Kont)) (R : Kont) (a : Act) (w : World) : Prop := c.wp P (Qof N X R) a w
def WL (P : Program) (ops : Array Oper) (K : Kont) (l : List Oper) (a : Act) (w : World) : Prop := wpList P ops (Qof K [] (fun _ _ => False)) l a w
section
variable {P : Program} {N : Kont} {X : List (Nat × Kont)} {R : Kont} {a : Act} {w : World}
theorem W_mono {c : Code} {N' : Kont} {X' : List (Nat × Kont)} {R' : Kont} (h : W P c N X R a w) (hN : ∀ a w, N a w → N' a w)
    (hX : ∀ id K, lookX X id = some K → ∀ a w, K a w → ∃ K', lookX X' id = some K' ∧ K' a w) (hR : ∀ a w, R a w → R' a w) : W P c N' X' R' a w :=
  wp_mono h fun e a w hq => by
    cases e with
    | normal => exact hN _ _ hq
    | exit id =>
      simp only [Qof] at hq ⊢
      split at hq
      · rename_i K hK
        obtain ⟨K', h1, h2⟩ := hX id K hK a w hq
        rw [h1]; exact h2
      · exact hq.elim
    | ret => exact hR _ _ hq
    | goto l => exact hq.elim
    | panic c => exact hq.elim
    | outgrown => exact hq.elim
theorem W_seq {x y : Code} (h : W P x (fun a w => W P y N X R a w) X R a w) : W P (.seq x y) N X R a w :=
  wp_seq (wp_mono h fun e a w hq => by cases e <;> exact hq)
theorem W_cut {x y : Code} (M : Kont) (h : W P x M X R a w) (h2 : ∀ a w, M a w → W P y N X R a w) : W P (.seq x y) N X R a w :=
  W_seq (W_mono h h2 (fun id K hK a w hk => ⟨K, hK, hk⟩) (fun _ _ h => h))
theorem W_block {id : Nat} {c : Code} (h : W P c N ((id, N) :: X) R a w) : W P (.block id c) N X R a w :=
  wp_block (wp_mono h fun e a w hq => by
    cases e with
    | exit i =>
      simp only [Exit.inBlock]
      simp only [Qof, lookX] at hq
      by_cases e : i = id
      · subst e; rw [if_pos rfl]; simp only [Nat.beq_refl, cond_true] at hq; exact hq
      · rw [if_neg e]
        have hb : Nat.beq id i = false := by
          cases hb : Nat.beq id i with
          | false => rfl
          | true => exact absurd (Nat.eq_of_beq_eq_true hb).symm e
        rw [hb] at hq
        simpa [Qof] using hq
    | normal => exact hq
    | ret => exact hq
    | goto l => exact hq
    | panic c => exact hq
    | outgrown => exact hq)
theorem W_skip (h : N a w) : W P .skip N X R a w := wp_skip h
theorem W_ret (h : R a w) : W P .ret N X R a w := wp_ret h
theorem W_exit {id : Nat} {K : Kont} (hX : lookX X id = some K) (h : K a w) : W P (.exit id) N X R a w := by
  refine wp_exit ?_
  simp only [Qof, hX]
  exact h
theorem W_if {n : NN} {F : Fs} {c : Operand} {x y : Code} {b : Bool} (hF : Fr n F a) (hc : ev F c = some (.bool b)) (ht : b = true → W P x N X R a w) (hf : b = false → W P y N X R a w) :
    W P (.cond c x y) N X R a w := wp_cond_split (hF.eval hc) ht hf
theorem W_ifT {n : NN} {F : Fs} {c : Operand} {x y : Code} (hF : Fr n F a) (hc : ev F c = some (.bool true)) (h : W P x N X R a w) : W P (.cond c x y) N X R a w := wp_cond_true (hF.eval hc) h
theorem W_ifF {n : NN} {F : Fs} {c : Operand} {x y : Code} (hF : Fr n F a) (hc : ev F c = some (.bool false)) (h : W P y N X R a w) : W P (.cond c x y) N X R a w := wp_cond_false (hF.eval hc) h
theorem W_loop {c : Code} (I : Nat → Kont) (m : Nat) (h0 : I m a w)
    (round : ∀ m a w, I m a w → W P c (fun a' w' => ∃ m', m' < m ∧ I m' a' w') X R a w) : W P (.loop c) N X R a w := by
  intro b k cs
  have key : ∀ m a w, I m a w → ∃ e a' w', Qof N X R e a' w' ∧ Arrives P (lone (b.at a (.code c :: .inLoop c :: k)) cs w) b k cs e a' w' := by
    intro m
    induction m using Nat.strongRecOn with
    | _ m ih =>
      intro a w hI
      obtain ⟨e, a₁, w₁, hq, harr⟩ := round m a w hI b (.inLoop c :: k) cs
      cases e with
      | normal =>
        obtain ⟨m', hm, hI'⟩ := hq
        obtain ⟨e₂, a₂, w₂, hq₂, harr₂⟩ := ih m' hm a₁ w₁ hI'
        exact ⟨e₂, a₂, w₂, hq₂, .of_steps (Steps.trans harr (.one step_inLoop)) harr₂⟩
      | exit id => exact ⟨.exit id, a₁, w₁, hq, .pass (x := .inLoop c) rfl (fun _ _ => .inl (by simp)) harr⟩
      | goto l => exact hq.elim
      | ret => exact ⟨.ret, a₁, w₁, hq, .pass (x := .inLoop c) rfl (fun _ _ => .inl (by simp)) harr⟩
      | panic ch => exact hq.elim
      | outgrown => exact hq.elim
  obtain ⟨e, a', w', hq, harr⟩ := key m a w h0
  exact ⟨e, a', w', hq, .of_steps (.one step_loop) harr⟩
theorem W_reg {id : Nat} {ops : Array Oper} {l : List Oper} (hl : ops.toList = l) (h : ∀ K : Kont, (∀ a w, N a w → K a w) → WL P ops K l a w) : W P (.region id ops false) N X R a w :=
  wp_mono (wp_region_list (by rw [hl]; exact h N (fun _ _ h => h))) fun e a w hq => by
    cases e with
    | exit i => simp [Qof, lookX] at hq
    | normal => exact hq
    | ret => exact hq.elim
    | goto l => exact hq.elim
    | panic c => exact hq.elim
    | outgrown => exact hq.elim
theorem W_sr {id : Nat} {ops : Array Oper} {l : List Oper} {y : Code} (hl : ops.toList = l) (h : ∀ K : Kont, (∀ a w, W P y N X R a w → K a w) → WL P ops K l a w) :
    W P (.seq (.region id ops false) y) N X R a w := W_seq (W_reg hl h)
variable {ops : Array Oper} {K : Kont} {rest : List Oper} {n : NN} {F : Fs} {op : Op} {T : TypeId} {pp : String} {af : Array Edge} {v : Value} {d : Nat}
theorem WL_nil (h : K a w) : WL P ops K [] a w := h
theorem sv (hF : Fr n F a) (hv : Val P op T F w v) (hd : Nat.blt d n.n = true) (k : ∀ a, Fr n ((d, v) :: F) a → WL P ops K rest a w) :
    WL P ops K (⟨some d, op, T, pp, af, none⟩ :: rest) a w := by
  unfold WL wpList
  rw [if_pos (by simp [Region.wanted])]
  refine .inl ?_
  unfold Oper.wp
  rw [hv a.eval hF.reads]
  exact k _ (hF.put hd)
def nth {α : Type} : List α → Nat → Option α
  | [], _ => none
  | x :: _, 0 => some x
  | _ :: r, k + 1 => nth r k
theorem nth_eq {α : Type} : ∀ (l : List α) (i : Nat), nth l i = l[i]?
  | [], _ => by simp [nth]
  | x :: r, 0 => by simp [nth]
  | x :: r, k + 1 => by simp [nth, nth_eq r k]
def yl (ops : List Oper) (F : Fs) (j : Nat) : Option Bool :=
  match nth ops j with
  | some o => match o.dst with
    | some d => match look F d with
      | some (.bool b) => some b
      | _ => none
    | none => none
  | none => none
theorem yl_ok {j : Nat} {b : Bool} (hF : Fr n F a) (h : yl ops.toList F j = some b) : yielded ops a.tmps j = some b := by
  unfold yl at h
  rw [nth_eq] at h
  unfold yielded
  rw [← Array.getElem?_toList]
  split at h <;> try cases h
  rename_i o ho
  split at h <;> try cases h
  rename_i d hd
  split at h <;> try cases h
  rename_i b' hb
  simp [ho, hd, hF.val d _ hb]
theorem svg {j : Nat} {b : Bool} (hF : Fr n F a) (hy : yl ops.toList F j = some b) (k : WL P ops K (⟨some d, op, T, pp, af, none⟩ :: rest) a w) :
    WL P ops K (⟨some d, op, T, pp, af, some (j, b)⟩ :: rest) a w := by
  unfold WL wpList at k ⊢
  rw [if_pos (by simp [Region.wanted])] at k
  rw [if_pos (by simp [Region.wanted, yl_ok hF hy])]
  exact k
theorem svn {j : Nat} {b b' : Bool} (hF : Fr n F a) (hy : yl ops.toList F j = some b') (hb : (b' == b) = false) (hd : Nat.blt d n.n = true) (k : ∀ a, Fr n ((d, undef) :: F) a → WL P ops K rest a w) :
    WL P ops K (⟨some d, op, T, pp, af, some (j, b)⟩ :: rest) a w := by
  unfold WL wpList
  rw [if_neg (by
    simp only [Region.wanted, yl_ok hF hy]
    intro h
    have : (b' == b) = true := by simpa using h
    rw [hb] at this; cases this)]
  exact k _ (hF.put hd)
theorem sb {b : Bool} (hF : Fr n F a) (hv : Val P op T F w (.bool b)) (hd : Nat.blt d n.n = true) (kt : b = true → ∀ a, Fr n ((d, .bool true) :: F) a → WL P ops K rest a w)
    (kf : b = false → ∀ a, Fr n ((d, .bool false) :: F) a → WL P ops K rest a w) : WL P ops K (⟨some d, op, T, pp, af, none⟩ :: rest) a w := by
  cases b with
  | true => exact sv hF hv hd (kt rfl)
  | false => exact sv hF hv hd (kf rfl)
theorem Val.as {u : Value} (h : Val P op T F w v) (e : v = u) : Val P op T F w u := e ▸ h
def Ent (P : Program) (f : FuncId) : Prop := ∀ args w, (callFunc f args).run P w = .ok (.enter f args) w
theorem ent {f : FuncId} {fn : Func} (hf : P.funcs[f]? = some fn) (hn : (fn.name == "runtime.NumGoroutine") = false) (hb : fn.body.isNone = false) : Ent P f := by
  intro args w
  have h1 : fn.name ≠ "runtime.NumGoroutine" := by simpa using hn
  have h2 : ¬ fn.body = none := by intro h; simp [h] at hb
  simp [callFunc, hf, h1, h2]
def Ret (P : Program) (f : FuncId) (vs : List Value) (w : World) (Q : Value → World → Prop) : Prop :=
  Calls P f vs.toArray w fun e w' => ∃ v, e = .returned v ∧ Q v w'
theorem Ret.mono {f : FuncId} {vs : List Value} {Q Q' : Value → World → Prop} (h : Ret P f vs w Q) (hq : ∀ v w', Q v w' → Q' v w') : Ret P f vs w Q' :=
  Calls.mono h fun e w' ⟨v, he, hv⟩ => ⟨v, he, hq v w' hv⟩
theorem sc {fo : Operand} {f : FuncId} {fst cap vs all : List Value} {as : List Operand} {ats : Array TypeId} {Q : Value → World → Prop}
    (hF : Fr n F a) (hf : ev F fo = some (.func (.func f) fst.toArray cap.toArray)) (ha : evs F as = some vs) (hall : fst ++ vs ++ cap = all) (he : Ent P f) (hd : Nat.blt d n.n = true)
    (hc : Ret P f all w Q) (k : ∀ v w' a, Q v w' → Fr n ((d, v) :: F) a → WL P ops K rest a w') :
    WL P ops K (⟨some d, .call ⟨.value fo, as.toArray, ats⟩, T, pp, af, none⟩ :: rest) a w := by
  unfold WL wpList
  rw [if_pos (by simp [Region.wanted])]
  refine .inl ?_
  unfold Oper.wp
  have h1 : a.eval fo = .func (.func f) fst.toArray cap.toArray := hF.eval hf
  have h2 : as.map a.eval = vs := hF.reads.list _ _ ha
  have hrun : (execOp a.eval ⟨some d, .call ⟨.value fo, as.toArray, ats⟩, T, pp, af, none⟩).run P w = .ok (.enter f all.toArray) w := by
    simp [execOp, resolve, h1, h2, Deferred.ofValue, invoke, he _ w, ← hall]
  rw [hrun, Oper.upon_enter]
  exact Calls.mono hc fun e w' ⟨v, he, hv⟩ => by subst he; exact k v w' _ hv (hF.put hd)
def idx : List Value → Nat → List (Nat × Value)
  | [], _ => []
  | v :: r, i => (i, v) :: idx r (i + 1)
theorem look_idx : ∀ (vs : List Value) (j i : Nat) (v : Value), look (idx vs j) i = some v → ∃ k, i = j + k ∧ vs[k]? = some v
  | [], _, _, _, h => by simp [idx, look] at h
  | u :: r, j, i, v, h => by
    simp only [idx] at h
    rw [look_cons] at h
    by_cases e : j = i
    · subst e; rw [if_pos rfl] at h; exact ⟨0, by simp, by simpa using h⟩
    · rw [if_neg e] at h
      obtain ⟨k, hk, hv⟩ := look_idx r (j + 1) i v h
      exact ⟨k + 1, by omega, by simpa using hv⟩
theorem enterG {f : FuncId} {fn : Func} {c : Code} {vs : List Value} {Q : Value → World → Prop} {n : NN} {F : Fs} (E : Kont) (hf : P.funcs[f]? = some fn) (hb : fn.body = some c) (hn : n = ⟨fn.ntmps, []⟩) (hle : Nat.ble vs.length n.n = true) (hF : F = idx vs 0)
    (hE : ∀ a w, E a w → a.defers = [] ∧ ∃ v, (results fn a.tmps).run P w = .ok v w ∧ Q v w) (h : ∀ a, Fr n F a → W P c E [] E a w) : Ret P f vs w Q := by
  refine calls_of_wp hf hb (wp_mono (h _ ⟨by have := Nat.le_of_ble_eq_true hle; subst hn; simp at this ⊢; omega, by subst hn; rfl, fun i v hv => ?_⟩) ?_)
  · rw [hF] at hv
    obtain ⟨k, hk, h1⟩ := look_idx vs 0 i v hv
    rw [show i = k from by omega]
    have h2 : k < vs.length := (List.getElem?_eq_some_iff.1 h1).1
    rw [Array.getElem?_append_left (by simpa using h2)]
    simpa using h1
  · intro e a w hq
    have key : ∀ a w, E a w → a.defers = [] ∧ ∃ v, (results fn a.tmps).run P w = .ok v w ∧ ∃ u, Ending.returned v = .returned u ∧ Q u w := fun a w he =>
      let ⟨h1, v, h2, h3⟩ := hE a w he; ⟨h1, v, h2, v, rfl, h3⟩
    cases e with
    | normal => exact key a w hq
    | ret => exact key a w hq
    | exit i => simp [Qof, lookX] at hq
    | goto l => exact hq.elim
    | panic c => exact hq.elim
    | outgrown => exact hq.elim
theorem enter {f : FuncId} {fn : Func} {c : Code} {vs : List Value} {Q : Value → World → Prop} (n : NN) (F : Fs) (t : Nat) (hf : P.funcs[f]? = some fn) (hb : fn.body = some c) (hn : n = ⟨fn.ntmps, []⟩) (hr : fn.results = #[.tmp t]) (hle : Nat.ble vs.length n.n = true) (hF : F = idx vs 0)
    (h : ∀ a, Fr n F a → W P c (fun a w => ∃ F' v, Fr n F' a ∧ look F' t = some v ∧ Q v w) [] (fun a w => ∃ F' v, Fr n F' a ∧ look F' t = some v ∧ Q v w) a w) : Ret P f vs w Q := by
  refine enterG _ hf hb hn hle hF (fun a w ⟨F', v, hF', hl, hq⟩ => ⟨by rw [hF'.defers, hn]; rfl, v, ?_, hq⟩) h
  have hv := hF'.val t v hl
  simp [results, hr, Array.getD_eq_getD_getElem?, hv]
theorem enter0 {f : FuncId} {fn : Func} {c : Code} {vs : List Value} {Q : Value → World → Prop} (n : NN) (F : Fs) (hf : P.funcs[f]? = some fn) (hb : fn.body = some c) (hn : n = ⟨fn.ntmps, []⟩) (hr : fn.results = #[]) (hle : Nat.ble vs.length n.n = true) (hF : F = idx vs 0)
    (h : ∀ a, Fr n F a → W P c (fun a w => ∃ F', Fr n F' a ∧ Q (.tuple #[]) w) [] (fun a w => ∃ F', Fr n F' a ∧ Q (.tuple #[]) w) a w) : Ret P f vs w Q := by
  refine enterG _ hf hb hn hle hF (fun a w ⟨F', hF', hq⟩ => ⟨by rw [hF'.defers, hn]; rfl, _, ?_, hq⟩) h
  simp [results, hr]
theorem enter2 {f : FuncId} {fn : Func} {c : Code} {vs : List Value} {Q : Value → World → Prop} (n : NN) (F : Fs) (t s : Nat) (hf : P.funcs[f]? = some fn) (hb : fn.body = some c) (hn : n = ⟨fn.ntmps, []⟩) (hr : fn.results = #[.tmp t, .tmp s]) (hle : Nat.ble vs.length n.n = true) (hF : F = idx vs 0)
    (h : ∀ a, Fr n F a → W P c (fun a w => ∃ F' v u, Fr n F' a ∧ look F' t = some v ∧ look F' s = some u ∧ Q (.tuple #[v, u]) w) [] (fun a w => ∃ F' v u, Fr n F' a ∧ look F' t = some v ∧ look F' s = some u ∧ Q (.tuple #[v, u]) w) a w) : Ret P f vs w Q := by
  refine enterG _ hf hb hn hle hF (fun a w ⟨F', v, u, hF', hl, hm, hq⟩ => ⟨by rw [hF'.defers, hn]; rfl, _, ?_, hq⟩) h
  have hv := hF'.val t v hl
  have hu := hF'.val s u hm
  simp [results, hr, Array.getD_eq_getD_getElem?, hv, hu]
end
end Go.Gam
namespace Go.Gam
theorem sv2 {P : Program} {ops : Array Oper} {K : Kont} {rest : List Oper} {n : NN} {F : Fs} {a : Act} {w : World} {o1 o2 : Op} {T1 T2 : TypeId} {p1 p2 : String} {f1 f2 : Array Edge} {v1 v2 : Value} {d1 d2 : Nat} (hF : Fr n F a) (h1 : Val P o1 T1 (F) w v1) (h2 : Val P o2 T2 ((d1, v1) :: F) w v2) (e1 : Nat.blt d1 n.n = true) (e2 : Nat.blt d2 n.n = true) (k : ∀ a, Fr n ((d2, v2) :: (d1, v1) :: F) a → WL P ops K rest a w) : WL P ops K (⟨some d1, o1, T1, p1, f1, none⟩ :: ⟨some d2, o2, T2, p2, f2, none⟩ :: rest) a w :=
  sv hF h1 e1 fun _ hF => sv hF h2 e2 k
theorem sv3 {P : Program} {ops : Array Oper} {K : Kont} {rest : List Oper} {n : NN} {F : Fs} {a : Act} {w : World} {o1 o2 o3 : Op} {T1 T2 T3 : TypeId} {p1 p2 p3 : String} {f1 f2 f3 : Array Edge} {v1 v2 v3 : Value} {d1 d2 d3 : Nat} (hF : Fr n F a) (h1 : Val P o1 T1 (F) w v1) (h2 : Val P o2 T2 ((d1, v1) :: F) w v2) (h3 : Val P o3 T3 ((d2, v2) :: (d1, v1) :: F) w v3) (e1 : Nat.blt d1 n.n = true) (e2 : Nat.blt d2 n.n = true) (e3 : Nat.blt d3 n.n = true) (k : ∀ a, Fr n ((d3, v3) :: (d2, v2) :: (d1, v1) :: F) a → WL P ops K rest a w) : WL P ops K (⟨some d1, o1, T1, p1, f1, none⟩ :: ⟨some d2, o2, T2, p2, f2, none⟩ :: ⟨some d3, o3, T3, p3, f3, none⟩ :: rest) a w :=
  sv hF h1 e1 fun _ hF => sv hF h2 e2 fun _ hF => sv hF h3 e3 k
theorem sv4 {P : Program} {ops : Array Oper} {K : Kont} {rest : List Oper} {n : NN} {F : Fs} {a : Act} {w : World} {o1 o2 o3 o4 : Op} {T1 T2 T3 T4 : TypeId} {p1 p2 p3 p4 : String} {f1 f2 f3 f4 : Array Edge} {v1 v2 v3 v4 : Value} {d1 d2 d3 d4 : Nat} (hF : Fr n F a) (h1 : Val P o1 T1 (F) w v1) (h2 : Val P o2 T2 ((d1, v1) :: F) w v2) (h3 : Val P o3 T3 ((d2, v2) :: (d1, v1) :: F) w v3) (h4 : Val P o4 T4 ((d3, v3) :: (d2, v2) :: (d1, v1) :: F) w v4) (e1 : Nat.blt d1 n.n = true) (e2 : Nat.blt d2 n.n = true) (e3 : Nat.blt d3 n.n = true) (e4 : Nat.blt d4 n.n = true) (k : ∀ a, Fr n ((d4, v4) :: (d3, v3) :: (d2, v2) :: (d1, v1) :: F) a → WL P ops K rest a w) : WL P ops K (⟨some d1, o1, T1, p1, f1, none⟩ :: ⟨some d2, o2, T2, p2, f2, none⟩ :: ⟨some d3, o3, T3, p3, f3, none⟩ :: ⟨some d4, o4, T4, p4, f4, none⟩ :: rest) a w :=
  sv hF h1 e1 fun _ hF => sv hF h2 e2 fun _ hF => sv hF h3 e3 fun _ hF => sv hF h4 e4 k
theorem sv5 {P : Program} {ops : Array Oper} {K : Kont} {rest : List Oper} {n : NN} {F : Fs} {a : Act} {w : World} {o1 o2 o3 o4 o5 : Op} {T1 T2 T3 T4 T5 : TypeId} {p1 p2 p3 p4 p5 : String} {f1 f2 f3 f4 f5 : Array Edge} {v1 v2 v3 v4 v5 : Value} {d1 d2 d3 d4 d5 : Nat} (hF : Fr n F a) (h1 : Val P o1 T1 (F) w v1) (h2 : Val P o2 T2 ((d1, v1) :: F) w v2) (h3 : Val P o3 T3 ((d2, v2) :: (d1, v1) :: F) w v3) (h4 : Val P o4 T4 ((d3, v3) :: (d2, v2) :: (d1, v1) :: F) w v4) (h5 : Val P o5 T5 ((d4, v4) :: (d3, v3) :: (d2, v2) :: (d1, v1) :: F) w v5) (e1 : Nat.blt d1 n.n = true) (e2 : Nat.blt d2 n.n = true) (e3 : Nat.blt d3 n.n = true) (e4 : Nat.blt d4 n.n = true) (e5 : Nat.blt d5 n.n = true) (k : ∀ a, Fr n ((d5, v5) :: (d4, v4) :: (d3, v3) :: (d2, v2) :: (d1, v1) :: F) a → WL P ops K rest a w) : WL P ops K (⟨some d1, o1, T1, p1, f1, none⟩ :: ⟨some d2, o2, T2, p2, f2, none⟩ :: ⟨some d3, o3, T3, p3, f3, none⟩ :: ⟨some d4, o4, T4, p4, f4, none⟩ :: ⟨some d5, o5, T5, p5, f5, none⟩ :: rest) a w :=
  sv hF h1 e1 fun _ hF => sv hF h2 e2 fun _ hF => sv hF h3 e3 fun _ hF => sv hF h4 e4 fun _ hF => sv hF h5 e5 k
theorem sv6 {P : Program} {ops : Array Oper} {K : Kont} {rest : List Oper} {n : NN} {F : Fs} {a : Act} {w : World} {o1 o2 o3 o4 o5 o6 : Op} {T1 T2 T3 T4 T5 T6 : TypeId} {p1 p2 p3 p4 p5 p6 : String} {f1 f2 f3 f4 f5 f6 : Array Edge} {v1 v2 v3 v4 v5 v6 : Value} {d1 d2 d3 d4 d5 d6 : Nat} (hF : Fr n F a) (h1 : Val P o1 T1 (F) w v1) (h2 : Val P o2 T2 ((d1, v1) :: F) w v2) (h3 : Val P o3 T3 ((d2, v2) :: (d1, v1) :: F) w v3) (h4 : Val P o4 T4 ((d3, v3) :: (d2, v2) :: (d1, v1) :: F) w v4) (h5 : Val P o5 T5 ((d4, v4) :: (d3, v3) :: (d2, v2) :: (d1, v1) :: F) w v5) (h6 : Val P o6 T6 ((d5, v5) :: (d4, v4) :: (d3, v3) :: (d2, v2) :: (d1, v1) :: F) w v6) (e1 : Nat.blt d1 n.n = true) (e2 : Nat.blt d2 n.n = true) (e3 : Nat.blt d3 n.n = true) (e4 : Nat.blt d4 n.n = true) (e5 : Nat.blt d5 n.n = true) (e6 : Nat.blt d6 n.n = true) (k : ∀ a, Fr n ((d6, v6) :: (d5, v5) :: (d4, v4) :: (d3, v3) :: (d2, v2) :: (d1, v1) :: F) a → WL P ops K rest a w) : WL P ops K (⟨some d1, o1, T1, p1, f1, none⟩ :: ⟨some d2, o2, T2, p2, f2, none⟩ :: ⟨some d3, o3, T3, p3, f3, none⟩ :: ⟨some d4, o4, T4, p4, f4, none⟩ :: ⟨some d5, o5, T5, p5, f5, none⟩ :: ⟨some d6, o6, T6, p6, f6, none⟩ :: rest) a w :=
  sv hF h1 e1 fun _ hF => sv hF h2 e2 fun _ hF => sv hF h3 e3 fun _ hF => sv hF h4 e4 fun _ hF => sv hF h5 e5 fun _ hF => sv hF h6 e6 k
theorem svn2 {P : Program} {ops : Array Oper} {K : Kont} {rest : List Oper} {n : NN} {F : Fs} {a : Act} {w : World} {o1 o2 : Op} {T1 T2 : TypeId} {p1 p2 : String} {f1 f2 : Array Edge} {d1 d2 j1 j2 : Nat} {b1 b2 c1 c2 : Bool} (hF : Fr n F a) (y1 : yl ops.toList (F) j1 = some c1) (x1 : (c1 == b1) = false) (e1 : Nat.blt d1 n.n = true) (y2 : yl ops.toList ((d1, undef) :: F) j2 = some c2) (x2 : (c2 == b2) = false) (e2 : Nat.blt d2 n.n = true) (k : ∀ a, Fr n ((d2, undef) :: (d1, undef) :: F) a → WL P ops K rest a w) : WL P ops K (⟨some d1, o1, T1, p1, f1, some (j1, b1)⟩ :: ⟨some d2, o2, T2, p2, f2, some (j2, b2)⟩ :: rest) a w :=
  svn hF y1 x1 e1 fun _ hF => svn hF y2 x2 e2 k
theorem svn3 {P : Program} {ops : Array Oper} {K : Kont} {rest : List Oper} {n : NN} {F : Fs} {a : Act} {w : World} {o1 o2 o3 : Op} {T1 T2 T3 : TypeId} {p1 p2 p3 : String} {f1 f2 f3 : Array Edge} {d1 d2 d3 j1 j2 j3 : Nat} {b1 b2 b3 c1 c2 c3 : Bool} (hF : Fr n F a) (y1 : yl ops.toList (F) j1 = some c1) (x1 : (c1 == b1) = false) (e1 : Nat.blt d1 n.n = true) (y2 : yl ops.toList ((d1, undef) :: F) j2 = some c2) (x2 : (c2 == b2) = false) (e2 : Nat.blt d2 n.n = true) (y3 : yl ops.toList ((d2, undef) :: (d1, undef) :: F) j3 = some c3) (x3 : (c3 == b3) = false) (e3 : Nat.blt d3 n.n = true) (k : ∀ a, Fr n ((d3, undef) :: (d2, undef) :: (d1, undef) :: F) a → WL P ops K rest a w) : WL P ops K (⟨some d1, o1, T1, p1, f1, some (j1, b1)⟩ :: ⟨some d2, o2, T2, p2, f2, some (j2, b2)⟩ :: ⟨some d3, o3, T3, p3, f3, some (j3, b3)⟩ :: rest) a w :=
  svn hF y1 x1 e1 fun _ hF => svn hF y2 x2 e2 fun _ hF => svn hF y3 x3 e3 k
theorem svn4 {P : Program} {ops : Array Oper} {K : Kont} {rest : List Oper} {n : NN} {F : Fs} {a : Act} {w : World} {o1 o2 o3 o4 : Op} {T1 T2 T3 T4 : TypeId} {p1 p2 p3 p4 : String} {f1 f2 f3 f4 : Array Edge} {d1 d2 d3 d4 j1 j2 j3 j4 : Nat} {b1 b2 b3 b4 c1 c2 c3 c4 : Bool} (hF : Fr n F a) (y1 : yl ops.toList (F) j1 = some c1) (x1 : (c1 == b1) = false) (e1 : Nat.blt d1 n.n = true) (y2 : yl ops.toList ((d1, undef) :: F) j2 = some c2) (x2 : (c2 == b2) = false) (e2 : Nat.blt d2 n.n = true) (y3 : yl ops.toList ((d2, undef) :: (d1, undef) :: F) j3 = some c3) (x3 : (c3 == b3) = false) (e3 : Nat.blt d3 n.n = true) (y4 : yl ops.toList ((d3, undef) :: (d2, undef) :: (d1, undef) :: F) j4 = some c4) (x4 : (c4 == b4) = false) (e4 : Nat.blt d4 n.n = true) (k : ∀ a, Fr n ((d4, undef) :: (d3, undef) :: (d2, undef) :: (d1, undef) :: F) a → WL P ops K rest a w) : WL P ops K (⟨some d1, o1, T1, p1, f1, some (j1, b1)⟩ :: ⟨some d2, o2, T2, p2, f2, some (j2, b2)⟩ :: ⟨some d3, o3, T3, p3, f3, some (j3, b3)⟩ :: ⟨some d4, o4, T4, p4, f4, some (j4, b4)⟩ :: rest) a w :=
  svn hF y1 x1 e1 fun _ hF => svn hF y2 x2 e2 fun _ hF => svn hF y3 x3 e3 fun _ hF => svn hF y4 x4 e4 k
theorem svn5 {P : Program} {ops : Array Oper} {K : Kont} {rest : List Oper} {n : NN} {F : Fs} {a : Act} {w : World} {o1 o2 o3 o4 o5 : Op} {T1 T2 T3 T4 T5 : TypeId} {p1 p2 p3 p4 p5 : String} {f1 f2 f3 f4 f5 : Array Edge} {d1 d2 d3 d4 d5 j1 j2 j3 j4 j5 : Nat} {b1 b2 b3 b4 b5 c1 c2 c3 c4 c5 : Bool} (hF : Fr n F a) (y1 : yl ops.toList (F) j1 = some c1) (x1 : (c1 == b1) = false) (e1 : Nat.blt d1 n.n = true) (y2 : yl ops.toList ((d1, undef) :: F) j2 = some c2) (x2 : (c2 == b2) = false) (e2 : Nat.blt d2 n.n = true) (y3 : yl ops.toList ((d2, undef) :: (d1, undef) :: F) j3 = some c3) (x3 : (c3 == b3) = false) (e3 : Nat.blt d3 n.n = true) (y4 : yl ops.toList ((d3, undef) :: (d2, undef) :: (d1, undef) :: F) j4 = some c4) (x4 : (c4 == b4) = false) (e4 : Nat.blt d4 n.n = true) (y5 : yl ops.toList ((d4, undef) :: (d3, undef) :: (d2, undef) :: (d1, undef) :: F) j5 = some c5) (x5 : (c5 == b5) = false) (e5 : Nat.blt d5 n.n = true) (k : ∀ a, Fr n ((d5, undef) :: (d4, undef) :: (d3, undef) :: (d2, undef) :: (d1, undef) :: F) a → WL P ops K rest a w) : WL P ops K (⟨some d1, o1, T1, p1, f1, some (j1, b1)⟩ :: ⟨some d2, o2, T2, p2, f2, some (j2, b2)⟩ :: ⟨some d3, o3, T3, p3, f3, some (j3, b3)⟩ :: ⟨some d4, o4, T4, p4, f4, some (j4, b4)⟩ :: ⟨some d5, o5, T5, p5, f5, some (j5, b5)⟩ :: rest) a w :=
  svn hF y1 x1 e1 fun _ hF => svn hF y2 x2 e2 fun _ hF => svn hF y3 x3 e3 fun _ hF => svn hF y4 x4 e4 fun _ hF => svn hF y5 x5 e5 k
theorem wn {P : Program} {ops : Array Oper} {K N : Kont} {a : Act} {w : World} (hK : ∀ a w, N a w → K a w) (h : N a w) : WL P ops K [] a w := WL_nil (hK _ _ h)
theorem svw {P : Program} {ops : Array Oper} {K : Kont} {N : Kont} {n : NN} {F : Fs} {a : Act} {w : World} {o1 : Op} {T1 : TypeId} {p1 : String} {f1 : Array Edge} {v1 : Value} {d1 : Nat} (hK : ∀ a w, N a w → K a w) (hF : Fr n F a) (h1 : Val P o1 T1 (F) w v1) (e1 : Nat.blt d1 n.n = true) (k : ∀ a, Fr n ((d1, v1) :: F) a → N a w) : WL P ops K (⟨some d1, o1, T1, p1, f1, none⟩ :: []) a w :=
  sv hF h1 e1 fun a hF => wn hK (k a hF)
theorem sv2w {P : Program} {ops : Array Oper} {K : Kont} {N : Kont} {n : NN} {F : Fs} {a : Act} {w : World} {o1 o2 : Op} {T1 T2 : TypeId} {p1 p2 : String} {f1 f2 : Array Edge} {v1 v2 : Value} {d1 d2 : Nat} (hK : ∀ a w, N a w → K a w) (hF : Fr n F a) (h1 : Val P o1 T1 (F) w v1) (h2 : Val P o2 T2 ((d1, v1) :: F) w v2) (e1 : Nat.blt d1 n.n = true) (e2 : Nat.blt d2 n.n = true) (k : ∀ a, Fr n ((d2, v2) :: (d1, v1) :: F) a → N a w) : WL P ops K (⟨some d1, o1, T1, p1, f1, none⟩ :: ⟨some d2, o2, T2, p2, f2, none⟩ :: []) a w :=
  sv2 hF h1 h2 e1 e2 fun a hF => wn hK (k a hF)
theorem sv3w {P : Program} {ops : Array Oper} {K : Kont} {N : Kont} {n : NN} {F : Fs} {a : Act} {w : World} {o1 o2 o3 : Op} {T1 T2 T3 : TypeId} {p1 p2 p3 : String} {f1 f2 f3 : Array Edge} {v1 v2 v3 : Value} {d1 d2 d3 : Nat} (hK : ∀ a w, N a w → K a w) (hF : Fr n F a) (h1 : Val P o1 T1 (F) w v1) (h2 : Val P o2 T2 ((d1, v1) :: F) w v2) (h3 : Val P o3 T3 ((d2, v2) :: (d1, v1) :: F) w v3) (e1 : Nat.blt d1 n.n = true) (e2 : Nat.blt d2 n.n = true) (e3 : Nat.blt d3 n.n = true) (k : ∀ a, Fr n ((d3, v3) :: (d2, v2) :: (d1, v1) :: F) a → N a w) : WL P ops K (⟨some d1, o1, T1, p1, f1, none⟩ :: ⟨some d2, o2, T2, p2, f2, none⟩ :: ⟨some d3, o3, T3, p3, f3, none⟩ :: []) a w :=
  sv3 hF h1 h2 h3 e1 e2 e3 fun a hF => wn hK (k a hF)
theorem sv4w {P : Program} {ops : Array Oper} {K : Kont} {N : Kont} {n : NN} {F : Fs} {a : Act} {w : World} {o1 o2 o3 o4 : Op} {T1 T2 T3 T4 : TypeId} {p1 p2 p3 p4 : String} {f1 f2 f3 f4 : Array Edge} {v1 v2 v3 v4 : Value} {d1 d2 d3 d4 : Nat} (hK : ∀ a w, N a w → K a w) (hF : Fr n F a) (h1 : Val P o1 T1 (F) w v1) (h2 : Val P o2 T2 ((d1, v1) :: F) w v2) (h3 : Val P o3 T3 ((d2, v2) :: (d1, v1) :: F) w v3) (h4 : Val P o4 T4 ((d3, v3) :: (d2, v2) :: (d1, v1) :: F) w v4) (e1 : Nat.blt d1 n.n = true) (e2 : Nat.blt d2 n.n = true) (e3 : Nat.blt d3 n.n = true) (e4 : Nat.blt d4 n.n = true) (k : ∀ a, Fr n ((d4, v4) :: (d3, v3) :: (d2, v2) :: (d1, v1) :: F) a → N a w) : WL P ops K (⟨some d1, o1, T1, p1, f1, none⟩ :: ⟨some d2, o2, T2, p2, f2, none⟩ :: ⟨some d3, o3, T3, p3, f3, none⟩ :: ⟨some d4, o4, T4, p4, f4, none⟩ :: []) a w :=
  sv4 hF h1 h2 h3 h4 e1 e2 e3 e4 fun a hF => wn hK (k a hF)
theorem sv5w {P : Program} {ops : Array Oper} {K : Kont} {N : Kont} {n : NN} {F : Fs} {a : Act} {w : World} {o1 o2 o3 o4 o5 : Op} {T1 T2 T3 T4 T5 : TypeId} {p1 p2 p3 p4 p5 : String} {f1 f2 f3 f4 f5 : Array Edge} {v1 v2 v3 v4 v5 : Value} {d1 d2 d3 d4 d5 : Nat} (hK : ∀ a w, N a w → K a w) (hF : Fr n F a) (h1 : Val P o1 T1 (F) w v1) (h2 : Val P o2 T2 ((d1, v1) :: F) w v2) (h3 : Val P o3 T3 ((d2, v2) :: (d1, v1) :: F) w v3) (h4 : Val P o4 T4 ((d3, v3) :: (d2, v2) :: (d1, v1) :: F) w v4) (h5 : Val P o5 T5 ((d4, v4) :: (d3, v3) :: (d2, v2) :: (d1, v1) :: F) w v5) (e1 : Nat.blt d1 n.n = true) (e2 : Nat.blt d2 n.n = true) (e3 : Nat.blt d3 n.n = true) (e4 : Nat.blt d4 n.n = true) (e5 : Nat.blt d5 n.n = true) (k : ∀ a, Fr n ((d5, v5) :: (d4, v4) :: (d3, v3) :: (d2, v2) :: (d1, v1) :: F) a → N a w) : WL P ops K (⟨some d1, o1, T1, p1, f1, none⟩ :: ⟨some d2, o2, T2, p2, f2, none⟩ :: ⟨some d3, o3, T3, p3, f3, none⟩ :: ⟨some d4, o4, T4, p4, f4, none⟩ :: ⟨some d5, o5, T5, p5, f5, none⟩ :: []) a w :=
  sv5 hF h1 h2 h3 h4 h5 e1 e2 e3 e4 e5 fun a hF => wn hK (k a hF)
theorem sv6w {P : Program} {ops : Array Oper} {K : Kont} {N : Kont} {n : NN} {F : Fs} {a : Act} {w : World} {o1 o2 o3 o4 o5 o6 : Op} {T1 T2 T3 T4 T5 T6 : TypeId} {p1 p2 p3 p4 p5 p6 : String} {f1 f2 f3 f4 f5 f6 : Array Edge} {v1 v2 v3 v4 v5 v6 : Value} {d1 d2 d3 d4 d5 d6 : Nat} (hK : ∀ a w, N a w → K a w) (hF : Fr n F a) (h1 : Val P o1 T1 (F) w v1) (h2 : Val P o2 T2 ((d1, v1) :: F) w v2) (h3 : Val P o3 T3 ((d2, v2) :: (d1, v1) :: F) w v3) (h4 : Val P o4 T4 ((d3, v3) :: (d2, v2) :: (d1, v1) :: F) w v4) (h5 : Val P o5 T5 ((d4, v4) :: (d3, v3) :: (d2, v2) :: (d1, v1) :: F) w v5) (h6 : Val P o6 T6 ((d5, v5) :: (d4, v4) :: (d3, v3) :: (d2, v2) :: (d1, v1) :: F) w v6) (e1 : Nat.blt d1 n.n = true) (e2 : Nat.blt d2 n.n = true) (e3 : Nat.blt d3 n.n = true) (e4 : Nat.blt d4 n.n = true) (e5 : Nat.blt d5 n.n = true) (e6 : Nat.blt d6 n.n = true) (k : ∀ a, Fr n ((d6, v6) :: (d5, v5) :: (d4, v4) :: (d3, v3) :: (d2, v2) :: (d1, v1) :: F) a → N a w) : WL P ops K (⟨some d1, o1, T1, p1, f1, none⟩ :: ⟨some d2, o2, T2, p2, f2, none⟩ :: ⟨some d3, o3, T3, p3, f3, none⟩ :: ⟨some d4, o4, T4, p4, f4, none⟩ :: ⟨some d5, o5, T5, p5, f5, none⟩ :: ⟨some d6, o6, T6, p6, f6, none⟩ :: []) a w :=
  sv6 hF h1 h2 h3 h4 h5 h6 e1 e2 e3 e4 e5 e6 fun a hF => wn hK (k a hF)
theorem dcl : (∀ (p : Prop) [Decidable p], (decide p = true) = p) ∧ (∀ (p : Prop) [Decidable p], (decide p = false) = ¬ p) ∧ (∀ b : Bool, ((!b) = true) = (b = false)) ∧ (∀ b : Bool, ((!b) = false) = (b = true)) ∧ ((!true) = false) ∧ ((!false) = true) :=
  ⟨fun p _ => by simp, fun p _ => by simp, fun b => by simp, fun b => by simp, rfl, rfl⟩
end Go.Gam
/- What each operation yields that leaves the world as it is: one lemma a kind of operation. No program in sight. -/
namespace Go.Gam
open Go
section
variable {P : Program} {T : TypeId} {F : Fs} {w : World} {x y c : Operand} {v u : Value}
theorem v_move (hx : ev F x = some v) : Val P (.move x) T F w v := fun ρ h d p af g => by simp [execOp, h x v hx]
theorem v_assign (hx : ev F x = some v) : Val P (.assign x) T F w v := fun ρ h d p af g => by simp [execOp, h x v hx]
theorem v_pickT (hc : ev F c = some (.bool true)) (hx : ev F x = some v) : Val P (.pick c x y) T F w v :=
 fun ρ h d p af g => by simp [execOp, h c _ hc, h x v hx, asBool]
theorem v_pickF (hc : ev F c = some (.bool false)) (hy : ev F y = some v) : Val P (.pick c x y) T F w v :=
 fun ρ h d p af g => by simp [execOp, h c _ hc, h y v hy, asBool]
theorem v_not {b : Bool} {t : TypeId} (hx : ev F x = some (.bool b)) : Val P (.unOp .not t x) T F w (.bool (!b)) :=
 fun ρ h d p af g => by simp [execOp, h x _ hx, Op.unary]
section ints
variable {k : IntKind} {X Y : Int} {t s : TypeId}
theorem v_add (hx : ev F x = some (.int k X)) (hy : ev F y = some (.int k Y)) : Val P (.binOp .add t x y s) T F w (.int k (k.wrap (X + Y))) :=
 fun ρ h d p af g => by simp [execOp, h x _ hx, h y _ hy, eqGuard, binOp, Op.intArith]
theorem v_sub (hx : ev F x = some (.int k X)) (hy : ev F y = some (.int k Y)) : Val P (.binOp .sub t x y s) T F w (.int k (k.wrap (X - Y))) :=
 fun ρ h d p af g => by simp [execOp, h x _ hx, h y _ hy, eqGuard, binOp, Op.intArith]
theorem v_mul (hx : ev F x = some (.int k X)) (hy : ev F y = some (.int k Y)) : Val P (.binOp .mul t x y s) T F w (.int k (k.wrap (X * Y))) :=
 fun ρ h d p af g => by simp [execOp, h x _ hx, h y _ hy, eqGuard, binOp, Op.intArith]
theorem v_quo (hx : ev F x = some (.int k X)) (hy : ev F y = some (.int k Y)) (h0 : Y ≠ 0) : Val P (.binOp .quo t x y s) T F w (.int k (k.wrap (X.tdiv Y))) :=
 fun ρ h d p af g => by simp [execOp, h x _ hx, h y _ hy, eqGuard, binOp, Op.intDiv, h0]
theorem v_rem (hx : ev F x = some (.int k X)) (hy : ev F y = some (.int k Y)) (h0 : Y ≠ 0) : Val P (.binOp .rem t x y s) T F w (.int k (X.tmod Y)) :=
 fun ρ h d p af g => by simp [execOp, h x _ hx, h y _ hy, eqGuard, binOp, Op.intDiv, h0]
theorem v_lss (hx : ev F x = some (.int k X)) (hy : ev F y = some (.int k Y)) : Val P (.binOp .lss t x y s) T F w (.bool (decide (X < Y))) :=
 fun ρ h d p af g => by simp [execOp, h x _ hx, h y _ hy, eqGuard, binOp, Op.intCmp]
theorem v_leq (hx : ev F x = some (.int k X)) (hy : ev F y = some (.int k Y)) : Val P (.binOp .leq t x y s) T F w (.bool (decide (X ≤ Y))) :=
 fun ρ h d p af g => by simp [execOp, h x _ hx, h y _ hy, eqGuard, binOp, Op.intCmp]
theorem v_gtr (hx : ev F x = some (.int k X)) (hy : ev F y = some (.int k Y)) : Val P (.binOp .gtr t x y s) T F w (.bool (decide (Y < X))) :=
 fun ρ h d p af g => by simp [execOp, h x _ hx, h y _ hy, eqGuard, binOp, Op.intCmp]
theorem v_geq (hx : ev F x = some (.int k X)) (hy : ev F y = some (.int k Y)) : Val P (.binOp .geq t x y s) T F w (.bool (decide (Y ≤ X))) :=
 fun ρ h d p af g => by simp [execOp, h x _ hx, h y _ hy, eqGuard, binOp, Op.intCmp]
theorem v_eql (hx : ev F x = some (.int k X)) (hy : ev F y = some (.int k Y)) : Val P (.binOp .eql t x y s) T F w (.bool (decide (X = Y))) :=
 fun ρ h d p af g => by simp [execOp, h x _ hx, h y _ hy, eqGuard, binOp, Op.intCmp]; rfl
theorem v_neq (hx : ev F x = some (.int k X)) (hy : ev F y = some (.int k Y)) : Val P (.binOp .neq t x y s) T F w (.bool (decide (X ≠ Y))) :=
 fun ρ h d p af g => by simp [execOp, h x _ hx, h y _ hy, eqGuard, binOp, Op.intCmp, bne]; rfl
theorem wrap_i64 (n : Int) (h : -9223372036854775808 ≤ n ∧ n ≤ 9223372036854775807) : IntKind.i64.wrap n = n := by
 have e : ∀ m : Int, (IntKind.i64.signed && decide (m ≥ (2 : Int) ^ (IntKind.i64.bits - 1))) = decide (9223372036854775808 ≤ m) := fun m => rfl
 have e2 : (2 : Int) ^ IntKind.i64.bits = 18446744073709551616 := rfl
 simp only [IntKind.wrap, e, e2, decide_eq_true_eq]
 split <;> omega
theorem wrap_u64 (n : Int) (h : 0 ≤ n ∧ n < 18446744073709551616) : IntKind.u64.wrap n = n := by
 simp only [IntKind.wrap, IntKind.bits, IntKind.signed, Bool.false_and, Bool.false_eq_true, if_false]
 omega
theorem wrap_u32 (n : Int) (h : 0 ≤ n ∧ n < 4294967296) : IntKind.u32.wrap n = n := by
 simp only [IntKind.wrap, IntKind.bits, IntKind.signed, Bool.false_and, Bool.false_eq_true, if_false]
 omega
theorem wrap_u8 (n : Int) (h : 0 ≤ n ∧ n < 256) : IntKind.u8.wrap n = n := by
 simp only [IntKind.wrap, IntKind.bits, IntKind.signed, Bool.false_and, Bool.false_eq_true, if_false]
 omega
theorem wrap_u8' (n : Int) : IntKind.u8.wrap n = n % 256 := by simp [IntKind.wrap, IntKind.bits, IntKind.signed]
theorem v_addI (hx : ev F x = some (.int .i64 X)) (hy : ev F y = some (.int .i64 Y)) (hb : -9223372036854775808 ≤ X + Y ∧ X + Y ≤ 9223372036854775807) :
  Val P (.binOp .add t x y s) T F w (.int .i64 (X + Y)) := (v_add hx hy).as (by rw [wrap_i64 _ hb])
theorem v_subI (hx : ev F x = some (.int .i64 X)) (hy : ev F y = some (.int .i64 Y)) (hb : -9223372036854775808 ≤ X - Y ∧ X - Y ≤ 9223372036854775807) :
  Val P (.binOp .sub t x y s) T F w (.int .i64 (X - Y)) := (v_sub hx hy).as (by rw [wrap_i64 _ hb])
theorem v_subN {m n : Nat} (hx : ev F x = some (.int .i64 (m : Int))) (hy : ev F y = some (.int .i64 (n : Int))) (h : n ≤ m) (hb : m < 9223372036854775808) :
  Val P (.binOp .sub t x y s) T F w (.int .i64 ((m - n : Nat) : Int)) := (v_sub hx hy).as (by rw [wrap_i64 _ (by omega)]; congr 1; omega)
theorem v_mulI (hx : ev F x = some (.int .i64 X)) (hy : ev F y = some (.int .i64 Y)) (hb : -9223372036854775808 ≤ X * Y ∧ X * Y ≤ 9223372036854775807) :
  Val P (.binOp .mul t x y s) T F w (.int .i64 (X * Y)) := (v_mul hx hy).as (by rw [wrap_i64 _ hb])
theorem v_quoI (hx : ev F x = some (.int .i64 X)) (hy : ev F y = some (.int .i64 Y)) (h0 : 0 ≤ X) (hX : X ≤ 9223372036854775807) (hY : 0 < Y) :
  Val P (.binOp .quo t x y s) T F w (.int .i64 (X / Y)) := (v_quo hx hy (by omega)).as (by
   rw [Int.tdiv_eq_ediv_of_nonneg h0, wrap_i64]
   have h1 := Int.ediv_nonneg h0 (Int.le_of_lt hY)
   have h2 : X / Y ≤ X := Int.ediv_le_self Y h0
   omega)
theorem v_remI (hx : ev F x = some (.int k X)) (hy : ev F y = some (.int k Y)) (h0 : 0 ≤ X) (hY : 0 < Y) : Val P (.binOp .rem t x y s) T F w (.int k (X % Y)) :=
 (v_rem hx hy (by omega)).as (by rw [Int.tmod_eq_emod_of_nonneg h0])
def fits (k : IntKind) (n : Nat) : Prop := n < 2 ^ (if k.signed then k.bits - 1 else k.bits)
theorem fits_lt {n : Nat} (h : fits k n) : n < 2 ^ k.bits := by
 unfold fits at h
 split at h
 · exact Nat.lt_of_lt_of_le h (Nat.pow_le_pow_right (by decide) (Nat.sub_le _ _))
 exact h
theorem wrap_fits {n : Nat} (h : fits k n) : k.wrap (n : Int) = (n : Int) := by
 have h1 := fits_lt h
 have e1 : ((n : Int) % (2 ^ k.bits : Int)) = (n : Int) := by
  have : ((2 : Int) ^ k.bits) = ((2 ^ k.bits : Nat) : Int) := by simp
  rw [this, ← Int.natCast_emod, Nat.mod_eq_of_lt h1]
 simp only [IntKind.wrap, e1]
 unfold fits at h
 split
 ·
  rename_i hc
  simp only [Bool.and_eq_true, decide_eq_true_eq] at hc
  rw [if_pos hc.1] at h
  have : ((2 : Int) ^ (k.bits - 1)) = ((2 ^ (k.bits - 1) : Nat) : Int) := by simp
  rw [this] at hc
  omega
 rfl
theorem ofInt_nat {b n : Nat} : BitVec.ofInt b (n : Int) = BitVec.ofNat b n := by simp
theorem v_xorN {m n : Nat} (hx : ev F x = some (.int k (m : Int))) (hy : ev F y = some (.int k (n : Int))) (hm : fits k m) (hn : fits k n) :
  Val P (.binOp .xor t x y s) T F w (.int k ((m ^^^ n : Nat) : Int)) :=
 fun ρ h d p af g => by
  have e : ((BitVec.ofInt k.bits (m : Int)) ^^^ (BitVec.ofInt k.bits (n : Int))).toNat = m ^^^ n := by
   rw [ofInt_nat, ofInt_nat, BitVec.toNat_xor, BitVec.toNat_ofNat, BitVec.toNat_ofNat, Nat.mod_eq_of_lt (fits_lt hm), Nat.mod_eq_of_lt (fits_lt hn)]
  have hf : fits k (m ^^^ n) := Nat.xor_lt_two_pow hm hn
  simp only [execOp, h x _ hx, h y _ hy, eqGuard, binOp, Op.intBits, ne_eq, not_true_eq_false, if_false, e, wrap_fits hf]
  simp
theorem v_andN {m n : Nat} (hx : ev F x = some (.int k (m : Int))) (hy : ev F y = some (.int k (n : Int))) (hm : fits k m) (hn : fits k n) :
  Val P (.binOp .and t x y s) T F w (.int k ((m &&& n : Nat) : Int)) :=
 fun ρ h d p af g => by
  have e : ((BitVec.ofInt k.bits (m : Int)) &&& (BitVec.ofInt k.bits (n : Int))).toNat = m &&& n := by
   rw [ofInt_nat, ofInt_nat, BitVec.toNat_and, BitVec.toNat_ofNat, BitVec.toNat_ofNat, Nat.mod_eq_of_lt (fits_lt hm), Nat.mod_eq_of_lt (fits_lt hn)]
  have hf : fits k (m &&& n) := Nat.lt_of_le_of_lt Nat.and_le_left hm
  simp only [execOp, h x _ hx, h y _ hy, eqGuard, binOp, Op.intBits, ne_eq, not_true_eq_false, if_false, e, wrap_fits hf]
  simp
theorem v_quoN {m n : Nat} (hx : ev F x = some (.int k (m : Int))) (hy : ev F y = some (.int k (n : Int))) (h0 : 0 < n) (hm : fits k m) :
  Val P (.binOp .quo t x y s) T F w (.int k ((m / n : Nat) : Int)) := (v_quo hx hy (by omega)).as (by
   have hf : fits k (m / n) := Nat.lt_of_le_of_lt (Nat.div_le_self _ _) hm
   have e : (m : Int).tdiv (n : Int) = ((m / n : Nat) : Int) := by rw [Int.tdiv_eq_ediv_of_nonneg (Int.natCast_nonneg _)]; simp
   rw [e, wrap_fits hf])
theorem v_shrN {m : Nat} {j : IntKind} {Z : Int} (hx : ev F x = some (.int k (m : Int))) (hy : ev F y = some (.int j Z)) (h0 : 0 ≤ Z) :
  Val P (.binOp .shr t x y s) T F w (.int k ((m / 2 ^ (min Z.toNat k.bits) : Nat) : Int)) :=
 fun ρ h d p af g => by
  have e : ((m : Int).fdiv (2 ^ (min Z.toNat k.bits))) = ((m / 2 ^ (min Z.toNat k.bits) : Nat) : Int) := by
   have : ((2 : Int) ^ (min Z.toNat k.bits)) = ((2 ^ (min Z.toNat k.bits) : Nat) : Int) := by simp
   rw [this, Int.fdiv_eq_ediv_of_nonneg _ (Int.natCast_nonneg _)]
   simp
  have hz : ¬ (Z < 0) := by omega
  simp only [execOp, h x _ hx, h y _ hy, eqGuard, binOp, Op.shift, hz, if_false, e]
  simp
theorem v_shl {j : IntKind} {Z : Int} (hx : ev F x = some (.int k X)) (hy : ev F y = some (.int j Z)) (h0 : 0 ≤ Z) :
  Val P (.binOp .shl t x y s) T F w (.int k (k.wrap (X * 2 ^ (min Z.toNat k.bits)))) :=
 fun ρ h d p af g => by
  have hz : ¬ (Z < 0) := by omega
  simp only [execOp, h x _ hx, h y _ hy, eqGuard, binOp, Op.shift, hz, if_false]
  simp
theorem v_conv {dx : TypeDesc} (hs : P.underlying s = some dx) (ht : P.underlying t = some (.int k)) {j : IntKind} (hx : ev F x = some (.int j X)) :
  Val P (.convert s t x) T F w (.int k (k.wrap X)) :=
 fun ρ h d p af g => by
  simp only [execOp, h x _ hx, convert]
  simp [underlying, hs, ht, Conv.intToInt, program, Sem.run]
theorem v_cv {dx : TypeDesc} {Y : Int} (hs : P.underlying s = some dx) (ht : P.underlying t = some (.int k)) {j : IntKind} (hx : ev F x = some (.int j X)) (hw : k.wrap X = Y) :
  Val P (.convert s t x) T F w (.int k Y) := (v_conv hs ht hx).as (by rw [hw])
theorem fits_u64 {n : Nat} (h : n < 18446744073709551616) : fits .u64 n := h
theorem fits_u32 {n : Nat} (h : n < 4294967296) : fits .u32 n := h
theorem fits_u8 {n : Nat} (h : n < 256) : fits .u8 n := h
theorem fits_i64 {n : Nat} (h : n < 9223372036854775808) : fits .i64 n := h
end ints
theorem v_eqlNil {a : Option Addr} {t e s : TypeId} (hb : P.underlying t = some (.pointer e)) (hx : ev F x = some (.pointer a)) (hy : ev F y = some (.pointer none)) : Val P (.binOp .eql t x y s) T F w (.bool a.isNone) :=
 fun ρ h d p af g => by
  simp only [execOp, h x _ hx, h y _ hy, eqGuard, binOp]
  have he : ∀ (e : Nat), (Op.equalIn (e + 1) t (.pointer a) (.pointer none)).run P w = .ok a.isNone w := by
   intro e
   cases a <;> simp [Op.equalIn, underlying, hb, program, Sem.run]
  have he' : (Op.equal t (.pointer a) (.pointer none)).run P w = .ok a.isNone w := he 9999
  simp [he']
theorem v_nil {a : Addr} (hx : ev F x = some (.pointer (some a))) : Val P (.nilCheck x) T F w (.pointer (some a)) := fun ρ h d p af g => by simp [execOp, h x _ hx]
def FieldFact (P : Program) (s : TypeId) (f off : Nat) : Prop := ∃ fs fd i, P.underlying s = some (.struct fs) ∧ fs[f]? = some fd ∧ P.info? fd.type = some i ∧ i.size ≠ 0 ∧ fd.offset = off
theorem Addr.add_eq (b o n : Nat) : (⟨b, o, none⟩ : Addr).add n = ⟨b, o + n, none⟩ := by
 unfold Addr.add
 split
 · rename_i h; subst h; rfl
 rfl
theorem ff_of {s f off sz : Nat} {fs : Array Field} (h1 : P.underlying s = some (.struct fs)) (h : (fs[f]?).bind (fun fd => (P.info? fd.type).map fun i => (fd.offset, i.size)) = some (off, sz + 1)) : FieldFact P s f off := by
 cases hf : fs[f]? with
 | none => rw [hf] at h; cases h
 | some fd =>
  rw [hf, Option.bind_some] at h
  cases hi : P.info? fd.type with
  | none => rw [hi] at h; cases h
  | some i =>
   rw [hi] at h
   simp only [Option.map_some, Option.some.injEq, Prod.mk.injEq] at h
   exact ⟨fs, fd, i, h1, hf, hi, by omega, h.1⟩
theorem v_fieldAddr {s f off b o : Nat} (hf : FieldFact P s f off) (hx : ev F x = some (.pointer (some ⟨b, o, none⟩))) : Val P (.fieldAddr s x f) T F w (.pointer (some ⟨b, o + off, none⟩)) :=
 fun ρ h d p af g => by
  obtain ⟨fs, fd, i, h1, h2, h3, h4, h5⟩ := hf
  simp [execOp, h x _ hx, Instr.fieldAt, underlying, h1, h2, Instr.sureAddr, fieldPlace, sizeOf, typeInfo, h3, h4, h5, program, Sem.run, Addr.add_eq]
def Scalar (P : Program) (t : TypeId) : Prop := ∃ d, P.underlying t = some d ∧ (∀ fs, d ≠ .struct fs) ∧ (∀ n e, d ≠ .array n e)
theorem run_isAgg {t : TypeId} (hs : Scalar P t) : (isAgg t).run P w = .ok false w := by
 obtain ⟨d, h1, h2, h3⟩ := hs
 simp only [isAgg, underlying, program]
 cases d <;> simp_all [Sem.run]
theorem v_load {t : TypeId} {a : Addr} (hs : Scalar P t) (hx : ev F x = some (.pointer (some a))) (hc : w.cell? a = some v) : Val P (.load t x) T F w v :=
 fun ρ h d p af g => by
  simp only [execOp, h x _ hx, Instr.loadAt, Instr.sureAddr, loadVar]
  simp [run_isAgg hs, load, Sem.run, hc]
def Sl (P : Program) (t e : TypeId) (z : Value) (by_ : Nat) : Prop := P.underlying t = some (.slice e) ∧ z.cells = #[z] ∧ ∃ i, P.info? e = some i ∧ i.size = 1 ∧ i.zero = some z ∧ i.bytes = by_
theorem sl_of {t e by_ : Nat} {z : Value} (h1 : P.underlying t = some (.slice e)) (hz : z.cells = #[z]) (h : (P.info? e).map (fun i => (i.zero, i.size, i.bytes)) = some (some z, 1, by_)) : Sl P t e z by_ := by
 refine ⟨h1, hz, ?_⟩
 cases hi : P.info? e with
 | none => rw [hi] at h; cases h
 | some i =>
  rw [hi] at h
  simp only [Option.map_some, Option.some.injEq, Prod.mk.injEq] at h
  exact ⟨i, rfl, h.2.1, h.1, h.2.2⟩
theorem v_ixS {t e b o len cap by_ : Nat} {z : Value} {i : Operand} {k : IntKind} {I : Int} (ht : Sl P t e z by_) (hx : ev F x = some (.slice (some ⟨b, o, none⟩) len cap)) (hi : ev F i = some (.int k I)) (h0 : 0 ≤ I) (hl : I < len) :
  Val P (.indexAddr t x i) T F w (.pointer (some ⟨b, o + I.toNat, none⟩)) :=
 fun ρ h d p af g => by
  obtain ⟨h1, _, j, h2, h3, _⟩ := ht
  simp [execOp, h x _ hx, h i _ hi, Instr.indexAt, asIntOf, underlying, h1, sizeOf, typeInfo, h2, h3, program, Sem.run, h0, hl, Addr.add_eq]
def ArrOf (P : Program) (t n : Nat) : Prop := ∃ e i, P.underlying t = some (.array n e) ∧ P.info? e = some i ∧ i.size = 1
theorem ar_of {t n e : Nat} (h1 : P.underlying t = some (.array n e)) (h : (P.info? e).map (fun i => i.size) = some 1) : ArrOf P t n := by
 cases hi : P.info? e with
 | none => rw [hi] at h; cases h
 | some i =>
  rw [hi] at h
  simp only [Option.map_some, Option.some.injEq] at h
  exact ⟨e, i, h1, hi, h⟩
theorem v_ixA {t n b o : Nat} {i : Operand} {k : IntKind} {I : Int} (ht : ArrOf P t n)
  (hx : ev F x = some (.pointer (some ⟨b, o, none⟩))) (hi : ev F i = some (.int k I)) (h0 : 0 ≤ I) (hl : I < n) :
  Val P (.indexAddr t x i) T F w (.pointer (some ⟨b, o + I.toNat, none⟩)) :=
 fun ρ h d p af g => by
  obtain ⟨e, info, h1, hin, hsz⟩ := ht
  simp [execOp, h x _ hx, h i _ hi, Instr.indexAt, Instr.sureAddr, asIntOf, underlying, h1, sizeOf, typeInfo, hin, hsz, program, Sem.run, h0, hl, Addr.add_eq]
theorem v_ext {vs : List Value} {i : Nat} (hx : ev F x = some (.tuple vs.toArray)) (hi : nth vs i = some v) : Val P (.extract x i) T F w v :=
 fun ρ h d p af g => by
  rw [nth_eq] at hi
  simp [execOp, h x _ hx, Instr.extract, hi]
theorem v_lenS {t e by_ : Nat} {z : Value} {ats : Array TypeId} {a : Option Addr} {n c : Nat} (hat : ats = #[t]) (ht : Sl P t e z by_) (hx : ev F x = some (.slice a n c)) :
  Val P (.call ⟨.builtin .len, #[x], ats⟩) T F w (.int .i64 (n : Int)) :=
 fun ρ h d p af g => by
  subst hat
  simp [execOp, resolve, invoke, builtin, Builtin.len_, h x _ hx, underlying, ht.1, program, Sem.run, goInt]
theorem v_ixStr {t : TypeId} {s : ByteArray} {i : Operand} {k : IntKind} {I : Int} {b : UInt8} (ht : P.underlying t = some .string) (hx : ev F x = some (.string s)) (hi : ev F i = some (.int k I)) (h0 : 0 ≤ I) (hb : s.data.toList[I.toNat]? = some b) :
  Val P (.index t x i) T F w (.int .u8 (b.toNat : Int)) :=
 fun ρ h d p af g => by
  have hb' : s[I.toNat]? = some b := by
   have h1 := (List.getElem?_eq_some_iff.1 hb).1
   have h2 := (List.getElem?_eq_some_iff.1 hb).2
   have h3 : I.toNat < s.size := by simpa using h1
   rw [getElem?_pos s _ h3]
   exact congrArg some h2
  simp [execOp, h x _ hx, h i _ hi, Instr.index, asIntOf, underlying, ht, program, Sem.run, h0, hb']
theorem v_mkf {fn : Fn} {cs : List Operand} {vs : List Value} (hc : evs F cs = some vs) : Val P (.makeFunc fn #[] cs.toArray) T F w (.func fn ([] : List Value).toArray vs.toArray) :=
 fun ρ h d p af g => by
  have := h.list cs vs hc
  simp [execOp, Instr.makeFunc, this]
end
end Go.Gam
/- Plain functions on numbers: polynomials over two elements as numbers, products without carries, what is left, powers. No program in sight. -/
namespace Go.Gam.Px
def deg (p : Nat) : Int := if p = 0 then -1 else (Nat.log2 p : Int)
def mul (a b : Nat) : Nat := if h : b = 0 then 0 else (if b % 2 = 1 then a else 0) ^^^ (2 * mul a (b / 2))
termination_by b
decreasing_by omega
def red (p d : Nat) (a : Nat) (i : Nat) : Nat := if a.testBit i then a ^^^ (p <<< (i - d)) else a
def modN (p d : Nat) : Nat → Nat → Nat
 | 0, a => a
 | k + 1, a => modN p d k (red p d a (d + k))
def mod (a p : Nat) : Nat := if p = 0 then 0 else modN p (Nat.log2 p) (Nat.log2 a + 1 - Nat.log2 p) a
def mulMod (a b p : Nat) : Nat := mod (mul a b) p
def pow (a p : Nat) : Nat → Nat
 | 0 => mod 1 p
 | n + 1 => mulMod (pow a p n) a p
def pw (p : Nat) : Nat → Nat
 | 0 => 1
 | n + 1 => mulMod (pw p n) 2 p
def expL (w p : Nat) (k : Nat) : List Nat := (List.range k).map (pw p) ++ List.replicate (2 ^ w - k) 0
def logL (w p : Nat) : Nat → List Nat
 | 0 => List.replicate (2 ^ w) 0
 | k + 1 => (logL w p k).set (pw p k) k
end Go.Gam.Px
/- Worlds: what a step leaves of what was there; rows that are read; rows of the walk's own; fields and their tables. No program in sight. -/
namespace Go.Gam
open Go
structure FD where
 T : TypeId
 E : TypeId
 ne : E ≠ T
 old : Bool
def ints (l : List Nat) : List Value := l.map fun (n : Nat) => Value.int .i64 (n : Int)
def Tab (E : TypeId) (B : Nat) (w : World) (v : Value) (xs : List Value) : Prop :=
 ∃ g, v = .slice (some ⟨g, 0, none⟩) xs.length xs.length ∧ B ≤ g ∧ w.heap[g]? = some (.cells xs.toArray E (0, 0))
def fcells (wb p : Nat) (o : Int) (e l : Value) : Array Value := #[.int .i64 (wb : Int), .int .u32 (p : Int), .int .u32 o, .int .i32 0, .int .u32 0, e, l]
def FOK (D : FD) (B : Nat) (w : World) (k wb p : Nat) : Prop :=
 B ≤ k ∧ (w.heap[k]? = some (.cells (fcells wb p 0 (.slice none 0 0) (.slice none 0 0)) D.T (0, 0)) ∨
  ∃ e l, w.heap[k]? = some (.cells (fcells wb p 1 e l) D.T (0, 0)) ∧ Tab D.E B w e (ints (Px.expL wb p (2 ^ wb - 1))) ∧ Tab D.E B w l (ints (Px.logL wb p (2 ^ wb - 1))))
def tv (wb g : Nat) : Value := .slice (some ⟨g, 0, none⟩) (2 ^ wb) (2 ^ wb)
def Made (D : FD) (B : Nat) (w : World) (k wb p ge gl : Nat) : Prop :=
 B ≤ k ∧ w.heap[k]? = some (.cells (fcells wb p 1 (tv wb ge) (tv wb gl)) D.T (0, 0)) ∧ Tab D.E B w (tv wb ge) (ints (Px.expL wb p (2 ^ wb - 1))) ∧ Tab D.E B w (tv wb gl) (ints (Px.logL wb p (2 ^ wb - 1)))
theorem Made.fok {D : FD} {B : Nat} {w : World} {k wb p ge gl : Nat} (h : Made D B w k wb p ge gl) : FOK D B w k wb p := ⟨h.1, .inr ⟨_, _, h.2⟩⟩
def Inv (D : FD) (B : Nat) (w : World) : Prop := B ≤ w.heap.size ∧ ∀ k, B ≤ k → ∀ c fr, w.heap[k]? = some (.cells c D.T fr) → ∃ wb p, FOK D B w k wb p
def Priv (D : FD) (B : Nat) (w : World) (b : Nat) : Prop := ∀ k, B ≤ k → ∀ c fr, w.heap[k]? = some (.cells c D.T fr) → ∀ a n m, .slice (some a) n m ∈ c.toList → a.block ≠ b
def notT (D : FD) (w : World) (k : Nat) : Prop := ∀ c fr, w.heap[k]? ≠ some (.cells c D.T fr)
structure Ext (D : FD) (B : Nat) (w w' : World) : Prop where
 os : w'.os = w.os
 tape : w'.tape = w.tape
 output : w'.output = w.output
 size : w.heap.size ≤ w'.heap.size
 keep : ∀ k, k < w.heap.size → (k < B ∨ notT D w k) → w'.heap[k]? = w.heap[k]?
 fld : ∀ k wb p, FOK D B w k wb p → FOK D B w' k wb p
 priv : ∀ b, b < w.heap.size → Priv D B w b → Priv D B w' b
 made : ∀ k wb p ge gl, Made D B w k wb p ge gl → Made D B w' k wb p ge gl
theorem Ext.refl (D : FD) (B : Nat) (w : World) : Ext D B w w := ⟨rfl, rfl, rfl, Nat.le_refl _, fun _ _ _ => rfl, fun _ _ _ h => h, fun _ _ h => h, fun _ _ _ _ _ h => h⟩
theorem notT_of {D : FD} {w w' : World} {k : Nat} (h : w'.heap[k]? = w.heap[k]?) (hn : notT D w k) : notT D w' k := fun c fr e => hn c fr (h ▸ e)
theorem Ext.trans {D : FD} {B : Nat} {a b c : World} (h : Ext D B a b) (k : Ext D B b c) : Ext D B a c :=
 ⟨k.os.trans h.os, k.tape.trans h.tape, k.output.trans h.output, Nat.le_trans h.size k.size,
  fun i hi hc => (k.keep i (Nat.lt_of_lt_of_le hi h.size) (hc.imp id (fun hn => notT_of (h.keep i hi (.inr hn)) hn))).trans (h.keep i hi hc),
  fun i wb p hf => k.fld i wb p (h.fld i wb p hf), fun b hb hp => k.priv b (Nat.lt_of_lt_of_le hb h.size) (h.priv b hb hp), fun i wb p e l hf => k.made i wb p e l (h.made i wb p e l hf)⟩
structure St (D : FD) (B : Nat) (w w' : World) : Prop where
 ext : Ext D B w w'
 inv : Inv D B w'
theorem St.refl {D : FD} {B : Nat} {w : World} (h : Inv D B w) : St D B w w := ⟨Ext.refl _ _ _, h⟩
theorem St.trans {D : FD} {B : Nat} {a b c : World} (h : St D B a b) (k : St D B b c) : St D B a c := ⟨h.ext.trans k.ext, k.inv⟩
theorem heap_lt {w : World} {k : Nat} {o : Obj} (h : w.heap[k]? = some o) : k < w.heap.size := (Array.getElem?_eq_some_iff.1 h).1
theorem Ext.below {D : FD} {B : Nat} {w w' : World} (h : Ext D B w w') (hB : B ≤ w.heap.size) : RowKit.Below B w w' :=
 ⟨h.os, h.tape, h.output, h.size, fun k hk => h.keep k (by omega) (.inl hk)⟩
theorem FOK.lt {D : FD} {B : Nat} {w : World} {k wb p : Nat} (h : FOK D B w k wb p) : k < w.heap.size := by
 rcases h.2 with h | ⟨e, l, h, _⟩ <;> exact heap_lt h
theorem FOK.st {D : FD} {B : Nat} {w w' : World} {k wb p : Nat} (h : FOK D B w k wb p) (hs : St D B w w') : FOK D B w' k wb p := hs.ext.fld k wb p h
theorem Made.st {D : FD} {B : Nat} {w w' : World} {k wb p ge gl : Nat} (h : Made D B w k wb p ge gl) (hs : St D B w w') : Made D B w' k wb p ge gl := hs.ext.made k wb p ge gl h
structure Mb (D : FD) (B : Nat) (b : Option Nat) (w w' : World) : Prop where
 os : w'.os = w.os
 tape : w'.tape = w.tape
 output : w'.output = w.output
 size : w.heap.size ≤ w'.heap.size
 keep : ∀ k, k < w.heap.size → some k ≠ b → w'.heap[k]? = w.heap[k]?
 typ : ∀ k, w.heap.size ≤ k → notT D w' k
 own : ∀ k, b = some k → k < w.heap.size ∧ B ≤ k ∧ notT D w k ∧ notT D w' k ∧ Priv D B w k
theorem Mb.t_same {D : FD} {B : Nat} {b : Option Nat} {w w' : World} (h : Mb D B b w w') {k : Nat} {c : Array Value} {fr : Nat × Nat} (hk : w'.heap[k]? = some (.cells c D.T fr)) : w.heap[k]? = some (.cells c D.T fr) := by
 by_cases hlt : k < w.heap.size
 ·
  by_cases e : some k = b
  · exact absurd hk ((h.own k e.symm).2.2.2.1 c fr)
  rw [← h.keep k hlt e]; exact hk
 exact absurd hk (h.typ k (by omega) c fr)
theorem Mb.t_kept {D : FD} {B : Nat} {b : Option Nat} {w w' : World} (h : Mb D B b w w') {k : Nat} {c : Array Value} {fr : Nat × Nat} (hk : w.heap[k]? = some (.cells c D.T fr)) : w'.heap[k]? = some (.cells c D.T fr) := by
 have hlt := heap_lt hk
 by_cases e : some k = b
 · exact absurd hk ((h.own k e.symm).2.2.1 c fr)
 rw [h.keep k hlt e]; exact hk
theorem Mb.priv {D : FD} {B : Nat} {b : Option Nat} {w w' : World} (h : Mb D B b w w') {j : Nat} (hp : Priv D B w j) : Priv D B w' j :=
 fun k hk c fr hc => hp k hk c fr (h.t_same hc)
theorem Mb.fok {D : FD} {B : Nat} {b : Option Nat} {w w' : World} (h : Mb D B b w w') {k wb p : Nat} (hf : FOK D B w k wb p) : FOK D B w' k wb p := by
 obtain ⟨hB, hf⟩ := hf
 refine ⟨hB, ?_⟩
 rcases hf with hf | ⟨e, l, hf, he, hl⟩
 · exact .inl (h.t_kept hf)
 refine .inr ⟨e, l, h.t_kept hf, ?_, ?_⟩
 ·
  obtain ⟨g, rfl, hg, hc⟩ := he
  refine ⟨g, rfl, hg, ?_⟩
  rw [h.keep g (heap_lt hc) (fun e => (h.own g e.symm).2.2.2.2 k hB _ _ hf _ _ _ (List.mem_of_getElem? (i := 5) rfl) rfl)]
  exact hc
 obtain ⟨g, rfl, hg, hc⟩ := hl
 refine ⟨g, rfl, hg, ?_⟩
 rw [h.keep g (heap_lt hc) (fun e => (h.own g e.symm).2.2.2.2 k hB _ _ hf _ _ _ (List.mem_of_getElem? (i := 6) rfl) rfl)]
 exact hc
theorem Mb.tab {D : FD} {B : Nat} {b : Option Nat} {w w' : World} (h : Mb D B b w w') {k i : Nat} {c : Array Value} {v : Value} {xs : List Value} (hB : B ≤ k) (hf : w.heap[k]? = some (.cells c D.T (0, 0))) (hv : c.toList[i]? = some v) (ht : Tab D.E B w v xs) : Tab D.E B w' v xs := by
 obtain ⟨g, rfl, hg, hc⟩ := ht
 refine ⟨g, rfl, hg, ?_⟩
 rw [h.keep g (heap_lt hc) (fun e => (h.own g e.symm).2.2.2.2 k hB _ _ hf _ _ _ (List.mem_of_getElem? hv) rfl)]
 exact hc
theorem Mb.made {D : FD} {B : Nat} {b : Option Nat} {w w' : World} (h : Mb D B b w w') {k wb p ge gl : Nat} (hf : Made D B w k wb p ge gl) : Made D B w' k wb p ge gl := by
 obtain ⟨hB, hf, he, hl⟩ := hf
 exact ⟨hB, h.t_kept hf, h.tab hB hf (i := 5) rfl he, h.tab hB hf (i := 6) rfl hl⟩
theorem Mb.inv {D : FD} {B : Nat} {b : Option Nat} {w w' : World} (h : Mb D B b w w') (hI : Inv D B w) : Inv D B w' :=
 ⟨Nat.le_trans hI.1 h.size, fun k hk c fr hc => let ⟨wb, p, hf⟩ := hI.2 k hk c fr (h.t_same hc); ⟨wb, p, h.fok hf⟩⟩
theorem St.mb {D : FD} {B : Nat} {b : Option Nat} {w0 w w' : World} (hs : St D B w0 w) (h : Mb D B b w w') (hb : ∀ k, b = some k → w0.heap.size ≤ k) : St D B w0 w' := by
 refine ⟨⟨h.os.trans hs.ext.os, h.tape.trans hs.ext.tape, h.output.trans hs.ext.output, Nat.le_trans hs.ext.size h.size, fun k hk hc => ?_, fun k wb p hf => h.fok (hs.ext.fld k wb p hf), fun j hj hp => h.priv (hs.ext.priv j hj hp), fun k wb p e l hf => h.made (hs.ext.made k wb p e l hf)⟩, h.inv hs.inv⟩
 rw [h.keep k (Nat.lt_of_lt_of_le hk hs.ext.size) (fun e => by have := hb k e.symm; omega)]
 exact hs.ext.keep k hk hc
theorem St.mb0 {D : FD} {B : Nat} {w0 w w' : World} (hs : St D B w0 w) (h : Mb D B none w w') : St D B w0 w' := hs.mb h (fun k e => by cases e)
theorem Mb.alloc (D : FD) (B : Nat) (w : World) (c : Array Value) (e : TypeId) (fr : Nat × Nat) (he : e ≠ D.T) : Mb D B none w (w.alloc (.cells c e fr)) := by
 refine ⟨rfl, rfl, rfl, by simp, fun k hk _ => ?_, fun k hk c' fr' hc => ?_, fun k e => by cases e⟩
 · exact RowKit.Below.heap_alloc w _ k hk
 have : (w.heap.push (.cells c e fr))[k]? = some (.cells c' D.T fr') := hc
 rw [Array.getElem?_push] at this
 split at this
 · obtain ⟨-, h2, -⟩ := Obj.cells.inj (Option.some.inj this); exact he h2
 rw [Array.getElem?_eq_none (by omega)] at this; cases this
theorem alloc_new (w : World) (o : Obj) : (w.alloc o).heap[w.heap.size]? = some o := by show (w.heap.push o)[w.heap.size]? = some o; simp
theorem Inv.priv_new {D : FD} {B : Nat} {w : World} (hI : Inv D B w) {b : Nat} (hb : w.heap.size ≤ b) : Priv D B w b := by
 intro k hk c fr hc a n m hm
 obtain ⟨wb, p, hB, hf⟩ := hI.2 k hk c fr hc
 rcases hf with hf | ⟨e, l, hf, ⟨g, rfl, _, hg⟩, ⟨g', rfl, _, hg'⟩⟩
 ·
  rw [hf] at hc
  obtain ⟨rfl, -, -⟩ := Obj.cells.inj (Option.some.inj hc)
  simp [fcells] at hm
 rw [hf] at hc
 obtain ⟨rfl, -, -⟩ := Obj.cells.inj (Option.some.inj hc)
 simp [fcells] at hm
 have h1 := heap_lt hg
 have h2 := heap_lt hg'
 rcases hm with ⟨rfl, _, _⟩ | ⟨rfl, _, _⟩ <;> simp <;> omega
def Row (D : FD) (B M : Nat) (w : World) (v : Value) (xs : List Value) : Prop :=
 (∃ a cap, v = .slice a 0 cap ∧ xs = []) ∨
 ∃ g o cap, v = .slice (some ⟨g, o, none⟩) xs.length cap ∧ xs.length ≤ cap ∧ g < M ∧ (g < B ∨ notT D w g) ∧ g < w.heap.size ∧ ∀ i u, xs[i]? = some u → w.cell? ⟨g, o + i, none⟩ = some u
theorem cell_of_heap {w w' : World} {a : Addr} (h : w'.heap[a.block]? = w.heap[a.block]?) : w'.cell? a = w.cell? a := by simp [World.cell?, h]
theorem Row.ext {D : FD} {B M : Nat} {w w' : World} {v : Value} {xs : List Value} (h : Row D B M w v xs) (hs : Ext D B w w') : Row D B M w' v xs := by
 rcases h with h | ⟨g, o, cap, rfl, h0, h1, h2, h3, h4⟩
 · exact .inl h
 have hk := hs.keep g h3 h2
 exact .inr ⟨g, o, cap, rfl, h0, h1, h2.imp id (notT_of hk), Nat.lt_of_lt_of_le h3 hs.size, fun i u hu => (cell_of_heap hk).trans (h4 i u hu)⟩
theorem Row.st {D : FD} {B M : Nat} {w w' : World} {v : Value} {xs : List Value} (h : Row D B M w v xs) (hs : St D B w w') : Row D B M w' v xs := h.ext hs.ext
theorem Row.mono {D : FD} {B M M' : Nat} {w : World} {v : Value} {xs : List Value} (h : Row D B M w v xs) (hM : M ≤ M') : Row D B M' w v xs :=
 h.imp id fun ⟨g, o, cap, hv, h0, h1, h2⟩ => ⟨g, o, cap, hv, h0, Nat.lt_of_lt_of_le h1 hM, h2⟩
theorem Row.mb {D : FD} {B M : Nat} {b : Option Nat} {w w' : World} {v : Value} {xs : List Value} (h : Row D B M w v xs) (hm : Mb D B b w w') (hb : ∀ k, b = some k → M ≤ k) : Row D B M w' v xs := by
 rcases h with h | ⟨g, o, cap, rfl, h0, h1, h2, h3, h4⟩
 · exact .inl h
 have hk := hm.keep g h3 (fun e => by have := hb g e.symm; omega)
 exact .inr ⟨g, o, cap, rfl, h0, h1, h2.imp id (notT_of hk), Nat.lt_of_lt_of_le h3 hm.size, fun i u hu => (cell_of_heap hk).trans (h4 i u hu)⟩
theorem Row.shape {D : FD} {B M : Nat} {w : World} {v : Value} {xs : List Value} (h : Row D B M w v xs) : ∃ a cap, v = .slice a xs.length cap ∧
  (∀ i u, xs[i]? = some u → ∃ g o, a = some ⟨g, o, none⟩ ∧ w.cell? ⟨g, o + i, none⟩ = some u) := by
 rcases h with ⟨a, cap, rfl, rfl⟩ | ⟨g, o, cap, rfl, h0, h1, h2, h3, h4⟩
 · exact ⟨a, cap, rfl, fun i u hu => by simp at hu⟩
 exact ⟨_, cap, rfl, fun i u hu => ⟨g, o, rfl, h4 i u hu⟩⟩
def Own (D : FD) (B N : Nat) (w : World) (E : TypeId) (v : Value) (b : Option Nat) (xs : List Value) : Prop :=
 (v = .slice none 0 0 ∧ b = none ∧ xs = []) ∨
 ∃ g cap cur, v = .slice (some ⟨g, 0, none⟩) xs.length cap ∧ b = some g ∧ N ≤ g ∧ B ≤ g ∧ w.heap[g]? = some (.cells cur E (0, 0)) ∧ xs.length ≤ cap ∧ cap ≤ maxLen ∧ cur.size = cap ∧ cur.toList.take xs.length = xs ∧ Priv D B w g
theorem Own.nil (D : FD) (B N : Nat) (w : World) (E : TypeId) : Own D B N w E (.slice none 0 0) none [] := .inl ⟨rfl, rfl, rfl⟩
theorem Own.ext {D : FD} {B N : Nat} {w w' : World} {E : TypeId} {v : Value} {b : Option Nat} {xs : List Value} (h : Own D B N w E v b xs) (hE : E ≠ D.T) (hs : Ext D B w w') : Own D B N w' E v b xs := by
 rcases h with h | ⟨g, cap, cur, rfl, rfl, h1, hB, h2, h3, h4, h5, h6, h7⟩
 · exact .inl h
 refine .inr ⟨g, cap, cur, rfl, rfl, h1, hB, ?_, h3, h4, h5, h6, hs.priv g (heap_lt h2) h7⟩
 rw [hs.keep g (heap_lt h2) (.inr fun c fr e => by rw [h2] at e; exact hE (Obj.cells.inj (Option.some.inj e)).2.1)]
 exact h2
theorem Own.st {D : FD} {B N : Nat} {w w' : World} {E : TypeId} {v : Value} {b : Option Nat} {xs : List Value} (h : Own D B N w E v b xs) (hE : E ≠ D.T) (hs : St D B w w') : Own D B N w' E v b xs := h.ext hE hs.ext
theorem Own.mb {D : FD} {B N : Nat} {w w' : World} {E : TypeId} {v : Value} {b c : Option Nat} {xs : List Value} (h : Own D B N w E v b xs) (hm : Mb D B c w w') (hne : ∀ k, b = some k → c ≠ some k) : Own D B N w' E v b xs := by
 rcases h with h | ⟨g, cap, cur, rfl, rfl, h1, hB, h2, h3, h4, h5, h6, h7⟩
 · exact .inl h
 exact .inr ⟨g, cap, cur, rfl, rfl, h1, hB, (hm.keep g (heap_lt h2) (fun e => hne g rfl e.symm)).trans h2, h3, h4, h5, h6, hm.priv h7⟩
theorem Own.ne_type {D : FD} {B N N' : Nat} {w : World} {E E' : TypeId} {v v' : Value} {b b' : Option Nat} {xs xs' : List Value} (h : Own D B N w E v b xs) (h' : Own D B N' w E' v' b' xs') (hE : E ≠ E') : ∀ k, b = some k → b' ≠ some k := by
 rintro k rfl e
 subst e
 rcases h with ⟨_, h, _⟩ | ⟨g, cap, cur, rfl, hb, h1, hB, h2, h3⟩
 · cases h
 obtain rfl := Option.some.inj hb
 rcases h' with ⟨_, h, _⟩ | ⟨g', cap', cur', rfl, hb', h1', hB', h2', h3'⟩
 · cases h
 obtain rfl := Option.some.inj hb'
 rw [h2] at h2'
 exact hE (Obj.cells.inj (Option.some.inj h2')).2.1
theorem Own.lt {D : FD} {B N : Nat} {w : World} {E : TypeId} {v : Value} {b : Option Nat} {xs : List Value} (h : Own D B N w E v b xs) : ∀ k, b = some k → N ≤ k ∧ k < w.heap.size := by
 rintro k rfl
 rcases h with ⟨_, h, _⟩ | ⟨g, cap, cur, rfl, hb, h1, hB, h2, h3⟩
 · cases h
 obtain rfl := Option.some.inj hb
 exact ⟨h1, heap_lt h2⟩
theorem Own.le {D : FD} {B N N' : Nat} {w : World} {E : TypeId} {v : Value} {b : Option Nat} {xs : List Value} (h : Own D B N w E v b xs) (hN : N' ≤ N) : Own D B N' w E v b xs :=
 h.imp id fun ⟨g, cap, cur, h1, h2, h3, h4⟩ => ⟨g, cap, cur, h1, h2, Nat.le_trans hN h3, h4⟩
theorem Own.row {D : FD} {B N : Nat} {w : World} {E : TypeId} {v : Value} {b : Option Nat} {xs : List Value} (h : Own D B N w E v b xs) (hE : E ≠ D.T) : Row D B w.heap.size w v xs := by
 rcases h with ⟨rfl, -, rfl⟩ | ⟨g, cap, cur, rfl, rfl, h1, hB, h2, h3, h4, h5, h6, h7⟩
 · exact .inl ⟨_, _, rfl, rfl⟩
 refine .inr ⟨g, 0, cap, rfl, h3, heap_lt h2, .inr fun c fr e => ?_, heap_lt h2, fun i u hu => ?_⟩
 · rw [h2] at e; exact hE (Obj.cells.inj (Option.some.inj e)).2.1
 have hi := (List.getElem?_eq_some_iff.1 hu).1
 rw [← h6, List.getElem?_take] at hu
 rw [if_pos hi] at hu
 simp only [World.cell?, h2]
 simpa using hu
theorem Own.shape {D : FD} {B N : Nat} {w : World} {E : TypeId} {v : Value} {b : Option Nat} {xs : List Value} (h : Own D B N w E v b xs) : ∃ a cap, v = .slice a xs.length cap := by
 rcases h with ⟨rfl, -, rfl⟩ | ⟨g, cap, cur, rfl, _⟩
 · exact ⟨none, 0, rfl⟩
 exact ⟨_, cap, rfl⟩
def Blk (w : World) (g : Nat) (E : TypeId) (cs : List Value) : Prop := w.heap[g]? = some (.cells cs.toArray E (0, 0))
theorem Blk.ext {D : FD} {B : Nat} {w w' : World} {g : Nat} {E : TypeId} {cs : List Value} (h : Blk w g E cs) (hE : E ≠ D.T) (hs : Ext D B w w') : Blk w' g E cs := by
 unfold Blk at *
 rw [hs.keep g (heap_lt h) (.inr fun c fr e => by rw [h] at e; exact hE (Obj.cells.inj (Option.some.inj e)).2.1)]
 exact h
theorem Blk.st {D : FD} {B : Nat} {w w' : World} {g : Nat} {E : TypeId} {cs : List Value} (h : Blk w g E cs) (hE : E ≠ D.T) (hs : St D B w w') : Blk w' g E cs := h.ext hE hs.ext
theorem Blk.mb {D : FD} {B : Nat} {b : Option Nat} {w w' : World} {g : Nat} {E : TypeId} {cs : List Value} (h : Blk w g E cs) (hm : Mb D B b w w') (hne : b ≠ some g) : Blk w' g E cs := by
 unfold Blk at *
 rw [hm.keep g (heap_lt h) (fun e => hne e.symm)]
 exact h
theorem Blk.at {w : World} {g : Nat} {E : TypeId} {cs : List Value} (h : Blk w g E cs) (i : Nat) {v : Value} (hv : nth cs i = some v) : w.cell? ⟨g, i, none⟩ = some v := by
 rw [nth_eq] at hv
 simp [World.cell?, show w.heap[g]? = _ from h, hv]
section
variable {P : Program} {ops : Array Oper} {K : Kont} {rest : List Oper} {n : NN} {F : Fs} {T : TypeId} {pp : String} {af : Array Edge} {v : Value} {d : Nat} {a : Act} {w : World} {x : Operand} {D : FD} {B : Nat}
theorem s_run {op : Op} {w' : World} (hF : Fr n F a) (hrun : ∀ ρ, Reads F ρ → (execOp ρ ⟨some d, op, T, pp, af, none⟩).run P w = .ok (.value v) w') (hd : Nat.blt d n.n = true)
  (k : ∀ a, Fr n ((d, v) :: F) a → WL P ops K rest a w') : WL P ops K (⟨some d, op, T, pp, af, none⟩ :: rest) a w := by
 unfold WL wpList
 rw [if_pos (by simp [Region.wanted])]
 refine .inl ?_
 unfold Oper.wp
 rw [hrun a.eval hF.reads]
 exact k _ (hF.put hd)
theorem s_box {e : TypeId} (hF : Fr n F a) (hx : ev F x = some v) (he : e ≠ D.T) (hI : Inv D B w) (hd : Nat.blt d n.n = true)
  (k : ∀ w' a, Mb D B none w w' → Blk w' w.heap.size e v.cells.toList → w'.heap.size = w.heap.size + 1 → Fr n ((d, .pointer (some ⟨w.heap.size, 0, none⟩)) :: F) a → WL P ops K rest a w') :
  WL P ops K (⟨some d, .box e x, T, pp, af, none⟩ :: rest) a w := by
 refine s_run (w' := w.alloc (.cells v.cells e)) hF (fun ρ h => ?_) hd fun a hF => k _ a (Mb.alloc D B w _ e _ he) (by unfold Blk; rw [Array.toArray_toList]; exact alloc_new w _) (by simp) hF
 simp [execOp, Instr.box, h x v hx, newVar, newRow, newObj, Sem.run]
end
end Go.Gam
/- From a walk's end to a row's post: the arguments read as they read, the result is true; arguments opened. No program in sight. -/
namespace Go.Gam
open Go Go.ChangeShapes Go.WideShapes Go.ChangeAt Go.RowKit
section
variable {H : Type} {enc : TypeId × Value → H} {P : Program}
theorem trodAll_keep (hl : laidOutB P = true) {W W' : World} (hb : Below W.heap.size W W') :
  ∀ {ts : List TypeId} {vs : List Value} {ds : List (DataW H)} {p : List MemPlace}, (ts.all fun t => P.readableRec t && decide (t < P.types.size)) = true →
   DataW.TrodAll enc P W 0 (fun _ => true) true ts vs ds p → (∀ x ∈ p, x.block < W.heap.size) → DataW.TrodAll enc P W' 0 (fun b => decide (b < W.heap.size)) true ts vs ds p
 | [], [], [], p, _, h, _ => h
 | t :: ts, v :: vs, d :: ds, p, hr, h, hp => by
  obtain ⟨p1, p2, h1, h2, rfl⟩ := h
  simp only [List.all_cons, Bool.and_eq_true, decide_eq_true_eq] at hr
  exact ⟨p1, p2, Below.trod hl hr.1.1 hr.1.2 h1 hb (fun x hx => hp x (by simp [hx])), trodAll_keep hl hb (by simpa using hr.2) h2 (fun x hx => hp x (by simp [hx])), rfl⟩
 | [], _ :: _, _, _, _, h, _ => h.elim
 | [], [], _ :: _, _, _, h, _ => h.elim
 | _ :: _, [], _, _, _, h, _ => h.elim
 | _ :: _, _ :: _, [], _, _, h, _ => h.elim
theorem post_true (hl : laidOutB P = true) {f : Func} {s : ChangeSpec} {apart : Bool} {W W' : World} {args : Array Value} {ds gs : List (DataW H)} {p : List MemPlace} {tb : TypeId}
  (hW : DataW.Whole enc P f.params.toList s.vars apart W args.toList ds gs p) (hv : s.vars = []) (hr : f.resultTypes = #[tb]) (ht : P.underlying tb = some .bool)
  (hp : (f.params.toList.all fun t => P.readableRec t && decide (t < P.types.size)) = true)
  (hs : s.fn H (ds ++ gs) = ⟨[.lit (.bool true)], ds, []⟩)
  (hb : Below W.heap.size W W') : s.post enc P f apart true false false W args (.bool true) W' := by
 have hlt : ∀ x ∈ p, x.block < W.heap.size := fun x hx => by simpa using hW.lt x hx
 have hW2 := hW
 obtain ⟨p1, p2, hA, hV, rfl, _, _⟩ := hW2
 rw [hv] at hV
 cases gs with
 | cons g gs => exact hV.elim
 | nil =>
  have : p2 = [] := hV
  subst this
  rw [List.append_nil] at hW hlt
  refine ⟨ds, [], p1, [], p1, [], hW, ?_, ?_, ?_, ?_, fun h => by cases h⟩
  · rw [hs, hr]; exact trodAll_mk1 (shut_bool ht true)
  · rw [hs]; exact trodAll_keep hl hb hp hA hlt
  · rw [hs, hv]; exact rfl
  exact hb.frame _
end
section
variable {H : Type} {enc : TypeId × Value → H} {P : Program} {w : World} {base : Nat} {spare : Nat → Bool} {held : Bool}
theorem wf_u8 {n : Int} (h : (Lit.int .u8 n).wf = true) : ∃ m : Nat, n = (m : Int) ∧ m < 256 := by
 obtain ⟨h1, h2⟩ := bounds_u8 h
 exact ⟨n.toNat, by omega, by omega⟩
theorem open_arr {r : Reach} {b0 : Nat} {t e : TypeId} {k : IntKind} {n : Nat} {v : Value} {d : DataW H} {ps : List MemPlace} (ht : P.underlying t = some (.array n e)) (he : P.underlying e = some (.int k)) (hc : P.cellsOf e = 1) (hn : P.cellsOf t = n)
  (hval : Value.okWide P w r b0 t v) (hd : DataW.Trod enc P w base spare held t v d ps) :
  ∃ xs : List Int, v = .agg (xs.map (Value.int k)).toArray ∧ xs.length = n ∧ ∀ x ∈ xs, (Lit.int k x).wf = true := by
 obtain ⟨cs, rfl, hsz, _⟩ : ∃ cs, v = .agg cs ∧ cs.size = P.cellsOf t ∧ Row.okWide P w r b0 t cs := by
  simpa [Value.okWide, ht] using hval
 obtain ⟨fuel, hf⟩ := hd
 obtain ⟨ys, m, _, _, _, hl, hel⟩ := DataW.trod_array ht hf
 obtain ⟨l⟩ := cs
 have hsz' : l.length = n := by rw [hn] at hsz; simpa using hsz
 have key : ∀ i (h : i < l.length), ∃ x, l[i] = .int k x ∧ (Lit.int k x).wf = true := by
  intro i hi
  have hy := hel i (by omega)
  have hi' : i < ys.length := by omega
  rw [List.getElem?_eq_getElem hi'] at hy
  obtain ⟨x, e1, _, w1⟩ := DataW.trod_int he hy
  refine ⟨x, ?_, w1⟩
  have e2 : ((Value.agg l.toArray).cells.toList.drop (i * P.cellsOf e)).take (P.cellsOf e) = [l[i]] := by
   show (l.drop (i * P.cellsOf e)).take (P.cellsOf e) = [l[i]]
   rw [hc, Nat.mul_one, List.drop_eq_getElem_cons hi]
   rfl
  rw [e2] at e1
  simpa using e1
 refine ⟨l.map fun v => match v with | .int _ x => x | _ => 0, ?_, by simpa using hsz', ?_⟩
 ·
  congr 1
  congr 1
  apply List.ext_getElem
  · simp
  intro i h1 h2
  obtain ⟨x, hx, _⟩ := key i h1
  simp [hx]
 intro x hx
 obtain ⟨v, hv, rfl⟩ := List.mem_map.1 hx
 obtain ⟨i, hi, rfl⟩ := List.getElem_of_mem hv
 obtain ⟨y, hy, hw⟩ := key i hi
 simp [hy, hw]
theorem two {xs : List Int} {Q : Int → Prop} (h : xs.length = 2) (hq : ∀ x ∈ xs, Q x) : ∃ a b, xs = [a, b] ∧ Q a ∧ Q b := by
 match xs, h with | [a, b], _ => exact ⟨a, b, rfl, hq a (by simp), hq b (by simp)⟩
theorem three {xs : List Int} {Q : Int → Prop} (h : xs.length = 3) (hq : ∀ x ∈ xs, Q x) : ∃ a b c, xs = [a, b, c] ∧ Q a ∧ Q b ∧ Q c := by
 match xs, h with | [a, b, c], _ => exact ⟨a, b, c, rfl, hq a (by simp), hq b (by simp), hq c (by simp)⟩
end
theorem inv_call (D : FD) (W : World) : Inv D W.heap.size W :=
 ⟨Nat.le_refl _, fun k hk c fr h => by have := heap_lt h; omega⟩
end Go.Gam
/- Polynomials over two elements, as numbers: the laws of a ring, degrees, what is left. No program in sight. -/
namespace Go.Gam.Px
theorem two_xor (a b : Nat) : 2 * (a ^^^ b) = (2 * a) ^^^ (2 * b) := by
 apply Nat.eq_of_testBit_eq
 intro i
 simp only [Nat.testBit_xor]
 cases i with
 | zero => simp
 | succ i =>
  rw [Nat.testBit_succ, Nat.testBit_succ, Nat.testBit_succ]
  simp [Nat.mul_div_cancel_left _ (show 0 < 2 by decide), Nat.testBit_xor]
theorem mul_zero (a : Nat) : mul a 0 = 0 := by unfold mul; simp
theorem mul_step (a b : Nat) (c : Nat) (hc : c < 2) : mul a (2 * b + c) = (if c = 1 then a else 0) ^^^ (2 * mul a b) := by
 by_cases h : 2 * b + c = 0
 ·
  have hb : b = 0 := by omega
  have hc0 : c = 0 := by omega
  subst hb; subst hc0; simp [mul_zero]
 rw [mul, dif_neg h]
 have h1 : (2 * b + c) % 2 = c := by omega
 have h2 : (2 * b + c) / 2 = b := by omega
 rw [h1, h2]
theorem bit_ind {C : Nat → Prop} (h0 : C 0) (h : ∀ b c, c < 2 → C b → C (2 * b + c)) (n : Nat) : C n := by
 induction n using Nat.strongRecOn with
 | _ n ih =>
  by_cases hn : n = 0
  · subst hn; exact h0
  have := h (n / 2) (n % 2) (by omega) (ih (n / 2) (by omega))
  rwa [show 2 * (n / 2) + n % 2 = n from by omega] at this
theorem xor_swap (a b c d : Nat) : (a ^^^ b) ^^^ (c ^^^ d) = (a ^^^ c) ^^^ (b ^^^ d) := by
 rw [Nat.xor_assoc, Nat.xor_assoc, ← Nat.xor_assoc b c d, Nat.xor_comm b c, Nat.xor_assoc c b d]
theorem xor_self_cancel (a b : Nat) : a ^^^ (a ^^^ b) = b := by rw [← Nat.xor_assoc, Nat.xor_self, Nat.zero_xor]
theorem xor_eq_zero {a b : Nat} (h : a ^^^ b = 0) : a = b := by
 have := congrArg (a ^^^ ·) h
 simp only [xor_self_cancel, Nat.xor_zero] at this
 exact this.symm
theorem xor_mul (a a' b : Nat) : mul (a ^^^ a') b = mul a b ^^^ mul a' b := by
 induction b using bit_ind with
 | h0 => simp [mul_zero]
 | h b c hc ih =>
  rw [mul_step _ _ _ hc, mul_step _ _ _ hc, mul_step _ _ _ hc, ih, two_xor]
  by_cases h : c = 1
  · simp only [if_pos h]; exact xor_swap _ _ _ _
  simp only [if_neg h, Nat.zero_xor]
theorem mul_two_left (a b : Nat) : mul (2 * a) b = 2 * mul a b := by
 induction b using bit_ind with
 | h0 => simp [mul_zero]
 | h b c hc ih =>
  rw [mul_step _ _ _ hc, mul_step _ _ _ hc, ih, two_xor]
  by_cases h : c = 1
  · simp only [if_pos h]
  simp only [if_neg h, Nat.mul_zero]
theorem zero_mul (b : Nat) : mul 0 b = 0 := by
 induction b using bit_ind with
 | h0 => simp [mul_zero]
 | h b c hc ih => rw [mul_step _ _ _ hc, ih]; simp
theorem two_add_xor (b c : Nat) (hc : c < 2) : 2 * b + c = (2 * b) ^^^ c := by
 apply Nat.eq_of_testBit_eq
 intro i
 rw [Nat.testBit_xor]
 cases i with
 | zero =>
  simp only [Nat.testBit_zero]
  have : c = 0 ∨ c = 1 := by omega
  rcases this with rfl | rfl <;> simp [Nat.add_mod]
 | succ i =>
  rw [Nat.testBit_succ, Nat.testBit_succ, Nat.testBit_succ]
  have h1 : (2 * b + c) / 2 = b := by omega
  have h2 : 2 * b / 2 = b := by omega
  have h3 : c / 2 = 0 := by omega
  rw [h1, h2, h3]; simp
theorem one_mul (b : Nat) : mul 1 b = b := by
 induction b using bit_ind with
 | h0 => simp [mul_zero]
 | h b c hc ih =>
  rw [mul_step _ _ _ hc, ih, two_add_xor _ _ hc, Nat.xor_comm]
  have : c = 0 ∨ c = 1 := by omega
  rcases this with rfl | rfl <;> simp
theorem mul_comm (a b : Nat) : mul a b = mul b a := by
 induction b using bit_ind with
 | h0 => rw [mul_zero, zero_mul]
 | h b c hc ih =>
  rw [mul_step _ _ _ hc, ih, two_add_xor _ _ hc, xor_mul, mul_two_left, Nat.xor_comm]
  have : c = 0 ∨ c = 1 := by omega
  rcases this with rfl | rfl
  · simp [zero_mul]
  simp [one_mul]
theorem mul_xor (a b c : Nat) : mul a (b ^^^ c) = mul a b ^^^ mul a c := by rw [mul_comm, xor_mul, mul_comm b, mul_comm c]
theorem mul_one (a : Nat) : mul a 1 = a := by rw [mul_comm, one_mul]
theorem mul_two (a : Nat) : mul a 2 = 2 * a := by rw [mul_comm, show (2 : Nat) = 2 * 1 from rfl, mul_two_left, one_mul]
theorem mul_two_right (a b : Nat) : mul a (2 * b) = 2 * mul a b := by rw [mul_comm, mul_two_left, mul_comm]
theorem mul_assoc (a b c : Nat) : mul (mul a b) c = mul a (mul b c) := by
 induction c using bit_ind with
 | h0 => simp [mul_zero]
 | h c d hd ih =>
  rw [mul_step _ _ _ hd, mul_step _ _ _ hd, ih, mul_xor, mul_two_right]
  by_cases h : d = 1
  · simp only [if_pos h]
  simp only [if_neg h, mul_zero]
theorem xor_lt {a b k : Nat} (ha : a < 2 ^ k) (hb : b < 2 ^ k) : a ^^^ b < 2 ^ k := Nat.xor_lt_two_pow ha hb
theorem mul_lt {a b m n : Nat} (ha : a < 2 ^ m) (hb : b < 2 ^ n) : mul a b < 2 ^ (m + n) := by
 induction b using bit_ind generalizing n with
 | h0 => rw [mul_zero]; exact Nat.two_pow_pos _
 | h b c hc ih =>
  by_cases hz : 2 * b + c = 0
  · rw [hz, mul_zero]; exact Nat.two_pow_pos _
  obtain ⟨n, rfl⟩ : ∃ k, n = k + 1 := ⟨n - 1, by
   have : n ≠ 0 := by rintro rfl; simp at hb; omega
   omega⟩
  have hb' : b < 2 ^ n := by rw [Nat.pow_succ] at hb; omega
  have h1 := ih hb'
  rw [mul_step _ _ _ hc]
  refine xor_lt ?_ (by rw [← Nat.add_assoc, Nat.pow_succ]; omega)
  split
  · exact Nat.lt_of_lt_of_le ha (Nat.pow_le_pow_right (by decide) (by omega))
  exact Nat.two_pow_pos _
def hb (d a : Nat) : Prop := 2 ^ d ≤ a ∧ a < 2 ^ (d + 1)
theorem hb_pos {d a : Nat} (h : hb d a) : a ≠ 0 := by have := h.1; have := Nat.two_pow_pos d; omega
theorem hb_log {a : Nat} (h : a ≠ 0) : hb (Nat.log2 a) a := ⟨Nat.log2_self_le h, Nat.lt_log2_self⟩
theorem hb_uniq {d e a : Nat} (h : hb d a) (k : hb e a) : d = e := by
 rcases Nat.lt_trichotomy d e with hl | he | hg
 · have : 2 ^ (d + 1) ≤ 2 ^ e := Nat.pow_le_pow_right (by decide) hl
   have := h.2; have := k.1; omega
 · exact he
 have : 2 ^ (e + 1) ≤ 2 ^ d := Nat.pow_le_pow_right (by decide) hg
 have := h.1; have := k.2; omega
theorem hb_eq_log {d a : Nat} (h : hb d a) : Nat.log2 a = d := hb_uniq (hb_log (hb_pos h)) h
theorem hb_testBit {d a : Nat} : hb d a ↔ a.testBit d = true ∧ a < 2 ^ (d + 1) := by
 constructor
 ·
  rintro ⟨h1, h2⟩
  refine ⟨?_, h2⟩
  have h3 : a / 2 ^ d = 1 := by
   apply Nat.div_eq_of_lt_le
   · simpa using h1
   simpa [Nat.pow_succ, Nat.mul_comm] using h2
  simp [Nat.testBit, Nat.shiftRight_eq_div_pow, h3]
 rintro ⟨h1, h2⟩
 exact ⟨Nat.ge_two_pow_of_testBit h1, h2⟩
theorem lt_of_bit {x n : Nat} (h : x < 2 ^ (n + 1)) (hb' : x.testBit n = false) : x < 2 ^ n := by
 rcases Nat.lt_or_ge x (2 ^ n) with h1 | h1
 · exact h1
 rw [(hb_testBit.1 ⟨h1, h⟩).1] at hb'; cases hb'
theorem hb_xor {d a b : Nat} (ha : hb d a) (hb' : b < 2 ^ d) : hb d (a ^^^ b) := by
 rw [hb_testBit] at ha ⊢
 refine ⟨?_, xor_lt ha.2 (Nat.lt_of_lt_of_le hb' (Nat.pow_le_pow_right (by decide) (by omega)))⟩
 rw [Nat.testBit_xor, ha.1, Nat.testBit_lt_two_pow hb']
 rfl
theorem hb_two {d a : Nat} (h : hb d a) : hb (d + 1) (2 * a) := by
 unfold hb at *; rw [Nat.pow_succ, Nat.pow_succ 2 (d + 1)]; omega
theorem hb_mul {d e a b : Nat} (ha : hb d a) (hb' : hb e b) : hb (d + e) (mul a b) := by
 induction b using bit_ind generalizing e with
 | h0 => exact absurd rfl (hb_pos hb')
 | h b c hc ih =>
  rw [mul_step _ _ _ hc]
  by_cases hz : b = 0
  ·
   subst hz
   have h1 : c = 1 := by have := hb_pos hb'; omega
   subst h1
   have : e = 0 := by
    have := hb'.1
    rcases Nat.eq_zero_or_pos e with h | h
    · exact h
    have : 2 ^ 1 ≤ 2 ^ e := Nat.pow_le_pow_right (by decide) h
    omega
   subst this
   simpa [mul_zero] using ha
  obtain ⟨e', he'⟩ : ∃ e', hb e' b := ⟨_, hb_log hz⟩
  have : e = e' + 1 := by
   refine hb_uniq hb' ?_
   have := hb_two he'
   unfold hb at this ⊢
   refine ⟨by omega, ?_⟩
   have h2 : 2 ^ (e' + 1 + 1) = 2 * 2 ^ (e' + 1) := by rw [Nat.pow_succ, Nat.mul_comm]
   have := he'.2
   omega
  subst this
  have h1 := hb_two (ih he')
  rw [Nat.xor_comm]
  refine hb_xor h1 ?_
  split
  · exact Nat.lt_of_lt_of_le ha.2 (Nat.pow_le_pow_right (by decide) (by omega))
  exact Nat.two_pow_pos _
theorem log2_mul {a b : Nat} (ha : a ≠ 0) (hb' : b ≠ 0) : Nat.log2 (mul a b) = Nat.log2 a + Nat.log2 b := hb_eq_log (hb_mul (hb_log ha) (hb_log hb'))
theorem mul_pow_two (a k : Nat) : mul a (2 ^ k) = a <<< k := by
 induction k with
 | zero => simp [mul_one]
 | succ k ih => rw [Nat.pow_succ, Nat.mul_comm, mul_two_right, ih, Nat.shiftLeft_succ_inside, Nat.shiftLeft_eq, Nat.shiftLeft_eq]; rw [Nat.mul_assoc 2 a]
theorem modN_spec (p d : Nat) (hp : hb d p) : ∀ (k a : Nat), a < 2 ^ (d + k) → modN p d k a < 2 ^ d ∧ ∃ q, a = mul q p ^^^ modN p d k a := by
 intro k
 induction k with
 | zero => intro a ha; exact ⟨by simpa [modN] using ha, 0, by simp [modN, zero_mul]⟩
 | succ k ih =>
  intro a ha
  have h2 : red p d a (d + k) < 2 ^ (d + k) := by
   unfold red
   rw [show d + k - d = k from by omega]
   split
   ·
    rename_i hbit
    have hs : p <<< k < 2 ^ (d + k + 1) := by
     rw [Nat.shiftLeft_eq, show d + k + 1 = d + 1 + k from by omega, Nat.pow_add 2 (d + 1) k]
     exact Nat.mul_lt_mul_of_pos_right hp.2 (Nat.two_pow_pos _)
    have hx : a ^^^ (p <<< k) < 2 ^ (d + k + 1) := xor_lt ha hs
    refine lt_of_bit hx ?_
    rw [Nat.testBit_xor, hbit, Nat.testBit_shiftLeft]
    simp [(hb_testBit.1 hp).1]
   rename_i hbit
   exact lt_of_bit ha (by simpa using hbit)
  obtain ⟨h3, q, hq⟩ := ih _ h2
  refine ⟨by simpa [modN] using h3, ?_⟩
  simp only [modN]
  by_cases hbit : a.testBit (d + k) = true
  · refine ⟨q ^^^ 2 ^ k, ?_⟩
    have e : red p d a (d + k) = a ^^^ (p <<< k) := by unfold red; rw [if_pos hbit, show d + k - d = k from by omega]
    rw [xor_mul, mul_comm (2 ^ k) p, mul_pow_two, Nat.xor_assoc, Nat.xor_comm (p <<< k), ← Nat.xor_assoc, ← hq, e, Nat.xor_assoc, Nat.xor_self, Nat.xor_zero]
  have e : red p d a (d + k) = a := by unfold red; rw [if_neg hbit]
  exact ⟨q, by rw [e] at hq ⊢; exact hq⟩
theorem mod_spec (a p : Nat) (hp : p ≠ 0) : mod a p < 2 ^ Nat.log2 p ∧ ∃ q, a = mul q p ^^^ mod a p := by
 unfold mod
 rw [if_neg hp]
 refine modN_spec p _ (hb_log hp) _ a ?_
 by_cases ha : a = 0
 · subst ha; exact Nat.two_pow_pos _
 exact Nat.lt_of_lt_of_le (hb_log ha).2 (Nat.pow_le_pow_right (by decide) (by omega))
theorem small_multiple {p q r : Nat} (hp : p ≠ 0) (hr : r < 2 ^ Nat.log2 p) (h : r = mul q p) : r = 0 := by
 by_cases hq : q = 0
 · rw [h, hq, zero_mul]
 have h1 := (hb_mul (hb_log hq) (hb_log hp)).1
 rw [← h] at h1
 have : 2 ^ Nat.log2 p ≤ 2 ^ (Nat.log2 q + Nat.log2 p) := Nat.pow_le_pow_right (by decide) (by omega)
 omega
theorem mod_eq {a p r q : Nat} (hp : p ≠ 0) (hr : r < 2 ^ Nat.log2 p) (h : a = mul q p ^^^ r) : mod a p = r := by
 obtain ⟨h1, q', h2⟩ := mod_spec a p hp
 have h3 : mod a p ^^^ r = mul (q ^^^ q') p := by
  rw [xor_mul]
  have : mul q p ^^^ r = mul q' p ^^^ mod a p := by rw [← h, ← h2]
  have h4 := congrArg (fun z => (mul q' p ^^^ z) ^^^ r) this
  simp only [xor_self_cancel] at h4
  rw [← h4, Nat.xor_assoc, Nat.xor_assoc, Nat.xor_self, Nat.xor_zero, Nat.xor_comm]
 exact xor_eq_zero (small_multiple hp (xor_lt h1 hr) h3)
theorem mod_lt (a : Nat) {p : Nat} (hp : p ≠ 0) : mod a p < 2 ^ Nat.log2 p := (mod_spec a p hp).1
theorem mod_small {a p : Nat} (hp : p ≠ 0) (ha : a < 2 ^ Nat.log2 p) : mod a p = a := mod_eq hp ha (q := 0) (by simp [zero_mul])
theorem mod_zero (a : Nat) : mod a 0 = 0 := by simp [mod]
theorem zero_mod (p : Nat) : mod 0 p = 0 := by
 by_cases hp : p = 0
 · simp [mod, hp]
 exact mod_small hp (Nat.two_pow_pos _)
theorem xor_mod (a b p : Nat) : mod (a ^^^ b) p = mod a p ^^^ mod b p := by
 by_cases hp : p = 0
 · simp [mod, hp]
 obtain ⟨h1, q1, e1⟩ := mod_spec a p hp
 obtain ⟨h2, q2, e2⟩ := mod_spec b p hp
 refine mod_eq hp (xor_lt h1 h2) (q := q1 ^^^ q2) ?_
 rw [xor_mul, xor_swap, ← e1, ← e2]
theorem mod_mul_self (q p : Nat) : mod (mul q p) p = 0 := by
 by_cases hp : p = 0
 · simp [mod, hp]
 exact mod_eq hp (Nat.two_pow_pos _) (q := q) (by simp)
theorem mod_mod (a p : Nat) : mod (mod a p) p = mod a p := by
 by_cases hp : p = 0
 · simp [mod, hp]
 exact mod_small hp (mod_lt a hp)
theorem mod_mul_left (a b p : Nat) : mod (mul (mod a p) b) p = mod (mul a b) p := by
 by_cases hp : p = 0
 · simp [mod, hp]
 obtain ⟨h1, q, e⟩ := mod_spec a p hp
 conv => rhs; rw [e]
 rw [xor_mul, xor_mod, mul_assoc, mul_comm p b, ← mul_assoc, mod_mul_self, Nat.zero_xor]
theorem mod_mul_right (a b p : Nat) : mod (mul a (mod b p)) p = mod (mul a b) p := by rw [mul_comm, mod_mul_left, mul_comm]
def Dvd (p a : Nat) : Prop := ∃ q, a = mul q p
theorem mod_eq_zero {a p : Nat} (hp : p ≠ 0) : mod a p = 0 ↔ Dvd p a := by
 constructor
 ·
  intro h
  obtain ⟨_, q, e⟩ := mod_spec a p hp
  exact ⟨q, by rw [h, Nat.xor_zero] at e; exact e⟩
 rintro ⟨q, rfl⟩; exact mod_mul_self q p
theorem mulMod_comm (a b p : Nat) : mulMod a b p = mulMod b a p := by simp [mulMod, mul_comm]
theorem mulMod_assoc (a b c p : Nat) : mulMod (mulMod a b p) c p = mulMod a (mulMod b c p) p := by
 simp only [mulMod, mod_mul_left, mod_mul_right, mul_assoc]
theorem mulMod_lt (a b : Nat) {p : Nat} (hp : p ≠ 0) : mulMod a b p < 2 ^ Nat.log2 p := mod_lt _ hp
theorem mulMod_xor (a b c p : Nat) : mulMod a (b ^^^ c) p = mulMod a b p ^^^ mulMod a c p := by simp only [mulMod, mul_xor, xor_mod]
theorem mulMod_one {a p : Nat} (hp : p ≠ 0) (ha : a < 2 ^ Nat.log2 p) : mulMod a 1 p = a := by simp only [mulMod, mul_one]; exact mod_small hp ha
end Go.Gam.Px
/- Finite fields whose sum is exclusive or: powers, inverses, Fermat, how many roots a polynomial has. No program in sight. -/
namespace Go.Gam
structure Fld where
 w : Nat
 mul : Nat → Nat → Nat
 lt : ∀ a b, mul a b < 2 ^ w
 comm : ∀ a b, mul a b = mul b a
 assoc : ∀ a b c, mul (mul a b) c = mul a (mul b c)
 dist : ∀ a b c, mul a (b ^^^ c) = mul a b ^^^ mul a c
 one : ∀ a, a < 2 ^ w → mul 1 a = a
 nzd : ∀ a b, a < 2 ^ w → b < 2 ^ w → mul a b = 0 → a = 0 ∨ b = 0
 pos : 1 ≤ w
namespace Fld
variable (F : Fld)
theorem one_lt : 1 < 2 ^ F.w := by have := Nat.pow_le_pow_right (n := 2) (by decide) F.pos; omega
theorem zero_lt : 0 < 2 ^ F.w := Nat.two_pow_pos _
theorem mul_zero (a : Nat) : F.mul a 0 = 0 := by
 have h := F.dist a 0 0
 rw [Nat.xor_self, Nat.xor_self] at h
 exact h
theorem mul_one (a : Nat) (h : a < 2 ^ F.w) : F.mul a 1 = a := by rw [F.comm, F.one a h]
theorem dist_r (a b c : Nat) : F.mul (a ^^^ b) c = F.mul a c ^^^ F.mul b c := by rw [F.comm, F.dist, F.comm c, F.comm c]
theorem cancel {a b c : Nat} (ha : a < 2 ^ F.w) (hb : b < 2 ^ F.w) (hc : c < 2 ^ F.w) (h0 : c ≠ 0) (h : F.mul a c = F.mul b c) : a = b := by
 have h1 : F.mul (a ^^^ b) c = 0 := by rw [dist_r, h, Nat.xor_self]
 rcases F.nzd _ _ (Px.xor_lt ha hb) hc h1 with h2 | h2
 · exact Px.xor_eq_zero h2
 exact absurd h2 h0
def pow (a : Nat) : Nat → Nat
 | 0 => 1
 | n + 1 => F.mul (pow a n) a
theorem pow_lt (a n : Nat) : F.pow a n < 2 ^ F.w := by cases n with | zero => exact F.one_lt | succ n => exact F.lt _ _
theorem pow_one (a : Nat) (h : a < 2 ^ F.w) : F.pow a 1 = a := F.one a h
theorem pow_add (a m : Nat) : ∀ n, F.pow a (m + n) = F.mul (F.pow a m) (F.pow a n)
 | 0 => by rw [Nat.add_zero]; exact (F.mul_one _ (F.pow_lt a m)).symm
 | n + 1 => by rw [← Nat.add_assoc, pow, pow_add a m n, pow, F.assoc]
theorem one_pow : ∀ n, F.pow 1 n = 1
 | 0 => rfl
 | n + 1 => by rw [pow, one_pow n]; exact F.one 1 F.one_lt
theorem pow_mul (a m : Nat) : ∀ n, F.pow (F.pow a m) n = F.pow a (m * n)
 | 0 => rfl
 | n + 1 => by rw [pow, pow_mul a m n, Nat.mul_succ, pow_add]
theorem mul_pow (a b : Nat) : ∀ n, F.pow (F.mul a b) n = F.mul (F.pow a n) (F.pow b n)
 | 0 => (F.one 1 F.one_lt).symm
 | n + 1 => by
  rw [pow, mul_pow a b n, pow, pow, F.assoc, F.assoc]
  congr 1
  rw [← F.assoc, F.comm _ a, F.assoc]
theorem zero_pow : ∀ n, n ≠ 0 → F.pow 0 n = 0
 | 0, h => absurd rfl h
 | n + 1, _ => F.mul_zero _
theorem pow_ne {a : Nat} (h : a < 2 ^ F.w) (h0 : a ≠ 0) : ∀ n, F.pow a n ≠ 0
 | 0 => Nat.one_ne_zero
 | n + 1 => fun e => by
  rcases F.nzd _ _ (F.pow_lt a n) h e with h1 | h1
  · exact pow_ne h h0 n h1
  exact h0 h1
theorem perm_of_sub : ∀ (l1 l2 : List Nat), l1.Nodup → (∀ x ∈ l1, x ∈ l2) → l2.length ≤ l1.length → l1.Perm l2 := by
 intro l1
 induction l1 with
 | nil =>
  intro l2 _ _ h
  have : l2 = [] := List.eq_nil_of_length_eq_zero (by simpa using h)
  subst this; exact List.Perm.refl _
 | cons a t ih =>
  intro l2 hn hs hl
  have ha : a ∈ l2 := hs a (by simp)
  have h1 := List.perm_cons_erase ha
  refine List.Perm.trans (List.Perm.cons a (ih (l2.erase a) (List.nodup_cons.1 hn).2 (fun x hx => ?_) ?_)) h1.symm
  · have hne : x ≠ a := fun e => (List.nodup_cons.1 hn).1 (e ▸ hx)
    exact (List.mem_erase_of_ne hne).2 (hs x (by simp [hx]))
  rw [List.length_erase_of_mem ha]
  simp at hl; omega
def prod (l : List Nat) : Nat := l.foldr F.mul 1
theorem prod_lt (l : List Nat) : F.prod l < 2 ^ F.w := by cases l with | nil => exact F.one_lt | cons => exact F.lt _ _
theorem prod_perm {l1 l2 : List Nat} (h : l1.Perm l2) : F.prod l1 = F.prod l2 := by
 induction h with
 | nil => rfl
 | cons a _ ih => show F.mul a _ = F.mul a _; exact congrArg _ ih
 | swap a b l => show F.mul b (F.mul a _) = F.mul a (F.mul b _); rw [← F.assoc, ← F.assoc, F.comm a b]
 | trans _ _ h1 h2 => exact h1.trans h2
theorem prod_map (a : Nat) : ∀ l : List Nat, F.prod (l.map (F.mul a)) = F.mul (F.pow a l.length) (F.prod l)
 | [] => (F.one 1 F.one_lt).symm
 | b :: r => by
  have ih := prod_map a r
  show F.mul (F.mul a b) (F.prod (r.map (F.mul a))) = F.mul (F.mul (F.pow a r.length) a) (F.mul b (F.prod r))
  rw [ih, F.assoc, F.assoc]
  rw [← F.assoc b, F.comm b, F.assoc, ← F.assoc a, F.comm a, F.assoc]
theorem prod_ne : ∀ l : List Nat, (∀ x ∈ l, x < 2 ^ F.w ∧ x ≠ 0) → F.prod l ≠ 0
 | [], _ => Nat.one_ne_zero
 | b :: r, h => fun e => by
  rcases F.nzd _ _ (h b (by simp)).1 (F.prod_lt r) e with h1 | h1
  · exact (h b (by simp)).2 h1
  exact prod_ne r (fun x hx => h x (by simp [hx])) h1
theorem fermat {a : Nat} (h : a < 2 ^ F.w) (h0 : a ≠ 0) : F.pow a (2 ^ F.w - 1) = 1 := by
 let L := List.range' 1 (2 ^ F.w - 1)
 have hm : ∀ x, x ∈ L ↔ x < 2 ^ F.w ∧ x ≠ 0 := by
  intro x
  have := F.one_lt
  simp only [L, List.mem_range'_1]
  omega
 have hp : (L.map (F.mul a)).Perm L := by
  refine perm_of_sub _ _ ?_ ?_ (by simp)
  ·
   refine List.Pairwise.map (F.mul a) (R := fun x y => x ∈ L ∧ y ∈ L ∧ x ≠ y) ?_ ?_
   · rintro x y ⟨hx, hy, hne⟩ e
     rw [hm] at hx hy
     rw [F.comm a x, F.comm a y] at e
     exact hne (F.cancel hx.1 hy.1 h h0 e)
   have hnd : L.Nodup := List.nodup_range'
   exact List.Pairwise.imp_of_mem (fun hx hy hne => ⟨hx, hy, hne⟩) hnd
  intro x hx
  obtain ⟨y, hy, rfl⟩ := List.mem_map.1 hx
  rw [hm] at hy ⊢
  refine ⟨F.lt _ _, fun e => ?_⟩
  rcases F.nzd _ _ h hy.1 e with h1 | h1
  · exact h0 h1
  exact hy.2 h1
 have h1 := F.prod_perm hp
 rw [F.prod_map] at h1
 have hl : L.length = 2 ^ F.w - 1 := by simp [L]
 rw [hl] at h1
 have hne := F.prod_ne L (fun x hx => (hm x).1 hx)
 refine F.cancel (F.pow_lt _ _) F.one_lt (F.prod_lt L) hne ?_
 rw [h1, F.one _ (F.prod_lt L)]
theorem pow_size {a : Nat} (h : a < 2 ^ F.w) : F.pow a (2 ^ F.w) = a := by
 have e : 2 ^ F.w = (2 ^ F.w - 1) + 1 := by have := F.one_lt; omega
 by_cases h0 : a = 0
 · subst h0; exact F.zero_pow _ (by have := F.one_lt; omega)
 rw [e, pow, F.fermat h h0, F.one a h]
theorem sq_xor (a b : Nat) : F.mul (a ^^^ b) (a ^^^ b) = F.mul a a ^^^ F.mul b b := by
 rw [F.dist, F.dist_r, F.dist_r, F.comm b a, Px.xor_swap]
 rw [Nat.xor_assoc (F.mul a a)]
 congr 1
 rw [← Nat.xor_assoc, Nat.xor_self, Nat.zero_xor]
def eval : List Nat → Nat → Nat
 | [], _ => 0
 | c :: r, x => c ^^^ F.mul x (eval r x)
def quot : List Nat → Nat → List Nat
 | [], _ => []
 | _ :: r, x => match r with
  | [] => []
  | _ :: _ => F.eval r x :: quot r x
theorem eval_lt {l : List Nat} (h : ∀ c ∈ l, c < 2 ^ F.w) (x : Nat) : F.eval l x < 2 ^ F.w := by
 cases l with
 | nil => exact F.zero_lt
 | cons c r => exact Px.xor_lt (h c (by simp)) (F.lt _ _)
theorem quot_len : ∀ (l : List Nat) (x : Nat), (F.quot l x).length = l.length - 1
 | [], _ => rfl
 | [_], _ => rfl
 | _ :: b :: r, x => by
  have := quot_len (b :: r) x
  simp only [quot] at this ⊢
  simp only [List.length_cons, this]; simp
theorem quot_mem {l : List Nat} (h : ∀ c ∈ l, c < 2 ^ F.w) (x : Nat) : ∀ c ∈ F.quot l x, c < 2 ^ F.w := by
 induction l with
 | nil => intro c hc; simp [quot] at hc
 | cons a r ih =>
  cases r with
  | nil => intro c hc; simp [quot] at hc
  | cons b r =>
   intro c hc
   simp only [quot, List.mem_cons] at hc
   rcases hc with rfl | hc
   · exact F.eval_lt (fun d hd => h d (by simp only [List.mem_cons] at hd ⊢; exact .inr hd)) x
   exact ih (fun d hd => h d (by simp only [List.mem_cons] at hd ⊢; exact .inr hd)) c hc
theorem eval_quot (r : Nat) (hr : r < 2 ^ F.w) : ∀ (l : List Nat) (x : Nat), x < 2 ^ F.w → F.eval l x ^^^ F.eval l r = F.mul (x ^^^ r) (F.eval (F.quot l r) x)
 | [], x, _ => by simp [eval, quot, F.mul_zero]
 | [c], x, _ => by simp [eval, quot, F.mul_zero]
 | c :: b :: l, x, hx => by
  have ih := eval_quot r hr (b :: l) x hx
  generalize hg : b :: l = g at *
  have hq : F.quot (c :: g) r = F.eval g r :: F.quot g r := by subst hg; rfl
  rw [hq]
  simp only [eval]
  have e1 : (c ^^^ F.mul x (F.eval g x)) ^^^ (c ^^^ F.mul r (F.eval g r)) = F.mul x (F.eval g x) ^^^ F.mul r (F.eval g r) := by
   rw [Px.xor_swap, Nat.xor_self, Nat.zero_xor]
  have e2 : F.eval g x = F.eval g r ^^^ F.mul (x ^^^ r) (F.eval (F.quot g r) x) := by rw [← ih, Nat.xor_comm (F.eval g x), Px.xor_self_cancel]
  rw [e1, e2, F.dist, F.dist, F.dist_r x r (F.eval g r)]
  rw [← F.assoc, ← F.assoc, F.comm x (x ^^^ r), Nat.xor_assoc, Nat.xor_assoc]
  congr 1
  rw [Nat.xor_comm]
theorem quot_zero {r : Nat} : ∀ (l : List Nat), (∀ c ∈ F.quot l r, c = 0) → F.eval l r = 0 → ∀ c ∈ l, c = 0
 | [], _, _ => by simp
 | [c], _, h => by
  intro d hd
  simp at hd; subst hd
  simpa [eval, F.mul_zero] using h
 | c :: b :: l, hq, h => by
  have hq1 : F.eval (b :: l) r = 0 := hq _ (by simp only [quot, List.mem_cons]; exact .inl trivial)
  have ih := quot_zero (b :: l) (fun d hd => hq d (by simp only [quot, List.mem_cons]; exact .inr hd)) hq1
  intro d hd
  rcases List.mem_cons.1 hd with rfl | hd
  ·
   simp only [eval] at h hq1
   have h2 : F.mul r (b ^^^ F.mul r (F.eval l r)) = 0 := by rw [hq1, F.mul_zero]
   rw [h2, Nat.xor_zero] at h
   exact h
  exact ih d hd
theorem roots : ∀ (n : Nat) (l xs : List Nat), l.length = n → n ≤ xs.length → (∀ c ∈ l, c < 2 ^ F.w) → (∀ x ∈ xs, x < 2 ^ F.w) → xs.Nodup → (∀ x ∈ xs, F.eval l x = 0) → ∀ c ∈ l, c = 0 := by
 intro n
 induction n with
 | zero =>
  intro l xs hl _ _ _ _ _
  have : l = [] := List.eq_nil_of_length_eq_zero hl
  subst this; simp
 | succ n ih =>
  intro l xs hl hn hc hx hnd hroot
  cases xs with
  | nil => simp at hn
  | cons r ys =>
   have hr := hx r (by simp)
   refine F.quot_zero l ?_ (hroot r (by simp))
   refine ih (F.quot l r) ys (by rw [F.quot_len, hl]; rfl) (by simp at hn; omega) (F.quot_mem hc r) (fun x hx' => hx x (by simp [hx'])) (List.nodup_cons.1 hnd).2 (fun y hy => ?_)
   have h1 := F.eval_quot r hr l y (hx y (by simp [hy]))
   rw [hroot y (by simp [hy]), hroot r (by simp), Nat.xor_self] at h1
   rcases F.nzd _ _ (Px.xor_lt (hx y (by simp [hy])) hr) (F.eval_lt (F.quot_mem hc r) y) h1.symm with h2 | h2
   · have := Px.xor_eq_zero h2
     subst this
     exact absurd hy (List.nodup_cons.1 hnd).1
   exact h2
theorem eval_zeros (k : Nat) (l : List Nat) (x : Nat) (hx : x < 2 ^ F.w) (hl : ∀ c ∈ l, c < 2 ^ F.w) : F.eval (List.replicate k 0 ++ l) x = F.mul (F.pow x k) (F.eval l x) := by
 induction k with
 | zero => simp only [List.replicate_zero, List.nil_append, pow]; exact (F.one _ (F.eval_lt hl x)).symm
 | succ k ih =>
  rw [List.replicate_succ, List.cons_append, eval, ih, Nat.zero_xor, pow, ← F.assoc, F.comm x]
end Fld
end Go.Gam
/- Plain lemmas in the spelling that the walks of polynomials leave. No program in sight. -/
namespace Go.Gam
open Px
def blen (n : Nat) : Nat := if n = 0 then 0 else Nat.log2 n + 1
theorem blen_hb {d n : Nat} (h : hb d n) : blen n = d + 1 := by unfold blen; rw [if_neg (hb_pos h), hb_eq_log h]
theorem lt_blen (n : Nat) : n < 2 ^ blen n := by
 unfold blen
 split
 · rename_i h; subst h; simp
 rename_i h; exact (hb_log h).2
theorem blen_le {n k : Nat} (h : n < 2 ^ k) : blen n ≤ k := by
 unfold blen
 split
 · omega
 rename_i hn
 rcases Nat.lt_or_ge (Nat.log2 n) k with h1 | h1
 · exact h1
 have := (hb_log hn).1
 have : 2 ^ k ≤ 2 ^ Nat.log2 n := Nat.pow_le_pow_right (by decide) h1
 omega
theorem deg_blen (p : Nat) : ((blen p : Int) - 1) = deg p := by unfold blen deg; split <;> simp
theorem blen_shift {x k : Nat} (h : 2 ^ k ≤ x) : blen (x / 2 ^ k) + k = blen x := by
 have hx : x ≠ 0 := by have := Nat.two_pow_pos k; omega
 have h1 := hb_log hx
 have hk : k ≤ Nat.log2 x := by
  rcases Nat.lt_or_ge (Nat.log2 x) k with h2 | h2
  · have : 2 ^ (Nat.log2 x + 1) ≤ 2 ^ k := Nat.pow_le_pow_right (by decide) h2
    have := h1.2; omega
  exact h2
 have : hb (Nat.log2 x - k) (x / 2 ^ k) := by
  refine ⟨?_, ?_⟩
  · rw [Nat.le_div_iff_mul_le (Nat.two_pow_pos _), ← Nat.pow_add, Nat.sub_add_cancel hk]; exact h1.1
  rw [Nat.div_lt_iff_lt_mul (Nat.two_pow_pos _), ← Nat.pow_add, show Nat.log2 x - k + 1 + k = Nat.log2 x + 1 from by omega]; exact h1.2
 rw [blen_hb this, blen_hb h1]; omega
theorem blen_table : ∀ x, x < 256 → ((List.range 256).map fun n => UInt8.ofNat (blen n))[x]? = some (UInt8.ofNat (blen x)) := by
 intro x hx
 simp [hx]
theorem blen_byte {x : Nat} (hx : x < 256) : (((UInt8.ofNat (blen x)).toNat : Nat) : Int) = (blen x : Int) := by
 have := blen_le (n := x) (k := 8) (by simpa using hx)
 have h2 : (UInt8.ofNat (blen x)).toNat = blen x := by simp; omega
 rw [h2]
theorem toNat_c (n : Nat) : ((n : Int)).toNat = n := Int.toNat_natCast n
theorem bit_says {b i : Nat} (k : IntKind) (hi : i ≤ k.bits) : decide (((b / 2 ^ (min ((i : Int)).toNat k.bits) &&& 1 : Nat) : Int) = 1) = b.testBit i := by
 rw [toNat_c, Nat.min_eq_left hi, Nat.and_one_is_mod, Nat.testBit, Nat.shiftRight_eq_div_pow]
 have h : b / 2 ^ i % 2 = 0 ∨ b / 2 ^ i % 2 = 1 := by omega
 rcases h with h | h <;> simp [h, Nat.and_comm 1, Nat.and_one_is_mod]
theorem bit_T {b i : Nat} (k : IntKind) (hi : i ≤ k.bits) (h : ((b / 2 ^ (min ((i : Int)).toNat k.bits) &&& 1 : Nat) : Int) = 1) : b.testBit i = true := by rw [← bit_says k hi]; exact decide_eq_true h
theorem bit_F {b i : Nat} (k : IntKind) (hi : i ≤ k.bits) (h : ¬ ((b / 2 ^ (min ((i : Int)).toNat k.bits) &&& 1 : Nat) : Int) = 1) : b.testBit i = false := by rw [← bit_says k hi]; exact decide_eq_false h
theorem shl_says {a i : Nat} (h : a * 2 ^ i < 18446744073709551616) (hi : i ≤ 64) : IntKind.u64.wrap ((a : Int) * 2 ^ (min ((i : Int)).toNat IntKind.u64.bits)) = ((a <<< i : Nat) : Int) := by
 have e : (a : Int) * 2 ^ (min ((i : Int)).toNat IntKind.u64.bits) = ((a * 2 ^ i : Nat) : Int) := by
  rw [toNat_c, Nat.min_eq_left (by simpa [IntKind.bits] using hi)]; simp
 rw [e, wrap_u64 _ (by omega), Nat.shiftLeft_eq]
theorem shl_lt {a i m : Nat} (ha : a < 2 ^ m) : a * 2 ^ i < 2 ^ (m + i) := by rw [Nat.pow_add]; exact Nat.mul_lt_mul_of_pos_right ha (Nat.two_pow_pos _)
theorem div_lt {b m k : Nat} (h : b < m) : b / k < m := Nat.lt_of_le_of_lt (Nat.div_le_self _ _) h
theorem mod_bit (b i : Nat) : b % 2 ^ (i + 1) = (b % 2 ^ i) ^^^ (if b.testBit i then 2 ^ i else 0) := by
 apply Nat.eq_of_testBit_eq
 intro j
 rw [Nat.testBit_mod_two_pow, Nat.testBit_xor, Nat.testBit_mod_two_pow]
 by_cases h : b.testBit i = true
 ·
  rw [if_pos h, Nat.testBit_two_pow]
  by_cases hj : i = j
  · subst hj; simp [h]
  have : decide (i = j) = false := by simp [hj]
  rw [this, Bool.xor_false]
  congr 1
  simp; omega
 rw [if_neg h, Nat.zero_testBit, Bool.xor_false]
 by_cases hj : j = i
 · subst hj; simp at h; simp [h]
 congr 1
 simp; omega
theorem mul_bit (a b i : Nat) : mul a (b % 2 ^ (i + 1)) = mul a (b % 2 ^ i) ^^^ (if b.testBit i then a <<< i else 0) := by
 rw [mod_bit, mul_xor]
 split
 · rw [mul_pow_two]
 rw [mul_zero]
theorem mul_all (a b : Nat) : mul a (b % 2 ^ blen b) = mul a b := by rw [Nat.mod_eq_of_lt (lt_blen b)]
theorem mul_none (a b : Nat) : mul a (b % 2 ^ 0) = 0 := by simp [Nat.mod_one, mul_zero]
theorem mul_lt64 {a b : Nat} (ha : a < 4294967296) (hb' : b < 4294967296) : mul a b < 18446744073709551616 := mul_lt (m := 32) (n := 32) ha hb'
theorem log2_lt {p k : Nat} (h0 : p ≠ 0) (h : p < 2 ^ k) : Nat.log2 p < k := by
 rcases Nat.lt_or_ge (Nat.log2 p) k with h1 | h1
 · exact h1
 have := (hb_log h0).1; have : 2 ^ k ≤ 2 ^ Nat.log2 p := Nat.pow_le_pow_right (by decide) h1
 omega
theorem mod_lt32 (a : Nat) {p : Nat} (h : p < 4294967296) : mod a p < 4294967296 := by
 by_cases h0 : p = 0
 · subst h0; rw [mod_zero]; decide
 have h1 := log2_lt h0 (k := 32) h
 have : 2 ^ Nat.log2 p ≤ 2 ^ 31 := Nat.pow_le_pow_right (by decide) (by omega)
 have := mod_lt a h0
 have e : (2 : Nat) ^ 31 = 2147483648 := by decide
 omega
theorem deg_pos {p : Nat} (h : p ≠ 0) : deg p = (Nat.log2 p : Int) := by unfold deg; rw [if_neg h]
theorem deg_zero : deg 0 = -1 := rfl
theorem deg_ge (p : Nat) : -1 ≤ deg p := by unfold deg; split <;> omega
theorem deg_lt {p k : Nat} (h : p < 2 ^ k) : deg p < (k : Int) := by
 unfold deg; split
 · omega
 rename_i h0; have := log2_lt h0 h; omega
structure ModAt (A p : Nat) (i : Int) (a : Nat) : Prop where
 lo : (Nat.log2 p : Int) - 1 ≤ i
 hi : i < 64
 lt : a < 2 ^ (i + 1).toNat
 eq : modN p (Nat.log2 p) (i + 1 - Nat.log2 p).toNat a = mod A p
theorem modAt_start {A p : Nat} (hp : p ≠ 0) (hA : A < 2 ^ 64) (h : (Nat.log2 p : Int) ≤ deg A) : ModAt A p (deg A) A := by
 have hA0 : A ≠ 0 := by rintro rfl; rw [deg_zero] at h; omega
 have h1 := deg_lt hA
 rw [deg_pos hA0] at h h1 ⊢
 refine ⟨by omega, by omega, ?_, ?_⟩
 · rw [show ((Nat.log2 A : Int) + 1).toNat = Nat.log2 A + 1 from by omega]; exact (hb_log hA0).2
 unfold mod
 rw [if_neg hp]
 congr 1
 omega
theorem mod_low {A p : Nat} (hp : p ≠ 0) (h : deg A < (Nat.log2 p : Int)) : mod A p = A := by
 refine mod_small hp ?_
 by_cases hA : A = 0
 · subst hA; exact Nat.two_pow_pos _
 rw [deg_pos hA] at h
 exact Nat.lt_of_lt_of_le (hb_log hA).2 (Nat.pow_le_pow_right (by decide) (by omega))
theorem modAt_step {A p a : Nat} {i : Int} (h : ModAt A p i a) (hp : p ≠ 0) (hi : (Nat.log2 p : Int) ≤ i) : ModAt A p (i - 1) (red p (Nat.log2 p) a i.toNat) ∧ red p (Nat.log2 p) a i.toNat < 2 ^ i.toNat := by
 obtain ⟨lo, h64, lt, eq⟩ := h
 have e1 : (i + 1 - Nat.log2 p).toNat = (i - 1 + 1 - Nat.log2 p).toNat + 1 := by omega
 rw [e1, modN, show Nat.log2 p + (i - 1 + 1 - Nat.log2 p).toNat = i.toNat from by omega] at eq
 have hlt : red p (Nat.log2 p) a i.toNat < 2 ^ i.toNat := by
  rw [show (i + 1).toNat = i.toNat + 1 from by omega] at lt
  unfold red
  split
  ·
   rename_i hbit
   have hs : p <<< (i.toNat - Nat.log2 p) < 2 ^ (i.toNat + 1) := by
    rw [Nat.shiftLeft_eq, show i.toNat + 1 = Nat.log2 p + 1 + (i.toNat - Nat.log2 p) from by omega, Nat.pow_add 2 (Nat.log2 p + 1)]
    exact Nat.mul_lt_mul_of_pos_right (hb_log hp).2 (Nat.two_pow_pos _)
   refine lt_of_bit (xor_lt lt hs) ?_
   rw [Nat.testBit_xor, hbit, Nat.testBit_shiftLeft, Nat.sub_sub_self (by omega), (hb_testBit.1 (hb_log hp)).1]
   simp
  rename_i hbit
  exact lt_of_bit lt (by simpa using hbit)
 exact ⟨⟨by omega, by omega, by rw [show (i - 1 + 1).toNat = i.toNat from by omega]; exact hlt, eq⟩, hlt⟩
theorem modAt_end {A p a : Nat} {i : Int} (h : ModAt A p i a) (hi : i < (Nat.log2 p : Int)) : a = mod A p := by
 have h1 := h.eq
 rw [show (i + 1 - Nat.log2 p).toNat = 0 from by have := h.lo; omega, modN] at h1
 exact h1
theorem red_bit {p d a i : Nat} (h : a.testBit i = true) : red p d a i = a ^^^ (p <<< (i - d)) := by unfold red; rw [if_pos h]
theorem red_nobit {p d a i : Nat} (h : a.testBit i = false) : red p d a i = a := by unfold red; rw [h]; rfl
def gcd (a b : Nat) : Nat := if _h : b = 0 then a else if _h2 : mod a b < b then gcd b (mod a b) else 0
termination_by b
decreasing_by omega
theorem mod_lt_self (a : Nat) {b : Nat} (h : b ≠ 0) : mod a b < b := Nat.lt_of_lt_of_le (mod_lt a h) (hb_log h).1
theorem gcd_zero (a : Nat) : gcd a 0 = a := by unfold gcd; simp
theorem gcd_step (a : Nat) {b : Nat} (h : b ≠ 0) : gcd a b = gcd b (mod a b) := by
 rw [gcd, dif_neg h, dif_pos (mod_lt_self a h)]
def powB (a p out : Nat) (n : Nat) : Nat := if h : n = 0 then out else powB (mulMod a a p) p (if n % 2 = 1 then mulMod out a p else out) (n / 2)
termination_by n
decreasing_by omega
theorem powB_zero (a p out : Nat) : powB a p out 0 = out := by unfold powB; simp
theorem powB_step (a p out : Nat) {n : Nat} (h : n ≠ 0) : powB a p out n = powB (mulMod a a p) p (if n % 2 = 1 then mulMod out a p else out) (n / 2) := by
 rw [powB, dif_neg h]
theorem powB_odd (a p out : Nat) {n : Nat} (h : n % 2 = 1) : powB a p out n = powB (mulMod a a p) p (mulMod out a p) (n / 2) := by rw [powB_step _ _ _ (by omega), if_pos h]
theorem powB_even (a p out : Nat) {n : Nat} (h0 : n ≠ 0) (h : n % 2 ≠ 1) : powB a p out n = powB (mulMod a a p) p out (n / 2) := by rw [powB_step _ _ _ h0, if_neg h]
def frob (p : Nat) : Nat → Nat → Nat
 | 0, a => a
 | k + 1, a => frob p k (mulMod a a p)
theorem frob_succ (p : Nat) : ∀ (k a : Nat), frob p (k + 1) a = mulMod (frob p k a) (frob p k a) p
 | 0, a => rfl
 | k + 1, a => by rw [frob, frob_succ p k, frob]
def irr (p : Nat) : Bool := decide (2 ≤ p ∧ p < 131072) && (frob p (Nat.log2 p) (mod 2 p) == mod 2 p) && (List.range (Nat.log2 p / 2)).all fun i => gcd p (frob p (i + 1) (mod 2 p) ^^^ 2) == 1
def irrR (p : Nat) : Bool := decide (2 ≤ p ∧ p < 131072) && (List.range (2 ^ (Nat.log2 p / 2 + 1) - 2)).all fun i => !(mod p (i + 2) == 0)
theorem deg_range {p : Nat} : (¬ deg p < 1 ∧ ¬ 16 < deg p) ↔ (2 ≤ p ∧ p < 131072) := by
 by_cases h0 : p = 0
 · subst h0; rw [deg_zero]; omega
 rw [deg_pos h0]
 have h := hb_log h0
 constructor
 ·
  rintro ⟨h1, h2⟩
  have h3 : 2 ^ 1 ≤ 2 ^ Nat.log2 p := Nat.pow_le_pow_right (by decide) (by omega)
  have h4 : 2 ^ (Nat.log2 p + 1) ≤ 2 ^ 17 := Nat.pow_le_pow_right (by decide) (by omega)
  have e : (2 : Nat) ^ 17 = 131072 := by decide
  have := h.1; have := h.2
  omega
 rintro ⟨h1, h2⟩
 have h3 := log2_lt h0 (k := 17) (by simpa using h2)
 have : Nat.log2 p ≠ 0 := by
  intro e; have := h.2; rw [e] at this; omega
 omega
theorem irr_out {p : Nat} (h : ¬ (2 ≤ p ∧ p < 131072)) : irr p = false := by unfold irr; simp only [h, decide_false, Bool.false_and]
theorem irrR_out {p : Nat} (h : ¬ (2 ≤ p ∧ p < 131072)) : irrR p = false := by unfold irrR; simp only [h, decide_false, Bool.false_and]
theorem shl_says' {a i : Nat} {Z : Int} (hZ : Z = (i : Int)) (h : a * 2 ^ i < 18446744073709551616) (hi : i ≤ 64) : IntKind.u64.wrap ((a : Int) * 2 ^ (min Z.toNat IntKind.u64.bits)) = ((a <<< i : Nat) : Int) := by subst hZ; exact shl_says h hi
theorem shl_lt64 {p j : Nat} (h0 : p ≠ 0) (hp : p < 4294967296) (hj : (j : Int) < 64) (hl : Nat.log2 p ≤ j) : p * 2 ^ (j - Nat.log2 p) < 18446744073709551616 := by
 have h1 : p * 2 ^ (j - Nat.log2 p) < 2 ^ (Nat.log2 p + 1 + (j - Nat.log2 p)) := shl_lt (hb_log h0).2
 exact Nat.lt_of_lt_of_le h1 (Nat.pow_le_pow_right (n := 2) (by decide) (show Nat.log2 p + 1 + (j - Nat.log2 p) ≤ 64 by omega))
theorem frob_lt32 {p : Nat} (n : Nat) (hp : p < 4294967296) : frob p n (mod 2 p) < 4294967296 := by
 cases n with
 | zero => exact mod_lt32 2 hp
 | succ n => rw [frob_succ]; exact mod_lt32 _ hp
theorem irr_f2 {p : Nat} (h : ¬ ((frob p (Nat.log2 p) (mod 2 p) : Nat) : Int) = ((mod 2 p : Nat) : Int)) : irr p = false := by
 unfold irr
 have h1 : (frob p (Nat.log2 p) (mod 2 p) == mod 2 p) = false := by simp only [beq_eq_false_iff_ne]; omega
 rw [h1]; simp
theorem irr_f3 {p : Nat} (i : Nat) (hi : i + 1 ≤ Nat.log2 p / 2) (h : gcd p (frob p (i + 1) (mod 2 p) ^^^ 2) ≠ 1) : irr p = false := by
 unfold irr
 have h1 : ((List.range (Nat.log2 p / 2)).all fun i => gcd p (frob p (i + 1) (mod 2 p) ^^^ 2) == 1) = false := by
  rw [List.all_eq_false]
  exact ⟨i, by simp; omega, by simpa using h⟩
 rw [h1]; simp
theorem irr_t {p : Nat} (hr : 2 ≤ p ∧ p < 131072) (hf : frob p (Nat.log2 p) (mod 2 p) = mod 2 p) (h : ∀ j, j < Nat.log2 p / 2 → gcd p (frob p (j + 1) (mod 2 p) ^^^ 2) = 1) : irr p = true := by
 unfold irr
 simp only [hr, and_self, decide_true, Bool.true_and, hf, beq_self_eq_true, List.all_eq_true, List.mem_range, beq_iff_eq]
 exact h
theorem shl_one {k : Nat} (h : k ≤ 62) : IntKind.i64.wrap ((1 : Int) * 2 ^ (min ((k : Int)).toNat IntKind.i64.bits)) = ((2 ^ k : Nat) : Int) := by
 have e : (1 : Int) * 2 ^ (min ((k : Int)).toNat IntKind.i64.bits) = ((2 ^ k : Nat) : Int) := by
  rw [toNat_c, Nat.min_eq_left (show k ≤ IntKind.i64.bits by simp [IntKind.bits]; omega)]; simp
 have h1 : 2 ^ k ≤ 4611686018427387904 := Nat.pow_le_pow_right (n := 2) (j := 62) (by decide) h
 rw [e]
 generalize 2 ^ k = z at *
 exact wrap_i64 _ (by omega)
theorem irrR_f {p : Nat} (i : Nat) (hi : i + 2 < 2 ^ (Nat.log2 p / 2 + 1)) (h : mod p (i + 2) = 0) : irrR p = false := by
 unfold irrR
 have h1 : ((List.range (2 ^ (Nat.log2 p / 2 + 1) - 2)).all fun i => !(mod p (i + 2) == 0)) = false := by
  rw [List.all_eq_false]
  exact ⟨i, by simp; omega, by simp [h]⟩
 rw [h1]; simp
theorem irrR_t {p : Nat} (hr : 2 ≤ p ∧ p < 131072) (h : ∀ i, i + 2 < 2 ^ (Nat.log2 p / 2 + 1) → mod p (i + 2) ≠ 0) : irrR p = true := by
 unfold irrR
 simp only [hr, and_self, decide_true, Bool.true_and, List.all_eq_true, List.mem_range, Bool.not_eq_true', beq_eq_false_iff_ne]
 exact fun i hi => h i (by omega)
end Go.Gam
