/- The fields of the program: the powers of x, the tables, what each function of a field tells. No program in sight. -/
import Derived.Test.YtkoiolamnnmokaaDoorGLaw
set_option linter.unusedVariables false
set_option linter.unusedSimpArgs false
namespace Go.Gam
open Px

/-- There is such a field. -/
structure Prm (wb p : Nat) : Prop where
  w : wb = 8 ∨ wb = 16
  pr : prim p = true
  lg : Nat.log2 p = wb

namespace Prm
variable {wb p : Nat} (h : Prm wb p)
include h

open Classical in
theorem irr' : irr p = true := by
  have := h.pr
  unfold prim at this
  exact (of_decide_eq_true this).1
theorem irrP : Irr p := irr_Irr h.irr'
theorem p0 : p ≠ 0 := by have := irr_range h.irr'; omega
theorem lt : p < 131072 := (irr_range h.irr').2
theorem size : 256 ≤ 2 ^ wb ∧ 2 ^ wb ≤ 65536 := by rcases h.w with rfl | rfl <;> decide
theorem order : 255 ≤ 2 ^ wb - 1 := by have := h.size; omega

/-- The field. -/
def fld : Fld := irrFld p h.irrP
theorem fld_w : h.fld.w = wb := h.lg
theorem fld_mul (a b : Nat) : h.fld.mul a b = mulMod a b p := rfl

theorem pw_pow : ∀ n, pw p n = h.fld.pow 2 n
  | 0 => rfl
  | n + 1 => by rw [pw, Fld.pow, pw_pow n]; rfl
theorem two_lt : 2 < 2 ^ h.fld.w := by rw [h.fld_w]; have := h.size; omega
theorem pw_lt (n : Nat) : pw p n < 2 ^ wb := by rw [h.pw_pow]; have := h.fld.pow_lt 2 n; rw [h.fld_w] at this; exact this
theorem pw_ne (n : Nat) : pw p n ≠ 0 := by rw [h.pw_pow]; exact h.fld.pow_ne h.two_lt (by decide) n
theorem pw_add (m n : Nat) : pw p (m + n) = mulMod (pw p m) (pw p n) p := by rw [h.pw_pow, h.pw_pow, h.pw_pow, Fld.pow_add]; rfl
theorem mod2 : mod 2 p = 2 := x_lt (by rw [h.lg]; rcases h.w with rfl | rfl <;> decide)
theorem pw_x (n : Nat) : Px.pow 2 p n = pw p n := by rw [pow_x h.irrP, h.mod2, h.pw_pow]; rfl

open Classical in
theorem pw_prim : pw p (2 ^ wb - 1) = 1 ∧ ∀ k, 1 ≤ k → k < 2 ^ wb - 1 → pw p k ≠ 1 := by
  have := h.pr
  rw [prim_same] at this
  unfold primR at this
  obtain ⟨_, h2, h3⟩ := of_decide_eq_true this
  rw [h.lg] at h2 h3
  exact ⟨by rw [← h.pw_x]; exact h2, fun k a b => by rw [← h.pw_x]; exact h3 k a b⟩

theorem pw_mod (n : Nat) : pw p (n % (2 ^ wb - 1)) = pw p n := by
  have e := Nat.div_add_mod n (2 ^ wb - 1)
  conv => rhs; rw [← e]
  rw [h.pw_pow, h.pw_pow, Fld.pow_add, ← Fld.pow_mul, ← h.pw_pow (2 ^ wb - 1), h.pw_prim.1, Fld.one_pow, Fld.one]
  rw [h.fld_w, ← h.pw_pow]; exact h.pw_lt _

theorem pw_inj {i j : Nat} (hi : i < 2 ^ wb - 1) (hj : j < 2 ^ wb - 1) (e : pw p i = pw p j) : i = j := by
  have key : ∀ i j, i < j → j < 2 ^ wb - 1 → pw p i = pw p j → False := by
    intro i j hij hj e
    have h1 : pw p j = mulMod (pw p i) (pw p (j - i)) p := by rw [← h.pw_add]; congr 1; omega
    have h2 : pw p (j - i) = 1 := by
      refine h.fld.cancel (c := pw p i) (by rw [h.fld_w]; exact h.pw_lt _) h.fld.one_lt (by rw [h.fld_w]; exact h.pw_lt _) (h.pw_ne i) ?_
      rw [h.fld.one _ (by rw [h.fld_w]; exact h.pw_lt _), h.fld.comm]
      show mulMod _ _ p = _
      rw [← h1, e]
    exact h.pw_prim.2 (j - i) (by omega) (by omega) h2
  rcases Nat.lt_trichotomy i j with h1 | h1 | h1
  · exact (key i j h1 hj e).elim
  · exact h1
  · exact (key j i h1 hi e.symm).elim

theorem pw_onto {a : Nat} (ha : a < 2 ^ wb) (h0 : a ≠ 0) : ∃ i, i < 2 ^ wb - 1 ∧ pw p i = a := by
  have hnd : ((List.range (2 ^ wb - 1)).map (pw p)).Nodup := by
    unfold List.Nodup
    rw [List.pairwise_map]
    exact List.Pairwise.imp_of_mem (fun {a b} ha hb hab => fun e => hab (h.pw_inj (List.mem_range.1 ha) (List.mem_range.1 hb) e)) List.nodup_range
  have hp := Fld.perm_of_sub _ (List.range' 1 (2 ^ wb - 1)) hnd (fun x hx => by
    obtain ⟨i, _, rfl⟩ := List.mem_map.1 hx
    have h1 := h.pw_lt i
    have h2 := h.pw_ne i
    exact List.mem_range'_1.2 ⟨by omega, by omega⟩) (by simp)
  have hm : a ∈ List.range' 1 (2 ^ wb - 1) := List.mem_range'_1.2 ⟨by omega, by omega⟩
  obtain ⟨i, hi, e⟩ := List.mem_map.1 (hp.mem_iff.2 hm)
  exact ⟨i, List.mem_range.1 hi, e⟩
end Prm

/-! ### the tables -/
theorem expL_zero (w p : Nat) : expL w p 0 = List.replicate (2 ^ w) 0 := by simp [expL]
theorem expL_len {w p k : Nat} (hk : k ≤ 2 ^ w) : (expL w p k).length = 2 ^ w := by simp [expL]; omega
theorem expL_step {w p k : Nat} (hk : k < 2 ^ w) : (expL w p k).set k (pw p k) = expL w p (k + 1) := by
  apply List.ext_getElem?
  intro i
  have hl : k < (expL w p k).length := by rw [expL_len (by omega)]; exact hk
  rw [List.getElem?_set]
  unfold expL
  simp only [List.getElem?_append, List.length_map, List.length_range, List.getElem?_map, List.getElem?_replicate]
  by_cases h1 : k = i
  · subst h1
    have : k < ((List.range k).map (pw p) ++ List.replicate (2 ^ w - k) 0).length := by simp; omega
    rw [if_pos rfl, if_pos (by simp [expL] at hl ⊢; omega), if_pos (by omega)]
    simp
  · rw [if_neg h1]
    by_cases h2 : i < k
    · simp [h2, show i < k + 1 by omega]
    · have h3 : ¬ i < k + 1 := by omega
      simp only [h2, if_false, h3]
      by_cases h4 : i - k < 2 ^ w - k
      · rw [if_pos h4, if_pos (by omega)]
      · rw [if_neg h4, if_neg (by omega)]
theorem expL_at {w p k i : Nat} (hi : i < k) : (expL w p k)[i]? = some (pw p i) := by
  unfold expL
  rw [List.getElem?_append_left (by simpa using hi)]
  simp [hi]
theorem logL_len (w p : Nat) : ∀ k, (logL w p k).length = 2 ^ w
  | 0 => by simp [logL]
  | k + 1 => by rw [logL, List.length_set, logL_len w p k]
theorem logL_at {w p : Nat} (h : Prm w p) : ∀ {k i : Nat}, k ≤ 2 ^ w - 1 → i < k → (logL w p k)[pw p i]? = some i
  | 0, i, _, hi => by omega
  | k + 1, i, hk, hi => by
    rw [logL, List.getElem?_set, logL_len]
    by_cases e : i = k
    · subst e; simp [h.pw_lt]
    · rw [if_neg (fun e2 => e (h.pw_inj (by omega) (by omega) e2.symm)), logL_at h (by omega) (by omega)]

theorem ints_set (l : List Nat) (i n : Nat) : (ints l).set i (.int .i64 (n : Int)) = ints (l.set i n) := by simp [ints, List.map_set]

/-! ### what the functions of a field tell; none: no field -/
abbrev Fq := Option (Nat × Nat)

def fsz : Fq → Nat
  | none => 0
  | some q => 2 ^ q.1

def inF (o : Fq) (a : Int) : Bool := decide (0 ≤ a ∧ a < (fsz o : Int))

def fmul : Fq → Nat → Nat → Nat
  | none, _, _ => 0
  | some q, a, b => mulMod a b q.2

def gmul (o : Fq) (a b : Int) : Int := if inF o a = true ∧ inF o b = true then (fmul o a.toNat b.toNat : Int) else 0

def fpow : Fq → Nat → Nat → Nat
  | none, _, _ => 0
  | some q, a, n => Px.pow a q.2 n

def gpow (o : Fq) (a n : Int) : Int := if inF o a = true ∧ 0 ≤ n then (fpow o a.toNat n.toNat : Int) else 0

def gexp : Fq → Int → Int
  | none, _ => 0
  | some q, n => (pw q.2 (n % ((2 ^ q.1 - 1 : Nat) : Int)).toNat : Int)

def ginvb (o : Fq) (a : Int) : Bool := inF o a && !decide (a = 0)
def ginv (o : Fq) (a : Int) : Int := if ginvb o a = true then gpow o a ((fsz o : Int) - 2) else 0

def gdivb (o : Fq) (a b : Int) : Bool := ginvb o b && inF o a
def gdiv (o : Fq) (a b : Int) : Int := if gdivb o a b = true then gmul o a (ginv o b) else 0

def flog : Fq → Nat → Nat
  | none, _ => 0
  | some q, a => ((logL q.1 q.2 (2 ^ q.1 - 1))[a]?).getD 0

def glog (o : Fq) (a : Int) : Int := if ginvb o a = true then (flog o a.toNat : Int) else 0

/-- v is a field, or none. -/
def Fo (D : FD) (B : Nat) (w : World) (v : Value) : Fq → Prop
  | none => v = .pointer none
  | some q => Prm q.1 q.2 ∧ ∃ k, v = .pointer (some ⟨k, 0, none⟩) ∧ FOK D B w k q.1 q.2

theorem Fo.st {D : FD} {B : Nat} {w w' : World} {v : Value} {o : Fq} (h : Fo D B w v o) (hs : St D B w w') : Fo D B w' v o := by
  cases o with
  | none => exact h
  | some q => obtain ⟨h1, k, h2, h3⟩ := h; exact ⟨h1, k, h2, h3.st hs⟩
theorem Fo.mb {D : FD} {B : Nat} {b : Option Nat} {w w' : World} {v : Value} {o : Fq} (h : Fo D B w v o) (hm : Mb D B b w w') : Fo D B w' v o := by
  cases o with
  | none => exact h
  | some q => obtain ⟨h1, k, h2, h3⟩ := h; exact ⟨h1, k, h2, hm.fok h3⟩
theorem Fo.ext {D : FD} {B : Nat} {w w' : World} {v : Value} {o : Fq} (h : Fo D B w v o) (hs : Ext D B w w') : Fo D B w' v o := by
  cases o with
  | none => exact h
  | some q => obtain ⟨h1, k, h2, h3⟩ := h; exact ⟨h1, k, h2, hs.fld k _ _ h3⟩

/-- What a field's cells hold. -/
theorem FOK.w0 {D : FD} {B : Nat} {w : World} {k wb p : Nat} (h : FOK D B w k wb p) : w.cell? ⟨k, 0, none⟩ = some (.int .i64 (wb : Int)) := by
  rcases h.2 with h | ⟨e, l, h, _⟩ <;> simp [World.cell?, h, fcells]
theorem FOK.p0 {D : FD} {B : Nat} {w : World} {k wb p : Nat} (h : FOK D B w k wb p) : w.cell? ⟨k, 1, none⟩ = some (.int .u32 (p : Int)) := by
  rcases h.2 with h | ⟨e, l, h, _⟩ <;> simp [World.cell?, h, fcells]

theorem fsz_le {D : FD} {B : Nat} {w : World} {v : Value} {o : Fq} (h : Fo D B w v o) : fsz o ≤ 65536 := by
  cases o with
  | none => simp [fsz]
  | some q => exact h.1.size.2

/-! ### a new field -/
theorem St.field {D : FD} {B : Nat} {w : World} (hI : Inv D B w) (wb p : Nat) :
    St D B w (w.alloc (.cells (fcells wb p 0 (.slice none 0 0) (.slice none 0 0)) D.T)) ∧ FOK D B (w.alloc (.cells (fcells wb p 0 (.slice none 0 0) (.slice none 0 0)) D.T)) w.heap.size wb p := by
  have hold : ∀ k, k < w.heap.size → (w.alloc (.cells (fcells wb p 0 (.slice none 0 0) (.slice none 0 0)) D.T)).heap[k]? = w.heap[k]? := fun k hk => RowKit.Below.heap_alloc w _ k hk
  have hnew := alloc_new w (.cells (fcells wb p 0 (.slice none 0 0) (.slice none 0 0)) D.T)
  generalize hw' : w.alloc (.cells (fcells wb p 0 (.slice none 0 0) (.slice none 0 0)) D.T) = w' at *
  have hsz : w'.heap.size = w.heap.size + 1 := by rw [← hw']; simp
  have hos : w'.os = w.os ∧ w'.tape = w.tape ∧ w'.output = w.output := by rw [← hw']; exact ⟨rfl, rfl, rfl⟩
  have htab : ∀ v xs, Tab D.E B w v xs → Tab D.E B w' v xs := by
    rintro v xs ⟨g, h1, h2, h3⟩
    exact ⟨g, h1, h2, by rw [hold g (heap_lt h3)]; exact h3⟩
  have hmade : ∀ k wb p e l, Made D B w k wb p e l → Made D B w' k wb p e l := by
    rintro k wb p e l ⟨h1, h2, h3, h4⟩
    exact ⟨h1, by rw [hold k (heap_lt h2)]; exact h2, htab _ _ h3, htab _ _ h4⟩
  have hfok : ∀ k wb p, FOK D B w k wb p → FOK D B w' k wb p := by
    rintro k wb p ⟨h1, h2 | h2⟩
    · exact ⟨h1, .inl (by rw [hold k (heap_lt h2)]; exact h2)⟩
    · obtain ⟨e, l, h2, h3, h4⟩ := h2
      exact ⟨h1, .inr ⟨e, l, by rw [hold k (heap_lt h2)]; exact h2, htab _ _ h3, htab _ _ h4⟩⟩
  have hT : ∀ k c fr, w'.heap[k]? = some (.cells c D.T fr) → (w.heap[k]? = some (.cells c D.T fr)) ∨ (k = w.heap.size ∧ c = fcells wb p 0 (.slice none 0 0) (.slice none 0 0)) := by
    intro k c fr hc
    by_cases hk : k < w.heap.size
    · exact .inl (by rw [← hold k hk]; exact hc)
    · have : k = w.heap.size := by have := heap_lt hc; omega
      subst this
      rw [hnew] at hc
      exact .inr ⟨rfl, (Obj.cells.inj (Option.some.inj hc)).1.symm⟩
  have hF : FOK D B w' w.heap.size wb p := ⟨hI.1, .inl hnew⟩
  refine ⟨⟨⟨hos.1, hos.2.1, hos.2.2, by omega, fun k hk _ => hold k hk, hfok, fun b hb hp k hk c fr hc => ?_, hmade⟩, ⟨by have := hI.1; omega, fun k hk c fr hc => ?_⟩⟩, hF⟩
  · rcases hT k c fr hc with h | ⟨rfl, rfl⟩
    · exact hp k hk c fr h
    · intro a n m hm
      simp [fcells] at hm
  · rcases hT k c fr hc with h | ⟨rfl, rfl⟩
    · obtain ⟨wb, p, h⟩ := hI.2 k hk c fr h
      exact ⟨wb, p, hfok _ _ _ h⟩
    · exact ⟨wb, p, hF⟩

section
variable {P : Program} {ops : Array Oper} {K : Kont} {rest : List Oper} {n : NN} {F : Fs} {T : TypeId} {pp : String} {af : Array Edge} {v : Value} {d : Nat} {a : Act} {w : World} {x : Operand} {D : FD} {B : Nat}
theorem s_field {e wb p : Nat} (hF : Fr n F a) (he : e = D.T) (hx : ev F x = some (.agg (fcells wb p 0 (.slice none 0 0) (.slice none 0 0)))) (hI : Inv D B w) (hd : Nat.blt d n.n = true)
    (k : ∀ w' a, St D B w w' → FOK D B w' w.heap.size wb p → Fr n ((d, .pointer (some ⟨w.heap.size, 0, none⟩)) :: F) a → WL P ops K rest a w') :
    WL P ops K (⟨some d, .box e x, T, pp, af, none⟩ :: rest) a w := by
  subst he
  have h := St.field hI wb p
  refine s_run (w' := w.alloc (.cells (fcells wb p 0 (.slice none 0 0) (.slice none 0 0)) D.T)) hF (fun ρ h => ?_) hd fun a hF => k _ a h.1 h.2 hF
  simp [execOp, Instr.box, h x _ hx, newVar, newRow, newObj, Sem.run]
  rfl
end

theorem shl_i64 {d : Nat} (h : d ≤ 62) : IntKind.wrap .i64 (1 * 2 ^ (min (d : Int).toNat IntKind.i64.bits)) = ((2 ^ d : Nat) : Int) := by
  have h1 : min (d : Int).toNat IntKind.i64.bits = d := by show min d 64 = d; omega
  rw [h1, Int.one_mul, show ((2:Int) ^ d) = ((2 ^ d : Nat) : Int) from (Int.natCast_pow 2 d).symm]
  refine wrap_i64 _ ?_
  have := Nat.pow_le_pow_right (n := 2) (by decide) h
  have h2 : (((2:Nat) ^ d : Nat) : Int) ≤ ((2 ^ 62 : Nat) : Int) := by exact_mod_cast this
  have h3 : ((2 ^ 62 : Nat) : Int) = 4611686018427387904 := by decide
  have h4 := Int.natCast_nonneg (2 ^ d)
  rw [h3] at h2
  omega

/-- Which field New makes. -/
noncomputable def newF (W : Int) (p : Nat) : Fq := if (W = 8 ∨ W = 16) ∧ deg p = W ∧ prim p = true then some (W.toNat, p) else none
theorem newF_t {W : Int} {p : Nat} (h : (W = 8 ∨ W = 16) ∧ deg p = W ∧ prim p = true) : newF W p = some (W.toNat, p) := if_pos h
theorem newF_f {W : Int} {p : Nat} (h : ¬ ((W = 8 ∨ W = 16) ∧ deg p = W ∧ prim p = true)) : newF W p = none := if_neg h
theorem newF_prm {W : Int} {p : Nat} (h : (W = 8 ∨ W = 16) ∧ deg p = W ∧ prim p = true) : Prm W.toNat p := by
  refine ⟨by omega, h.2.2, ?_⟩
  have h2 := h.2.1
  have : p ≠ 0 := fun e => by rw [e, deg_zero] at h2; omega
  rw [deg_pos this] at h2
  omega

/-- A field: its tables are not made, or are made. -/
theorem FOK.cases {D : FD} {B : Nat} {w : World} {k wb p : Nat} (h : FOK D B w k wb p) :
    (B ≤ k ∧ w.heap[k]? = some (.cells (fcells wb p 0 (.slice none 0 0) (.slice none 0 0)) D.T (0, 0))) ∨ ∃ ge gl, Made D B w k wb p ge gl := by
  obtain ⟨hB, h | ⟨e, l, h, ⟨g, rfl, h1, h2⟩, ⟨g', rfl, h3, h4⟩⟩⟩ := h
  · exact .inl ⟨hB, h⟩
  · refine .inr ⟨g, g', hB, ?_, ⟨g, ?_, h1, h2⟩, ⟨g', ?_, h3, h4⟩⟩
    · rw [h]; simp only [tv, ints_length, expL_len (Nat.sub_le (2 ^ wb) 1), logL_len]
    · simp only [tv, ints_length, expL_len (Nat.sub_le (2 ^ wb) 1)]
    · simp only [tv, ints_length, logL_len]

theorem Made.c2 {D : FD} {B : Nat} {w : World} {k wb p ge gl : Nat} (h : Made D B w k wb p ge gl) : w.cell? ⟨k, 2, none⟩ = some (.int .u32 1) := by simp [World.cell?, h.2.1, fcells]
theorem Made.c5 {D : FD} {B : Nat} {w : World} {k wb p ge gl : Nat} (h : Made D B w k wb p ge gl) : w.cell? ⟨k, 5, none⟩ = some (tv wb ge) := by simp [World.cell?, h.2.1, fcells]
theorem Made.c6 {D : FD} {B : Nat} {w : World} {k wb p ge gl : Nat} (h : Made D B w k wb p ge gl) : w.cell? ⟨k, 6, none⟩ = some (tv wb gl) := by simp [World.cell?, h.2.1, fcells]
theorem Made.exp {D : FD} {B : Nat} {w : World} {k wb p ge gl i : Nat} (h : Made D B w k wb p ge gl) (hi : i < 2 ^ wb - 1) : w.cell? ⟨ge, i, none⟩ = some (.int .i64 (pw p i : Int)) := by
  obtain ⟨_, _, ⟨g, h1, _, h2⟩, _⟩ := h
  simp only [tv, Value.slice.injEq, Option.some.injEq, Addr.mk.injEq] at h1
  obtain ⟨⟨rfl, _⟩, _⟩ := h1
  simp [World.cell?, h2, ints, expL_at hi]
theorem Made.log {D : FD} {B : Nat} {w : World} {k wb p ge gl a n : Nat} (h : Made D B w k wb p ge gl) (hi : (logL wb p (2 ^ wb - 1))[a]? = some n) : w.cell? ⟨gl, a, none⟩ = some (.int .i64 (n : Int)) := by
  obtain ⟨_, _, _, ⟨g, h1, _, h2⟩⟩ := h
  simp only [tv, Value.slice.injEq, Option.some.injEq, Addr.mk.injEq] at h1
  obtain ⟨⟨rfl, _⟩, _⟩ := h1
  simp [World.cell?, h2, ints, hi]
end Go.Gam
