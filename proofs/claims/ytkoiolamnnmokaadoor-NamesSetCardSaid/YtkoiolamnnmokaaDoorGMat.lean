/- Matrices: rows of numbers in memory; what the functions of matrices tell. No program in sight. -/
import Derived.Test.YtkoiolamnnmokaaDoorGReg
import Derived.Test.YtkoiolamnnmokaaDoorGRf
set_option linter.unusedVariables false
set_option linter.unusedSimpArgs false
namespace Go.Gam
open Px

/-! ### cells that nobody turns -/
def KC (D : FD) (B : Nat) (w : World) (a : Addr) (v : Value) : Prop := w.cell? a = some v ∧ a.block < w.heap.size ∧ (a.block < B ∨ notT D w a.block)
theorem KC.c {D : FD} {B : Nat} {w : World} {a : Addr} {v : Value} (h : KC D B w a v) : w.cell? a = some v := h.1
theorem KC.ld {D : FD} {B : Nat} {w w' : World} {a : Addr} {v : Value} (h : KC D B w a v) (hs : Ext D B w w') : w'.cell? a = some v := (cell_of_heap (hs.keep a.block h.2.1 h.2.2)).trans h.1
theorem KC.ext {D : FD} {B : Nat} {w w' : World} {a : Addr} {v : Value} (h : KC D B w a v) (hs : Ext D B w w') : KC D B w' a v :=
  ⟨h.ld hs, Nat.lt_of_lt_of_le h.2.1 hs.size, h.2.2.imp id (notT_of (hs.keep a.block h.2.1 h.2.2))⟩
theorem KC.st {D : FD} {B : Nat} {w w' : World} {a : Addr} {v : Value} (h : KC D B w a v) (hs : St D B w w') : KC D B w' a v := h.ext hs.ext
theorem KC.mb {D : FD} {B : Nat} {b : Option Nat} {w w' : World} {a : Addr} {v : Value} (h : KC D B w a v) (hm : Mb D B b w w') (hb : b ≠ some a.block) : KC D B w' a v := by
  have hk := hm.keep a.block h.2.1 (fun e => hb e.symm)
  exact ⟨(cell_of_heap hk).trans h.1, Nat.lt_of_lt_of_le h.2.1 hm.size, h.2.2.imp id (notT_of hk)⟩
theorem Row.kat {D : FD} {B M len cap : Nat} {w : World} {sa : Option Addr} {xs : List Value} {i : Nat} {u : Value} (h : Row D B M w (.slice sa len cap) xs) (hi : xs[i]? = some u) : ∃ g o, sa = some ⟨g, o, none⟩ ∧ KC D B w ⟨g, o + i, none⟩ u ∧ g < M := by
  rcases h with ⟨_, _, h1, rfl⟩ | ⟨g, o, cap', h1, h0, h2, h3, h4, h5⟩
  · simp at hi
  · obtain ⟨rfl, rfl, rfl⟩ := Value.slice.inj h1
    exact ⟨g, o, rfl, ⟨h5 i u hi, h4, h3⟩, h2⟩
theorem Blk.kc {D : FD} {B : Nat} {w : World} {g : Nat} {E : TypeId} {cs : List Value} (h : Blk w g E cs) (hE : E ≠ D.T) (i : Nat) {v : Value} (hv : nth cs i = some v) : KC D B w ⟨g, i, none⟩ v :=
  ⟨h.at i hv, heap_lt h, .inr fun c fr e => by rw [show w.heap[g]? = _ from h] at e; exact hE (Obj.cells.inj (Option.some.inj e)).2.1⟩

/-! ### matrices in memory -/
abbrev Mtx := List (List Int)
structure Mat (D : FD) (B M : Nat) (w : World) (sa : Option Addr) (cap : Nat) (a : Mtx) : Prop where
  ex : ∃ vals, vals.length = a.length ∧ Row D B M w (.slice sa a.length cap) vals ∧ ∀ (j : Nat) (v : Value) (r : List Int), vals[j]? = some v → a[j]? = some r → Row D B M w v (zints r)
theorem Mat.st {D : FD} {B M : Nat} {w w' : World} {sa : Option Addr} {cap : Nat} {a : Mtx} (h : Mat D B M w sa cap a) (hs : St D B w w') : Mat D B M w' sa cap a := by
  obtain ⟨vals, h1, h2, h3⟩ := h.ex
  exact ⟨vals, h1, h2.st hs, fun j v r x y => (h3 j v r x y).st hs⟩
theorem Mat.mb {D : FD} {B M : Nat} {b : Option Nat} {w w' : World} {sa : Option Addr} {cap : Nat} {a : Mtx} (h : Mat D B M w sa cap a) (hm : Mb D B b w w') (hb : ∀ k, b = some k → M ≤ k) : Mat D B M w' sa cap a := by
  obtain ⟨vals, h1, h2, h3⟩ := h.ex
  exact ⟨vals, h1, h2.mb hm hb, fun j v r x y => (h3 j v r x y).mb hm hb⟩
theorem Mat.mono {D : FD} {B M M' : Nat} {w : World} {sa : Option Addr} {cap : Nat} {a : Mtx} (h : Mat D B M w sa cap a) (hM : M ≤ M') : Mat D B M' w sa cap a := by
  obtain ⟨vals, h1, h2, h3⟩ := h.ex
  exact ⟨vals, h1, h2.mono hM, fun j v r x y => (h3 j v r x y).mono hM⟩
theorem Mat.xt {D : FD} {B M n : Nat} {w w' : World} {sa : Option Addr} {cap : Nat} {a : Mtx} (h : Mat D B M w sa cap a) (hs : Xt D B n w w') : Mat D B M w' sa cap a := by
  obtain ⟨vals, h1, h2, h3⟩ := h.ex
  exact ⟨vals, h1, h2.xt hs, fun j v r x y => (h3 j v r x y).xt hs⟩
theorem Mat.stz {D : FD} {B M : Nat} {Z : Nat → Prop} {w w' : World} {sa : Option Addr} {cap : Nat} {a : Mtx} (h : Mat D B M w sa cap a) (hs : StZ D B Z w w') (hz : ∀ k, k < M → ¬ Z k) : Mat D B M w' sa cap a := by
  obtain ⟨vals, h1, h2, h3⟩ := h.ex
  exact ⟨vals, h1, h2.stz hs hz, fun j v r x y => (h3 j v r x y).stz hs hz⟩
theorem Mat.row {D : FD} {B M : Nat} {w : World} {sa : Option Addr} {cap : Nat} {a : Mtx} (h : Mat D B M w sa cap a) {i : Nat} {r : List Int} (hi : a[i]? = some r) :
    ∃ g o pr cr, sa = some ⟨g, o, none⟩ ∧ KC D B w ⟨g, o + i, none⟩ (.slice pr r.length cr) ∧ Row D B M w (.slice pr r.length cr) (zints r) ∧ g < M := by
  obtain ⟨vals, h1, h2, h3⟩ := h.ex
  have hl := (List.getElem?_eq_some_iff.1 hi).1
  obtain ⟨v, hv⟩ : ∃ v, vals[i]? = some v := ⟨_, List.getElem?_eq_getElem (by omega)⟩
  have hr := h3 i v r hv hi
  obtain ⟨pr, cr, rfl⟩ := hr.sl
  rw [zints_length] at hr hv
  obtain ⟨g, o, rfl, hk, hM⟩ := h2.kat hv
  exact ⟨g, o, pr, cr, rfl, hk, hr, hM⟩
theorem Mat.capd {D : FD} {B M : Nat} {w : World} {sa : Option Addr} {cap : Nat} {a : Mtx} (h : Mat D B M w sa cap a) : a.length ≤ cap := by
  obtain ⟨vals, h1, h2, h3⟩ := h.ex
  exact h2.capd
theorem Mat.to {D : FD} {B M : Nat} {w : World} {sa : Option Addr} {cap : Nat} {a b : Mtx} (h : Mat D B M w sa cap a) {hi : Nat} (h2 : hi ≤ a.length) (hb : b = a.take hi) : Mat D B M w sa cap b := by
  obtain ⟨vals, h1, h3, h4⟩ := h.ex
  subst hb
  have hl : (a.take hi).length = hi := by simp; omega
  refine ⟨vals.take hi, by simp; omega, by rw [hl]; exact h3.to (by omega), fun j v r x y => ?_⟩
  rw [List.getElem?_take] at x y
  split at x
  · rename_i hj; rw [if_pos hj] at y; exact h4 j v r x y
  · cases x
theorem Mat.from {D : FD} {B M : Nat} {w : World} {sa : Option Addr} {cap : Nat} {a b : Mtx} (h : Mat D B M w sa cap a) {lo : Nat} (h2 : lo ≤ a.length) (hb : b = a.drop lo) : Mat D B M w (slA sa lo cap) (cap - lo) b := by
  obtain ⟨vals, h1, h3, h4⟩ := h.ex
  subst hb
  have hl : (a.drop lo).length = a.length - lo := by simp
  have hp := h3.part (lo := lo) (hi := a.length) (by omega) (by omega)
  rw [show vals.take a.length = vals from List.take_of_length_le (by omega)] at hp
  refine ⟨vals.drop lo, by simp; omega, by rw [hl]; exact hp, fun j v r x y => ?_⟩
  rw [List.getElem?_drop] at x y
  exact h4 _ v r x y
theorem Mat.empty (D : FD) (B M : Nat) (w : World) (sa : Option Addr) (cap : Nat) : Mat D B M w sa cap [] := ⟨[], rfl, .inl ⟨_, _, rfl, rfl⟩, fun j v r x => by simp at x⟩

/-- A row of a matrix that is gathered: of the walk's own, in a block below K, or one that came in. -/
def RowO (D : FD) (B N K : Nat) (w : World) (u : Value) (r : List Int) : Prop := (∃ b, Own D B N w D.E u b (zints r) ∧ ∀ g, b = some g → g < K) ∨ Row D B N w u (zints r)
theorem RowO.st {D : FD} {B N K : Nat} {w w' : World} {u : Value} {r : List Int} (h : RowO D B N K w u r) (hs : St D B w w') : RowO D B N K w' u r :=
  h.imp (fun ⟨b, h1, h2⟩ => ⟨b, h1.st D.ne hs, h2⟩) (fun h => h.st hs)
theorem RowO.xt {D : FD} {B N K n : Nat} {w w' : World} {u : Value} {r : List Int} (h : RowO D B N K w u r) (hs : Xt D B n w w') : RowO D B N K w' u r :=
  h.imp (fun ⟨b, h1, h2⟩ => ⟨b, h1.xt D.ne hs, h2⟩) (fun h => h.xt hs)
theorem RowO.mb {D : FD} {B N K : Nat} {b : Option Nat} {w w' : World} {u : Value} {r : List Int} (h : RowO D B N K w u r) (hm : Mb D B b w w') (hb : ∀ k, b = some k → K ≤ k ∧ N ≤ k) : RowO D B N K w' u r :=
  h.imp (fun ⟨c, h1, h2⟩ => ⟨c, h1.mb hm (fun k e e2 => by have := h2 k e; have := (hb k e2).1; omega), h2⟩) (fun h => h.mb hm (fun k e => (hb k e).2))
theorem RowO.mb2 {D : FD} {B N K N' E2 : Nat} {b : Option Nat} {w w' : World} {u v : Value} {xs : List Value} {r : List Int} (h : RowO D B N K w u r) (hm : Mb D B b w w') (ho : Own D B N' w E2 v b xs) (hE : D.E ≠ E2) (hN : N ≤ N') : RowO D B N K w' u r :=
  h.imp (fun ⟨c, h1, h2⟩ => ⟨c, h1.mb hm (h1.ne_type ho hE), h2⟩) (fun h => h.mb hm (fun k e => Nat.le_trans hN (ho.lt k e).1))
theorem RowO.row {D : FD} {B N K : Nat} {w : World} {u : Value} {r : List Int} (h : RowO D B N K w u r) (hN : N ≤ w.heap.size) : Row D B w.heap.size w u (zints r) := by
  rcases h with ⟨b, h1, _⟩ | h
  · exact h1.row D.ne
  · exact h.mono hN
theorem RowO.of {D : FD} {B N N' : Nat} {w : World} {u : Value} {b : Option Nat} {r : List Int} (h : Own D B N' w D.E u b (zints r)) (hN : N ≤ N') : RowO D B N w.heap.size w u r := .inl ⟨b, h.le hN, fun g e => (h.lt g e).2⟩
theorem RowO.up {D : FD} {B N K K' : Nat} {w : World} {u : Value} {r : List Int} (h : RowO D B N K w u r) (hK : K ≤ K') : RowO D B N K' w u r :=
  h.imp (fun ⟨b, h1, h2⟩ => ⟨b, h1, fun g e => Nat.lt_of_lt_of_le (h2 g e) hK⟩) id

/-- Rows in a row of the walk's own (from N on), while they are gathered: each its own, below K, or one that came in, below M0. -/
structure MOwn (D : FD) (B N M0 K : Nat) (w : World) (E2 : TypeId) (v : Value) (b : Option Nat) (a : Mtx) : Prop where
  ex : ∃ vals, vals.length = a.length ∧ Own D B N w E2 v b vals ∧ ∀ (j : Nat) (u : Value) (r : List Int), vals[j]? = some u → a[j]? = some r → RowO D B M0 K w u r
  mn : M0 ≤ N
theorem MOwn.nil (D : FD) (B N M0 K : Nat) (w : World) (E2 : TypeId) (h : M0 ≤ N) : MOwn D B N M0 K w E2 (.slice none 0 0) none [] := ⟨⟨[], rfl, Own.nil _ _ _ _ _, fun j v r x => by simp at x⟩, h⟩
theorem MOwn.st {D : FD} {B N M0 K : Nat} {w w' : World} {E2 : TypeId} {v : Value} {b : Option Nat} {a : Mtx} (h : MOwn D B N M0 K w E2 v b a) (hE : E2 ≠ D.T) (hs : St D B w w') : MOwn D B N M0 K w' E2 v b a := by
  obtain ⟨vals, h1, h2, h3⟩ := h.ex
  exact ⟨⟨vals, h1, h2.st hE hs, fun j u r x y => (h3 j u r x y).st hs⟩, h.mn⟩
theorem MOwn.mb0 {D : FD} {B N M0 K : Nat} {w w' : World} {E2 : TypeId} {v : Value} {b : Option Nat} {a : Mtx} (h : MOwn D B N M0 K w E2 v b a) (hm : Mb D B none w w') : MOwn D B N M0 K w' E2 v b a := by
  obtain ⟨vals, h1, h2, h3⟩ := h.ex
  exact ⟨⟨vals, h1, h2.mb hm (fun k _ e => by cases e), fun j u r x y => (h3 j u r x y).mb hm (fun _ e => by cases e)⟩, h.mn⟩
/-- Another row of the walk's own, of numbers, from K on, turns. -/
theorem MOwn.mbo {D : FD} {B N M0 K N' : Nat} {c : Option Nat} {w w' : World} {E2 : TypeId} {v u : Value} {b : Option Nat} {a : Mtx} {xs : List Value} (h : MOwn D B N M0 K w E2 v b a) (hm : Mb D B c w w') (ho : Own D B N' w D.E u c xs) (hE : D.E ≠ E2) (hK : K ≤ N') (hN : M0 ≤ N') : MOwn D B N M0 K w' E2 v b a := by
  obtain ⟨vals, h1, h2, h3⟩ := h.ex
  exact ⟨⟨vals, h1, h2.mb hm (fun k e e2 => ho.ne_type h2 hE k e2 e), fun j x r p q => (h3 j x r p q).mb hm (fun k e => ⟨Nat.le_trans hK (ho.lt k e).1, Nat.le_trans hN (ho.lt k e).1⟩)⟩, h.mn⟩
theorem MOwn.xt {D : FD} {B N M0 K n : Nat} {w w' : World} {E2 : TypeId} {v : Value} {b : Option Nat} {a : Mtx} (h : MOwn D B N M0 K w E2 v b a) (hE : E2 ≠ D.T) (hs : Xt D B n w w') : MOwn D B N M0 K w' E2 v b a := by
  obtain ⟨vals, h1, h2, h3⟩ := h.ex
  exact ⟨⟨vals, h1, h2.xt hE hs, fun j u r x y => (h3 j u r x y).xt hs⟩, h.mn⟩
theorem MOwn.mat {D : FD} {B N M0 K : Nat} {w : World} {E2 : TypeId} {v : Value} {b : Option Nat} {a : Mtx} (h : MOwn D B N M0 K w E2 v b a) (hE : E2 ≠ D.T) (hN : M0 ≤ w.heap.size) : ∃ sa cap, v = .slice sa a.length cap ∧ Mat D B w.heap.size w sa cap a := by
  obtain ⟨vals, h1, h2, h3⟩ := h.ex
  obtain ⟨sa, cap, rfl⟩ := h2.shape
  have hr := h2.row hE
  rw [h1] at hr
  exact ⟨sa, cap, by rw [h1], vals, h1, hr, fun j v r x y => (h3 j v r x y).row hN⟩
theorem MOwn.up {D : FD} {B N M0 K K' : Nat} {w : World} {E2 : TypeId} {v : Value} {b : Option Nat} {a : Mtx} (h : MOwn D B N M0 K w E2 v b a) (hK : K ≤ K') : MOwn D B N M0 K' w E2 v b a := by
  obtain ⟨vals, h1, h2, h3⟩ := h.ex
  exact ⟨⟨vals, h1, h2, fun j u r x y => (h3 j u r x y).up hK⟩, h.mn⟩
theorem MOwn.cast {D : FD} {B N M0 K : Nat} {w : World} {E2 : TypeId} {v : Value} {b : Option Nat} {a a' : Mtx} (h : MOwn D B N M0 K w E2 v b a) (e : a = a') : MOwn D B N M0 K w E2 v b a' := e ▸ h
theorem MOwn.le {D : FD} {B N N' M0 K : Nat} {w : World} {E2 : TypeId} {v : Value} {b : Option Nat} {a : Mtx} (h : MOwn D B N M0 K w E2 v b a) (hN : N' ≤ N) (hm : M0 ≤ N') : MOwn D B N' M0 K w E2 v b a := by
  obtain ⟨vals, h1, h2, h3⟩ := h.ex
  exact ⟨⟨vals, h1, h2.le hN, h3⟩, hm⟩
theorem MOwn.lt {D : FD} {B N M0 K : Nat} {w : World} {E2 : TypeId} {v : Value} {b : Option Nat} {a : Mtx} (h : MOwn D B N M0 K w E2 v b a) : ∀ k, b = some k → N ≤ k ∧ k < w.heap.size := by
  obtain ⟨vals, h1, h2, h3⟩ := h.ex
  exact h2.lt
theorem MOwn.isrow {D : FD} {B N M0 K : Nat} {w : World} {E2 : TypeId} {v : Value} {b : Option Nat} {a : Mtx} (h : MOwn D B N M0 K w E2 v b a) : ∀ k, b = some k → ∃ c e fr, w.heap[k]? = some (.cells c e fr) := by
  obtain ⟨vals, h1, h2, h3⟩ := h.ex
  exact h2.isrow

section
variable {P : Program} {ops : Array Oper} {K' : Kont} {rest : List Oper} {n : NN} {F : Fs} {T : TypeId} {pp : String} {af : Array Edge} {v : Value} {d : Nat} {a : Act} {w : World} {x : Operand} {D : FD} {B : Nat}
/-- A row is appended to rows that are gathered. -/
theorem s_appM {t e by_ N N2 M0 K : Nat} {ats : Array TypeId} {z : Value} {b bx : Option Nat} {a0 : Mtx} {xv u : Value} {r : List Int} {s : Operand} (hF : Fr n F a) (hat : ats = #[t, t]) (ht : Sl P t e z by_) (hs : ev F s = some v) (hx : ev F x = some xv)
    (hM : MOwn D B N M0 K w e v b a0) (hl : Own D B N2 w e xv bx [u]) (hr : RowO D B M0 K w u r) (h1 : u.oneCell' = true) (hby : by_ = 24) (hsm : a0.length ≤ 1000000) (hN : N ≤ w.heap.size) (he : e ≠ D.T) (hE : D.E ≠ e) (hI : Inv D B w) (hd : Nat.blt d n.n = true)
    (k : ∀ v' b' w' a, MOwn D B N M0 K w' e v' b' (a0 ++ [r]) → Mb D B b w w' → Inv D B w' → Fr n ((d, v') :: F) a → WL P ops K' rest a w') :
    WL P ops K' (⟨some d, .call ⟨.builtin .append, #[s, x], ats⟩, T, pp, af, none⟩ :: rest) a w := by
  obtain ⟨vals, h2, h3, h4⟩ := hM.ex
  subst hby
  refine s_app (D := D) (B := B) hF hat ht hs hx h3 (hl.row he) (by simpa using h1) (by simp; omega) (by simp [maxLen]; omega) hN he hI hd ?_
  intro v' b' w' a' ho hm hI' hb' hF'
  refine k v' b' w' a' ⟨⟨vals ++ [u], by simp [h2], ho, fun j x y hx hy => ?_⟩, hM.mn⟩ hm hI' hF'
  by_cases hj : j < vals.length
  · rw [List.getElem?_append_left hj] at hx
    rw [List.getElem?_append_left (by omega)] at hy
    exact (h4 j x y hx hy).mb2 hm h3 hE hM.mn
  · have hj2 : j = vals.length := by have := (List.getElem?_eq_some_iff.1 hx).1; simp at this; omega
    subst hj2
    simp at hx
    rw [h2] at hy
    simp at hy
    subst hx; subst hy
    exact hr.mb2 hm h3 hE hM.mn
/-- Rows that may be appended. -/
def RowsO (D : FD) (B N K : Nat) (w : World) (v : Value) (a : Mtx) : Prop := ∃ vals, vals.length = a.length ∧ (∃ M, Row D B M w v vals) ∧ ∀ (j : Nat) (u : Value) (r : List Int), vals[j]? = some u → a[j]? = some r → RowO D B N K w u r
theorem MOwn.rowsO {D : FD} {B N M0 K : Nat} {w : World} {E2 : TypeId} {v : Value} {b : Option Nat} {a : Mtx} (h : MOwn D B N M0 K w E2 v b a) (hE : E2 ≠ D.T) : RowsO D B M0 K w v a := by
  obtain ⟨vals, h1, h2, h3⟩ := h.ex
  exact ⟨vals, h1, ⟨_, h2.row hE⟩, h3⟩
theorem Mat.rowsO {D : FD} {B M N K : Nat} {w : World} {sa : Option Addr} {cap : Nat} {a : Mtx} (h : Mat D B M w sa cap a) (hM : M ≤ N) : RowsO D B N K w (.slice sa a.length cap) a := by
  obtain ⟨vals, h1, h2, h3⟩ := h.ex
  exact ⟨vals, h1, ⟨_, h2⟩, fun j u r x y => .inr ((h3 j u r x y).mono hM)⟩
theorem RowO.cell1 {D : FD} {B N K : Nat} {w : World} {u : Value} {r : List Int} (h : RowO D B N K w u r) : u.oneCell' = true := by
  rcases h with ⟨b, h, _⟩ | h
  · obtain ⟨a, c, rfl⟩ := h.shape; rfl
  · obtain ⟨a, c, rfl⟩ := h.sl; rfl
theorem s_appMM {t e by_ N M0 K : Nat} {ats : Array TypeId} {z : Value} {b : Option Nat} {a0 a1 : Mtx} {xv : Value} {s : Operand} (hF : Fr n F a) (hat : ats = #[t, t]) (ht : Sl P t e z by_) (hs : ev F s = some v) (hx : ev F x = some xv)
    (hM : MOwn D B N M0 K w e v b a0) (hr : RowsO D B M0 K w xv a1) (hby : by_ = 24) (hsm : a0.length + a1.length ≤ 1000000) (hN : N ≤ w.heap.size) (he : e ≠ D.T) (hE : D.E ≠ e) (hI : Inv D B w) (hd : Nat.blt d n.n = true)
    (k : ∀ v' b' w' a, MOwn D B N M0 K w' e v' b' (a0 ++ a1) → Mb D B b w w' → Inv D B w' → Fr n ((d, v') :: F) a → WL P ops K' rest a w') :
    WL P ops K' (⟨some d, .call ⟨.builtin .append, #[s, x], ats⟩, T, pp, af, none⟩ :: rest) a w := by
  obtain ⟨vals, h2, h3, h4⟩ := hM.ex
  obtain ⟨vals2, l2, ⟨M2, hrow⟩, h5⟩ := hr
  subst hby
  have hone : ∀ u ∈ vals2, u.oneCell' = true := fun u hu => by
    obtain ⟨j, hj⟩ := List.getElem?_of_mem hu
    have := (List.getElem?_eq_some_iff.1 hj).1
    exact (h5 j u _ hj (List.getElem?_eq_getElem (by omega))).cell1
  refine s_app (D := D) (B := B) hF hat ht hs hx h3 hrow hone (by omega) (by simp only [maxLen]; omega) hN he hI hd ?_
  intro v' b' w' a' ho hm hI' hb' hF'
  refine k v' b' w' a' ⟨⟨vals ++ vals2, by simp [h2, l2], ho, fun j x y hx hy => ?_⟩, hM.mn⟩ hm hI' hF'
  by_cases hj : j < vals.length
  · rw [List.getElem?_append_left hj] at hx
    rw [List.getElem?_append_left (by omega)] at hy
    exact (h4 j x y hx hy).mb2 hm h3 hE hM.mn
  · rw [List.getElem?_append_right (by omega)] at hx
    rw [List.getElem?_append_right (by omega)] at hy
    rw [h2] at hx
    exact (h5 _ x y hx hy).mb2 hm h3 hE hM.mn
theorem v_eqlSl {sa : Option Addr} {len cap : Nat} {t e s : TypeId} {y : Operand} (hb : P.underlying t = some (.slice e)) (hx : ev F x = some (.slice sa len cap)) (hy : ev F y = some (.slice none 0 0)) : Val P (.binOp .eql t x y s) T F w (.bool sa.isNone) :=
  fun ρ h d p af g => by
    simp only [execOp, h x _ hx, h y _ hy, eqGuard, binOp]
    have he : ∀ (e : Nat), (Op.equalIn (e + 1) t (.slice sa len cap) (.slice none 0 0)).run P w = .ok sa.isNone w := by
      intro e
      cases sa <;> simp [Op.equalIn, underlying, hb, program, Sem.run]
    have he' : (Op.equal t (.slice sa len cap) (.slice none 0 0)).run P w = .ok sa.isNone w := he 9999
    simp [he']
end

theorem Own.ne_mown {D : FD} {B N N' M0 K : Nat} {w : World} {E E2 : TypeId} {v v' : Value} {b b' : Option Nat} {xs : List Value} {a : Mtx} (h : Own D B N w E v b xs) (h' : MOwn D B N' M0 K w E2 v' b' a) (hE : E ≠ E2) : ∀ k, b = some k → b' ≠ some k := by
  obtain ⟨vals, h1, h2, h3⟩ := h'.ex
  exact h.ne_type h2 hE

/-! ### a variable of its own block that is stored into -/
structure Box (D : FD) (B N : Nat) (w : World) (g : Nat) (E : TypeId) (v : Value) : Prop where
  blk : Blk w g E [v]
  low : N ≤ g
  base : B ≤ g
  priv : Priv D B w g
  ty : E ≠ D.T
theorem Box.st {D : FD} {B N : Nat} {w w' : World} {g : Nat} {E : TypeId} {v : Value} (h : Box D B N w g E v) (hs : St D B w w') : Box D B N w' g E v := ⟨h.blk.st h.ty hs, h.low, h.base, hs.ext.priv g (heap_lt h.blk) h.priv, h.ty⟩
theorem Box.xt {D : FD} {B N n : Nat} {w w' : World} {g : Nat} {E : TypeId} {v : Value} (h : Box D B N w g E v) (hs : Xt D B n w w') : Box D B N w' g E v := ⟨h.blk.xt h.ty hs, h.low, h.base, hs.priv g (heap_lt h.blk) h.priv, h.ty⟩
theorem Box.mb {D : FD} {B N : Nat} {b : Option Nat} {w w' : World} {g : Nat} {E : TypeId} {v : Value} (h : Box D B N w g E v) (hm : Mb D B b w w') (hb : b ≠ some g) : Box D B N w' g E v := ⟨h.blk.mb hm hb, h.low, h.base, hm.priv h.priv, h.ty⟩
theorem Box.stz {D : FD} {B N : Nat} {Z : Nat → Prop} {w w' : World} {g : Nat} {E : TypeId} {v : Value} (h : Box D B N w g E v) (hs : StZ D B Z w w') (hz : ¬ Z g) : Box D B N w' g E v := ⟨h.blk.stz h.ty hs hz, h.low, h.base, hs.ext.priv g (heap_lt h.blk) h.priv, h.ty⟩
theorem Box.at {D : FD} {B N : Nat} {w : World} {g : Nat} {E : TypeId} {v : Value} (h : Box D B N w g E v) : w.cell? ⟨g, 0, none⟩ = some v := h.blk.at 0 rfl
theorem Box.kc {D : FD} {B N : Nat} {w : World} {g : Nat} {E : TypeId} {v : Value} (h : Box D B N w g E v) : KC D B w ⟨g, 0, none⟩ v := h.blk.kc h.ty 0 rfl
theorem Box.ne_own {D : FD} {B N N' : Nat} {w : World} {g : Nat} {E E' : TypeId} {v u : Value} {b : Option Nat} {xs : List Value} (h : Box D B N w g E v) (ho : Own D B N' w E' u b xs) (hE : E ≠ E') : b ≠ some g := by
  intro e
  obtain ⟨_, hl⟩ := ho.lt g e
  rcases ho with ⟨_, h', _⟩ | ⟨g', cap, cur, rfl, hb, h1, hB, h2, h3⟩
  · rw [h'] at e; cases e
  · rw [hb] at e; obtain rfl := Option.some.inj e
    have hk : w.heap[g']? = _ := h.blk
    rw [h2] at hk
    exact hE (Obj.cells.inj (Option.some.inj hk)).2.1.symm

theorem MOwn.mbx {D : FD} {B N M0 K g : Nat} {w w' : World} {E2 : TypeId} {v : Value} {b : Option Nat} {a : Mtx} (h : MOwn D B N M0 K w E2 v b a) (hm : Mb D B (some g) w w') (hb : b ≠ some g) (hK : K ≤ g) (hN : M0 ≤ g) : MOwn D B N M0 K w' E2 v b a := by
  obtain ⟨vals, h1, h2, h3⟩ := h.ex
  exact ⟨⟨vals, h1, h2.mb hm (fun k e e2 => hb (e.trans e2.symm)), fun j x r p q => (h3 j x r p q).mb hm (fun k e => by cases e; exact ⟨hK, hN⟩)⟩, h.mn⟩
section
variable {P : Program} {ops : Array Oper} {K : Kont} {rest : List Oper} {n : NN} {F : Fs} {T : TypeId} {pp : String} {af : Array Edge} {v : Value} {d : Nat} {a : Act} {w : World} {x y : Operand} {D : FD} {B : Nat}
/-- A type whose variables are one cell, z at first. -/
def Zv (P : Program) (e : TypeId) (z : Value) : Prop := z.cells = #[z] ∧ ∃ i, P.info? e = some i ∧ i.zero = some z
theorem zv_of {e : TypeId} {z : Value} (hz : z.cells = #[z]) (h : (P.info? e).map (fun i => i.zero) = some (some z)) : Zv P e z := by
  cases hi : P.info? e with
  | none => rw [hi] at h; cases h
  | some i => rw [hi] at h; exact ⟨hz, i, hi, by simpa using h⟩
theorem s_boxN {e : TypeId} (hF : Fr n F a) (hx : ev F x = some v) (hv : v.cells = #[v]) (he : e ≠ D.T) (hI : Inv D B w) (hd : Nat.blt d n.n = true)
    (k : ∀ w' a, Mb D B none w w' → Inv D B w' → Box D B w.heap.size w' w.heap.size e v → w'.heap.size = w.heap.size + 1 → Fr n ((d, .pointer (some ⟨w.heap.size, 0, none⟩)) :: F) a → WL P ops K rest a w') :
    WL P ops K (⟨some d, .box e x, T, pp, af, none⟩ :: rest) a w :=
  s_box hF hx he hI hd fun w' a hm hb hsz hF => k w' a hm (hm.inv hI) ⟨by rw [hv] at hb; exact hb, Nat.le_refl _, hI.1, hm.priv (hI.priv_new (Nat.le_refl _)), he⟩ hsz hF
theorem s_alloc {e : TypeId} {z : Value} (hF : Fr n F a) (hz : Zv P e z) (he : e ≠ D.T) (hI : Inv D B w) (hd : Nat.blt d n.n = true)
    (k : ∀ w' a, Mb D B none w w' → Inv D B w' → Box D B w.heap.size w' w.heap.size e z → w'.heap.size = w.heap.size + 1 → Fr n ((d, .pointer (some ⟨w.heap.size, 0, none⟩)) :: F) a → WL P ops K rest a w') :
    WL P ops K (⟨some d, .alloc e, T, pp, af, none⟩ :: rest) a w := by
  obtain ⟨h1, i, h2, h3⟩ := hz
  have hm := Mb.alloc D B w #[z] e (0, 0) he
  refine s_run (w' := w.alloc (.cells #[z] e)) hF (fun ρ h => ?_) hd fun a hF => k _ a hm (hm.inv hI) ⟨alloc_new w _, Nat.le_refl _, hI.1, hm.priv (hI.priv_new (Nat.le_refl _)), he⟩ (by simp) hF
  simp [execOp, Instr.alloc, zeroValue, typeInfo, h2, h3, h1, newVar, newRow, newObj, Sem.run]
/-- A store into a variable of its own block. -/
theorem s_stb {t N g E : Nat} {u : Value} (hF : Fr n F a) (ht : One P t) (hx : ev F x = some (.pointer (some ⟨g, 0, none⟩))) (hy : ev F y = some u) (hu : u.oneCell' = true) (hb : Box D B N w g E v) (hI : Inv D B w)
    (k : ∀ w', Mb D B (some g) w w' → Inv D B w' → Box D B N w' g E u → WL P ops K rest a w') : WL P ops K (⟨none, .store t x y, T, pp, af, none⟩ :: rest) a w := by
  have hO : Own D B N w E (.slice (some ⟨g, 0, none⟩) 1 1) (some g) [v] := .inr ⟨g, 1, #[v], rfl, rfl, hb.low, hb.base, hb.blk, Nat.le_refl _, by simp [maxLen], rfl, rfl, hb.priv⟩
  refine s_set (D := D) (B := B) hF ht hx (by simp) hy hu hO hb.ty hI ?_
  intro w' hm hI' ho
  refine k w' hm hI' ?_
  rcases ho with ⟨_, h, _⟩ | ⟨g', cap, cur, e1, e2, h1, hB, h2, h3, h4, h5, h6, h7⟩
  · cases h
  · obtain rfl := Option.some.inj e2
    have hc : cap = 1 := by injection e1 with _ _ e4; exact e4.symm
    subst hc
    refine ⟨?_, h1, hB, h7, hb.ty⟩
    unfold Blk
    rw [h2]
    have : cur.toList = [u] := by
      have hl : cur.toList.length = 1 := by simpa using h5
      simp at h6
      rw [show cur.toList.take 1 = cur.toList from List.take_of_length_le (by omega)] at h6
      exact h6
    rw [← this]
end

theorem Fo.cells1 {D : FD} {B : Nat} {w : World} {v : Value} {o : Fq} (h : Fo D B w v o) : v.cells = #[v] := by
  cases o with
  | none => obtain rfl : v = .pointer none := h; rfl
  | some q => obtain ⟨_, k, rfl, _⟩ := h; rfl

/-! ### what the functions of matrices tell -/
def mayM (o : Fq) : Mtx → Bool
  | [] => false
  | r0 :: rs => decide ((r0 :: rs).length ≤ 20) && decide (1 ≤ r0.length ∧ r0.length ≤ 20) && (r0 :: rs).all fun r => decide (r.length = r0.length) && r.all (inF o)
def idM (n : Nat) : Mtx := (List.range n).map fun i => (List.range n).map fun j => if i = j then 1 else 0
def identM (n : Int) : Mtx := if 1 ≤ n ∧ n ≤ 20 then idM n.toNat else []
def rowM (a : Mtx) (i : Int) : List Int := a.getD i.toNat []
def pickB (o : Fq) (a : Mtx) (rows : List Int) : Bool := mayM o a && decide (1 ≤ rows.length ∧ rows.length ≤ 20) && rows.all fun i => decide (0 ≤ i ∧ i < (a.length : Int))
def pickM (o : Fq) (a : Mtx) (rows : List Int) : Option Mtx := if pickB o a rows = true then some (rows.map (rowM a)) else none
def wid (a : Mtx) : Nat := (a.getD 0 []).length
def joinB (o : Fq) (a b : Mtx) : Bool := mayM o a && mayM o b && decide (wid a = wid b) && decide (a.length + b.length ≤ 20)
def joinM (o : Fq) (a b : Mtx) : Option Mtx := if joinB o a b = true then some (a ++ b) else none
def dotN (o : Fq) (r c : List Int) : Nat := (List.zipWith (gmul o) r c).foldl (fun s z => s ^^^ z.toNat) 0
def colAt (b : Mtx) (j : Nat) : List Int := b.map fun r => r.getD j 0
def mulB (o : Fq) (a b : Mtx) : Bool := mayM o a && mayM o b && decide (wid a = b.length)
def mulRow (o : Fq) (b : Mtx) (r : List Int) : List Int := (List.range (wid b)).map fun j => (dotN o r (colAt b j) : Int)
def mulM (o : Fq) (a b : Mtx) : Option Mtx := if mulB o a b = true then some (a.map (mulRow o b)) else none
def applyM (o : Fq) (a : Mtx) (v : List Int) : Option (List Int) := (mulM o a (v.map fun x => [x])).map fun m => m.map fun r => r.getD 0 0

theorem mayM_pos {o : Fq} {a : Mtx} (h : mayM o a = true) : 1 ≤ a.length ∧ a.length ≤ 20 ∧ 1 ≤ wid a ∧ wid a ≤ 20 ∧ ∀ r ∈ a, r.length = wid a ∧ ∀ x ∈ r, inF o x = true := by
  cases a with
  | nil => cases h
  | cons r0 rs =>
    simp only [mayM, Bool.and_eq_true, decide_eq_true_eq, List.all_eq_true] at h
    obtain ⟨⟨h1, h2⟩, h3⟩ := h
    exact ⟨by simp, h1, h2.1, h2.2, fun r hr => ⟨(h3 r hr).1, (h3 r hr).2⟩⟩
theorem mayM_of {o : Fq} {a : Mtx} (h1 : 1 ≤ a.length) (h2 : a.length ≤ 20) (h3 : 1 ≤ wid a) (h4 : wid a ≤ 20) (h5 : ∀ r ∈ a, r.length = wid a ∧ ∀ x ∈ r, inF o x = true) : mayM o a = true := by
  cases a with
  | nil => simp at h1
  | cons r0 rs =>
    simp only [mayM, Bool.and_eq_true, decide_eq_true_eq, List.all_eq_true]
    exact ⟨⟨h2, h3, h4⟩, fun r hr => ⟨(h5 r hr).1, (h5 r hr).2⟩⟩
theorem mayM_iff {o : Fq} {a : Mtx} : mayM o a = true ↔ 1 ≤ a.length ∧ a.length ≤ 20 ∧ 1 ≤ wid a ∧ wid a ≤ 20 ∧ ∀ r ∈ a, r.length = wid a ∧ ∀ x ∈ r, inF o x = true :=
  ⟨mayM_pos, fun ⟨h1, h2, h3, h4, h5⟩ => mayM_of h1 h2 h3 h4 h5⟩
theorem wid_at {a : Mtx} {r : List Int} (h : a[0]? = some r) : wid a = r.length := by unfold wid; rw [List.getD_eq_getElem?_getD, h]; rfl
theorem mayM_no {o : Fq} {a : Mtx} (h : ¬ (1 ≤ a.length ∧ a.length ≤ 20 ∧ 1 ≤ wid a ∧ wid a ≤ 20 ∧ ∀ r ∈ a, r.length = wid a ∧ ∀ x ∈ r, inF o x = true)) : mayM o a = false := by
  cases hm : mayM o a with
  | false => rfl
  | true => exact absurd (mayM_pos hm) h
theorem fold_xor_lt {k : Nat} : ∀ (l : List Int) (s : Nat), s < 2 ^ k → (∀ z ∈ l, z.toNat < 2 ^ k) → l.foldl (fun s z => s ^^^ z.toNat) s < 2 ^ k
  | [], s, hs, _ => hs
  | z :: l, s, hs, h => fold_xor_lt l _ (Px.xor_lt hs (h z (by simp))) (fun y hy => h y (by simp [hy]))
theorem gmul_lt' (o : Fq) (hs : fsz o ≤ 65536) (a b : Int) (hp : ∀ q, o = some q → Prm q.1 q.2) : (gmul o a b).toNat < 65536 := by
  unfold gmul
  split
  · rename_i h
    cases o with
    | none => simp [fmul]
    | some q =>
      have := (hp q rfl).mulMod_lt a.toNat b.toNat
      have h2 : fsz (some q) = 2 ^ q.1 := rfl
      rw [h2] at hs
      show (mulMod a.toNat b.toNat q.2) < 65536
      omega
  · decide

/-! ### finding -/
def idxZ {α : Type} (p : α → Bool) (xs : List α) : Int := match xs.findIdx? p with | some i => (i : Int) | none => -1
theorem idxZ_at {α : Type} {p : α → Bool} {xs : List α} {i : Nat} {x : α} (h : ∀ y ∈ xs.take i, p y = false) (hi : xs[i]? = some x) (hx : p x = true) : idxZ p xs = (i : Int) := by
  have : xs.findIdx? p = some i := by
    rw [List.findIdx?_eq_some_iff_getElem]
    obtain ⟨hl, he⟩ := List.getElem?_eq_some_iff.1 hi
    refine ⟨hl, by rw [he]; exact hx, fun j hj => ?_⟩
    have hm : xs[j]'(by omega) ∈ xs.take i := by
      rw [List.mem_take_iff_getElem]
      exact ⟨j, by omega, rfl⟩
    simpa using h _ hm
  unfold idxZ; rw [this]
theorem idxZ_no {α : Type} {p : α → Bool} {xs : List α} (h : ∀ y ∈ xs, p y = false) : idxZ p xs = -1 := by
  have : xs.findIdx? p = none := by rw [List.findIdx?_eq_none_iff]; exact h
  unfold idxZ; rw [this]
theorem idxZ_any {α : Type} (p : α → Bool) (xs : List α) : decide (0 ≤ idxZ p xs) = xs.any p := by
  unfold idxZ
  cases h : xs.findIdx? p with
  | none =>
    rw [List.findIdx?_eq_none_iff] at h
    rw [List.any_eq_false.2 (fun x hx => by simpa using h x hx)]; rfl
  | some i =>
    rw [List.findIdx?_eq_some_iff_getElem] at h
    obtain ⟨hl, hp, _⟩ := h
    rw [List.any_eq_true.2 ⟨_, List.getElem_mem hl, hp⟩]
    simp
theorem take_snoc_no {α : Type} {p : α → Bool} {xs : List α} {i : Nat} {x : α} (h : ∀ y ∈ xs.take i, p y = false) (hi : xs[i]? = some x) (hx : p x = false) : ∀ y ∈ xs.take (i + 1), p y = false := by
  intro y hy
  rw [List.take_add_one, hi] at hy
  simp at hy
  rcases hy with hy | rfl
  · exact h y hy
  · exact hx
theorem mayM_eq {o : Fq} {a : Mtx} {r0 : List Int} (h0 : a[0]? = some r0) (h1 : a.length ≤ 20) (h2 : 1 ≤ r0.length ∧ r0.length ≤ 20) : (!a.any fun r => decide (r.length ≠ r0.length) || r.any fun x => !inF o x) = mayM o a := by
  rw [Bool.eq_iff_iff, mayM_iff]
  have hw := wid_at h0
  have hl := (List.getElem?_eq_some_iff.1 h0).1
  simp only [Bool.not_eq_true', List.any_eq_false, Bool.or_eq_true, decide_eq_true_eq, List.any_eq_true, not_or, Bool.not_eq_true, hw]
  constructor
  · intro h
    refine ⟨by omega, h1, h2.1, h2.2, fun r hr => ⟨?_, fun x hx => ?_⟩⟩
    · have := (h r hr).1; omega
    · cases hi : inF o x with
      | true => rfl
      | false => exact absurd ⟨x, hx, by simp [hi]⟩ (h r hr).2
  · rintro ⟨_, _, _, _, h⟩ r hr
    refine ⟨by have := (h r hr).1; omega, fun ⟨x, hx, hi⟩ => ?_⟩
    have := (h r hr).2 x hx
    rw [this] at hi; cases hi
theorem idM_len (n : Nat) : (idM n).length = n := by simp [idM]
def unitR (n i : Nat) : List Int := (List.range n).map fun j => if i = j then 1 else 0
theorem unitR_set (n i : Nat) (h : i < n) : (List.replicate n (0 : Int)).set i 1 = unitR n i := by
  apply List.ext_getElem
  · simp [unitR]
  · intro j h1 h2
    simp [unitR, List.getElem_set]
theorem unitR_length (n i : Nat) : (unitR n i).length = n := by simp [unitR]
theorem idM_eq (n : Nat) : idM n = (List.range n).map (unitR n) := rfl
theorem idM_snoc (n i : Nat) : (List.range (i + 1)).map (unitR n) = (List.range i).map (unitR n) ++ [unitR n i] := by rw [List.range_succ, List.map_append]; rfl
def dotP (o : Fq) (r c : List Int) (i : Nat) : Nat := dotN o (r.take i) (c.take i)
theorem dotP_step {o : Fq} {r c : List Int} {i : Nat} {x y : Int} (hx : r[i]? = some x) (hy : c[i]? = some y) : dotP o r c (i + 1) = dotP o r c i ^^^ (gmul o x y).toNat := by
  have h1 := (List.getElem?_eq_some_iff.1 hx).1
  have h2 := (List.getElem?_eq_some_iff.1 hy).1
  unfold dotP dotN
  rw [List.take_add_one, List.take_add_one, hx, hy, List.zipWith_append (by simp; omega), List.foldl_append]
  rfl
theorem dotP_all (o : Fq) {r c : List Int} (h : r.length = c.length) : dotP o r c r.length = dotN o r c := by
  unfold dotP; rw [List.take_length, h, List.take_length]
theorem gmul_nn {D : FD} {B : Nat} {w : World} {v : Value} {o : Fq} (h : Fo D B w v o) (a b : Int) : ∃ z : Nat, gmul o a b = (z : Int) ∧ z < 65536 := by
  have := gmul_bd h a b
  exact ⟨(gmul o a b).toNat, by omega, by omega⟩
theorem gmul_toNat_lt {D : FD} {B : Nat} {w : World} {v : Value} {o : Fq} (h : Fo D B w v o) (a b : Int) : (gmul o a b).toNat < 2 ^ 16 := by have := gmul_bd h a b; omega
theorem dotN_lt {D : FD} {B : Nat} {w : World} {v : Value} {o : Fq} (h : Fo D B w v o) (r c : List Int) : dotN o r c < 2 ^ 16 := by
  refine fold_xor_lt _ _ (by decide) (fun z hz => ?_)
  obtain ⟨i, hi⟩ := List.getElem?_of_mem hz
  rw [List.getElem?_zipWith] at hi
  cases h1 : r[i]? with
  | none => rw [h1] at hi; cases hi
  | some x =>
    cases h2 : c[i]? with
    | none => rw [h1, h2] at hi; cases hi
    | some y => rw [h1, h2] at hi; obtain rfl := Option.some.inj hi; exact gmul_toNat_lt h x y

theorem Row.nilx {D : FD} {B M len cap : Nat} {w : World} {xs : List Value} (h : Row D B M w (.slice none len cap) xs) : xs = [] := by
  rcases h with ⟨_, _, _, h⟩ | ⟨g, o, cap', h1, _⟩
  · exact h
  · cases h1
theorem ofz {l : List Int} (h : zints l = []) : l = [] := List.map_eq_nil_iff.1 h
theorem take_snoc {α : Type} {l : List α} {i : Nat} {x : α} (h : l[i]? = some x) : l.take (i + 1) = l.take i ++ [x] := by rw [List.take_add_one, h]; rfl
theorem pick_snoc {l : List Int} {mt : Mtx} {i : Nat} {x : Int} (h : l[i]? = some x) : (l.take (i + 1)).map (rowM mt) = (l.take i).map (rowM mt) ++ [rowM mt x] := by rw [take_snoc h, List.map_append]; rfl
theorem rowM_of {mt : Mtx} {i : Nat} {r : List Int} (h : mt[i]? = some r) : rowM mt (i : Int) = r := by unfold rowM; rw [List.getD_eq_getElem?_getD, Int.toNat_natCast, h]; rfl
theorem all_snoc {α : Type} {p : α → Bool} {l : List α} {i : Nat} {x : α} (h : (l.take i).all p = true) (hi : l[i]? = some x) (hx : p x = true) : (l.take (i + 1)).all p = true := by rw [take_snoc hi, List.all_append, h]; simp [hx]
theorem all_no {α : Type} {p : α → Bool} {l : List α} {i : Nat} {x : α} (hi : l[i]? = some x) (hx : p x = false) : l.all p = false := by rw [List.all_eq_false]; exact ⟨x, List.mem_of_getElem? hi, by simp [hx]⟩
theorem Mat.lenb {D : FD} {B M : Nat} {w : World} {sa : Option Addr} {cap : Nat} {a : Mtx} (h : Mat D B M w sa cap a) : True := trivial
theorem pickM_t {o : Fq} {mt : Mtx} {l : List Int} (h1 : mayM o mt = true) (h2 : 1 ≤ l.length ∧ l.length ≤ 20) (h3 : (l.all fun i => decide (0 ≤ i ∧ i < (mt.length : Int))) = true) : pickM o mt l = some (l.map (rowM mt)) := by
  unfold pickM pickB; rw [h1, h3, decide_eq_true h2]; rfl
theorem pickM_f {o : Fq} {mt : Mtx} {l : List Int} (h : mayM o mt = false ∨ ¬ (1 ≤ l.length ∧ l.length ≤ 20) ∨ (l.all fun i => decide (0 ≤ i ∧ i < (mt.length : Int))) = false) : pickM o mt l = none := by
  unfold pickM pickB
  rcases h with h | h | h
  · rw [h]; rfl
  · rw [decide_eq_false h]; simp
  · rw [h]; simp
theorem joinM_t {o : Fq} {a b : Mtx} (h1 : mayM o a = true) (h2 : mayM o b = true) (h3 : wid a = wid b) (h4 : a.length + b.length ≤ 20) : joinM o a b = some (a ++ b) := by
  unfold joinM joinB; rw [h1, h2, decide_eq_true h3, decide_eq_true h4]; rfl
theorem joinM_f {o : Fq} {a b : Mtx} (h : mayM o a = false ∨ mayM o b = false ∨ wid a ≠ wid b ∨ ¬ a.length + b.length ≤ 20) : joinM o a b = none := by
  unfold joinM joinB
  rcases h with h | h | h | h
  · rw [h]; rfl
  · rw [h]; simp
  · rw [decide_eq_false h]; simp
  · rw [decide_eq_false h]; simp

/-! ### columns -/
theorem KC.stz {D : FD} {B : Nat} {Z : Nat → Prop} {w w' : World} {a : Addr} {v : Value} (h : KC D B w a v) (hs : StZ D B Z w w') (hz : ¬ Z a.block) : KC D B w' a v := by
  have hk := hs.ext.keep a.block h.2.1 hz h.2.2
  exact ⟨(cell_of_heap hk).trans h.1, Nat.lt_of_lt_of_le h.2.1 hs.ext.size, h.2.2.imp id (notT_of hk)⟩
theorem Mk.xt {D : FD} {B n m : Nat} {ds : List Nat} {w w' : World} (h : Mk n ds w) (hs : Xt D B m w w') (hd : ∀ d ∈ ds, d < m) : Mk n ds w' :=
  ⟨h.1, fun k hk => ⟨(h.2 k hk).1, (hs.keep k (heap_lt (h.2 k hk).2) (.inl (hd k hk)) (.inr (notT_nc (h.2 k hk).2 rfl))).trans (h.2 k hk).2⟩⟩
theorem Fo.xt {D : FD} {B n : Nat} {w w' : World} {v : Value} {o : Fq} (h : Fo D B w v o) (hs : Xt D B n w w') : Fo D B w' v o := by
  cases o with
  | none => exact h
  | some q => obtain ⟨h1, k, h2, h3⟩ := h; exact ⟨h1, k, h2, hs.fld k _ _ h3⟩
theorem Fo.stz {D : FD} {B : Nat} {Z : Nat → Prop} {w w' : World} {v : Value} {o : Fq} (h : Fo D B w v o) (hs : StZ D B Z w w') : Fo D B w' v o := by
  cases o with
  | none => exact h
  | some q => obtain ⟨h1, k, h2, h3⟩ := h; exact ⟨h1, k, h2, hs.ext.fld k _ _ h3⟩
def encR (D : FD) (B : Nat) (x : List Int) (A : World) (v : Value) : Prop := ∃ b, Own D B 0 A D.E v b (zints x)
theorem encR.xt {D : FD} {B n : Nat} {x : List Int} {v : Value} {A C : World} (h : encR D B x A v) (hs : Xt D B n A C) : encR D B x C v := let ⟨b, h⟩ := h; ⟨b, h.xt D.ne hs⟩
def cfill (mt : Mtx) (j i : Nat) : List Int := (colAt mt j).take i ++ List.replicate (mt.length - i) 0
theorem colAt_length (mt : Mtx) (j : Nat) : (colAt mt j).length = mt.length := by simp [colAt]
theorem cfill_len {mt : Mtx} {j i : Nat} (h : i ≤ mt.length) : (cfill mt j i).length = mt.length := by simp [cfill, colAt_length]; omega
theorem cfill_zero (mt : Mtx) (j : Nat) : cfill mt j 0 = List.replicate mt.length 0 := by simp [cfill]
theorem cfill_all (mt : Mtx) (j : Nat) : cfill mt j mt.length = colAt mt j := by unfold cfill; rw [List.take_of_length_le (by rw [colAt_length]; omega)]; simp
theorem colAt_at {mt : Mtx} {j i : Nat} {r : List Int} {x : Int} (hr : mt[i]? = some r) (hx : r[j]? = some x) : (colAt mt j)[i]? = some x := by
  unfold colAt; rw [List.getElem?_map, hr]; simp [List.getD_eq_getElem?_getD, hx]
theorem cfill_step {mt : Mtx} {j i : Nat} {r : List Int} {x : Int} (hr : mt[i]? = some r) (hx : r[j]? = some x) : (cfill mt j i).set i x = cfill mt j (i + 1) := by
  have hl := (List.getElem?_eq_some_iff.1 hr).1
  have hc := colAt_at hr hx
  unfold cfill
  rw [List.set_append_right _ _ (by simp; omega), take_snoc hc, List.append_assoc]
  congr 1
  have e : i - ((colAt mt j).take i).length = 0 := by simp [colAt_length]; omega
  rw [e, show mt.length - i = (mt.length - (i + 1)) + 1 by omega, List.replicate_succ, List.set_cons_zero]
  rfl
theorem cols_at {mt : Mtx} {j : Nat} (h : j < wid mt) : ((List.range (wid mt)).map (colAt mt))[j]? = some (colAt mt j) := by simp [h]
theorem cols_get {mt : Mtx} {j : Nat} {x : List Int} (h : ((List.range (wid mt)).map (colAt mt))[j]? = some x) : j < wid mt ∧ x = colAt mt j := by
  have hl := (List.getElem?_eq_some_iff.1 h).1
  simp at hl
  rw [cols_at hl] at h
  exact ⟨hl, (Option.some.inj h).symm⟩
theorem mulRow_snoc {o : Fq} {b : Mtx} {r : List Int} {k : Nat} (h : k < wid b) : (mulRow o b r).take (k + 1) = (mulRow o b r).take k ++ [(dotN o r (colAt b k) : Int)] := by
  refine take_snoc ?_
  unfold mulRow
  simp [h]
theorem mulRow_length (o : Fq) (b : Mtx) (r : List Int) : (mulRow o b r).length = wid b := by simp [mulRow]
theorem mulM_t {o : Fq} {a b : Mtx} (h1 : mayM o a = true) (h2 : mayM o b = true) (h3 : wid a = b.length) : mulM o a b = some (a.map (mulRow o b)) := by
  unfold mulM mulB; rw [h1, h2, decide_eq_true h3]; rfl
theorem mulM_f {o : Fq} {a b : Mtx} (h : mayM o a = false ∨ mayM o b = false ∨ wid a ≠ b.length) : mulM o a b = none := by
  unfold mulM mulB
  rcases h with h | h | h
  · rw [h]; rfl
  · rw [h]; simp
  · rw [decide_eq_false h]; simp
theorem Mat.at1 {D : FD} {B M : Nat} {w : World} {sa : Option Addr} {cap : Nat} {a : Mtx} (h : Mat D B M w sa cap a) (h1 : 1 ≤ a.length) : ∃ g o, sa = some ⟨g, o, none⟩ := by
  obtain ⟨g, o, _, _, h2, _⟩ := h.row (List.getElem?_eq_getElem (show 0 < a.length by omega))
  exact ⟨g, o, h2⟩
theorem Mat.row2 {D : FD} {B M g o : Nat} {w : World} {cap : Nat} {a : Mtx} (h : Mat D B M w (some ⟨g, o, none⟩) cap a) {i : Nat} {r : List Int} (hi : a[i]? = some r) :
    ∃ pr cr, KC D B w ⟨g, o + i, none⟩ (.slice pr r.length cr) ∧ Row D B M w (.slice pr r.length cr) (zints r) ∧ g < M := by
  obtain ⟨g', o', pr, cr, h1, h2, h3, h4⟩ := h.row hi
  obtain ⟨rfl, rfl⟩ : g = g' ∧ o = o' := by injection h1 with h1; injection h1 with h1 h5; exact ⟨h1, h5⟩
  exact ⟨pr, cr, h2, h3, h4⟩
theorem take_snoc_all {α : Type} {p : α → Prop} {xs : List α} {i : Nat} {x : α} (h : ∀ y ∈ xs.take i, p y) (hi : xs[i]? = some x) (hx : p x) : ∀ y ∈ xs.take (i + 1), p y := by
  intro y hy
  rw [take_snoc hi] at hy
  rcases List.mem_append.1 hy with hy | hy
  · exact h y hy
  · obtain rfl : y = x := by simpa using hy
    exact hx
theorem take_snoc_eq {α : Type} {xs ys : List α} {i : Nat} {x : α} (h : xs.take i = ys.take i) (hx : xs[i]? = some x) (hy : ys[i]? = some x) : xs.take (i + 1) = ys.take (i + 1) := by rw [take_snoc hx, take_snoc hy, h]
theorem gmul_bdP {wb p : Nat} (hp : Prm wb p) (x y : Int) : 0 ≤ gmul (some (wb, p)) x y ∧ gmul (some (wb, p)) x y < 65536 := by
  have h := gmul_lt' (some (wb, p)) (by have h1 := hp.size; have h2 := hp.w; show 2 ^ wb ≤ 65536; rcases hp.w with rfl | rfl <;> decide) x y (fun q hq => by cases hq; exact hp)
  have h0 : 0 ≤ gmul (some (wb, p)) x y := by unfold gmul; split <;> omega
  omega
theorem gmul_nnP {wb p : Nat} (hp : Prm wb p) (x y : Int) : ∃ z : Nat, gmul (some (wb, p)) x y = (z : Int) ∧ z < 65536 := by
  have := gmul_bdP hp x y
  exact ⟨(gmul (some (wb, p)) x y).toNat, by omega, by omega⟩
theorem dotN_ltP {wb p : Nat} (hp : Prm wb p) (r c : List Int) : dotN (some (wb, p)) r c < 2 ^ 16 := by
  refine fold_xor_lt _ _ (by decide) (fun z hz => ?_)
  obtain ⟨i, hi⟩ := List.getElem?_of_mem hz
  rw [List.getElem?_zipWith] at hi
  cases h1 : r[i]? with
  | none => rw [h1] at hi; cases hi
  | some x =>
    cases h2 : c[i]? with
    | none => rw [h1, h2] at hi; cases hi
    | some y => rw [h1, h2] at hi; obtain rfl := Option.some.inj hi; have := gmul_bdP hp x y; omega
theorem mulRow_snoc' {o : Fq} {b : Mtx} {r : List Int} {k : Nat} (h : k < wid b) (hr : r.length = (colAt b k).length) : (mulRow o b r).take (k + 1) = (mulRow o b r).take k ++ [(dotP o r (colAt b k) r.length : Int)] := by rw [mulRow_snoc h, dotP_all o hr]
theorem unitR_snoc (n i j : Nat) (h : j < n) : (unitR n i).take (j + 1) = (unitR n i).take j ++ [if i = j then 1 else 0] := by
  refine take_snoc ?_
  unfold unitR
  simp [h]
theorem ident_done {n : Int} {i : Nat} (h : i = n.toNat ∧ n ≤ 20 ∨ i = 0 ∧ 20 < n) : (List.range i).map (unitR n.toNat) = identM n := by
  unfold identM
  split
  · rw [show i = n.toNat by omega, idM_eq]
  · rw [show i = 0 by omega]; rfl
def colM (l : List Int) : Mtx := l.map fun x => [x]
theorem colM_length (l : List Int) : (colM l).length = l.length := by simp [colM]
theorem colM_one {l : List Int} : ∀ r ∈ colM l, r.length = 1 := by intro r hr; obtain ⟨x, _, rfl⟩ := List.mem_map.1 hr; rfl
theorem colM_snoc {l : List Int} {i : Nat} {x : Int} (h : l[i]? = some x) : colM (l.take (i + 1)) = colM (l.take i) ++ [[x]] := by unfold colM; rw [take_snoc h, List.map_append]; rfl
theorem mulM_one {o : Fq} {a : Mtx} {l : List Int} {m : Mtx} (h : mulM o a (colM l) = some m) : m.length = a.length ∧ ∀ r ∈ m, r.length = 1 := by
  unfold mulM at h
  split at h
  · rename_i hb
    obtain rfl := Option.some.inj h
    refine ⟨by simp, fun r hr => ?_⟩
    obtain ⟨s, _, rfl⟩ := List.mem_map.1 hr
    rw [mulRow_length]
    simp only [mulB, Bool.and_eq_true] at hb
    have h1 := mayM_pos hb.1.2
    have h2 := h1.2.2.2.2
    cases l with
    | nil => simp [colM] at h1
    | cons x l => rfl
  · cases h
theorem applyM_eq (o : Fq) (a : Mtx) (l : List Int) : applyM o a l = (mulM o a (colM l)).map fun m => m.map fun r => r.getD 0 0 := rfl
theorem applyM_some {o : Fq} {a : Mtx} {l : List Int} : (applyM o a l).isSome = (mulM o a (colM l)).isSome := by rw [applyM_eq, Option.isSome_map]
theorem applyM_getD {o : Fq} {a : Mtx} {l : List Int} : (applyM o a l).getD [] = ((mulM o a (colM l)).getD []).map fun r => r.getD 0 0 := by
  rw [applyM_eq]; cases mulM o a (colM l) <;> rfl
theorem mulM_one' {o : Fq} {a : Mtx} {l : List Int} : ((mulM o a (colM l)).getD []).length ≤ a.length ∧ ∀ r ∈ (mulM o a (colM l)).getD [], r.length = 1 := by
  cases h : mulM o a (colM l) with
  | none => simp
  | some m => have := mulM_one h; exact ⟨by simp [this.1], this.2⟩
theorem getD_at {l : List Int} {i : Nat} {x : Int} (h : l[i]? = some x) : l.getD i 0 = x := by rw [List.getD_eq_getElem?_getD, h]; rfl
/-- Few rows, of few numbers. -/
def fewM (a : Mtx) : Bool := decide (a.length ≤ 10) && a.all fun r => decide (r.length ≤ 10)
theorem fewM_iff {a : Mtx} : fewM a = true ↔ a.length ≤ 10 ∧ ∀ r ∈ a, r.length ≤ 10 := by simp [fewM]
theorem map_snoc {α β : Type} {f : α → β} {l : List α} {i : Nat} {x : α} (h : l[i]? = some x) : (l.take (i + 1)).map f = (l.take i).map f ++ [f x] := by rw [take_snoc h, List.map_append]; rfl

theorem Rd.W_dS {P : Program} {r : Option Nat} {N : Kont} {X : List (Nat × Kont)} {R : Kont} {a : Act} {w : World} {ops : Array Oper} (S : World → Prop) {id m : Nat} (hsz : ops.size = m) (hm : P.follows .mixedOrders = true) (hd : noDefer ops.toList = true)
    (h : ∀ K : Kont, (∀ a w, N a w → K a w) → WS P S ops K m (Array.replicate m false) a { w with drawn := w.drawn + 1 }) : WI P r (.region id ops true) N X R a w := by
  subst hsz
  refine wpIn_mono (wpIn_region_draw fun t => ?_) Rd.qof_reg
  simp only [Region.schedule, hm, Bool.true_or, if_true]
  exact opsIn_of qof_no hd _ _ _ (wpAny_sound ops.size t _ a _ (wpAny_of_held _ _ _ _ (h N (fun _ _ h => h))))
end Go.Gam
