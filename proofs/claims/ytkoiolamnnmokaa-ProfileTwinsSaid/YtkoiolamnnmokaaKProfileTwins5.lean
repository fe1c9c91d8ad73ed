/- Texts of the claim ProfileTwins (part 5), put together in the order of their imports. -/
import Derived.Test.YtkoiolamnnmokaaKProfileTwins4
/- Matrices: rows of numbers in memory; what the functions of matrices tell. No program in sight. -/
set_option linter.unusedVariables false
set_option linter.unusedSimpArgs false
namespace Go.Gam
open Px

/-! ### cells that nobody turns -/
def KC (D : FD) (B : Nat) (w : World) (a : Addr) (v : Value) : Prop := w.cell? a = some v ∧ a.block < w.heap.size ∧ (a.block < B ∨ notT D w a.block)
theorem KC.c {D : FD} {B : Nat} {w : World} {a : Addr} {v : Value} (h : KC D B w a v) : w.cell? a = some v := h.1
theorem KC.ld {D : FD} {B : Nat} {w w' : World} {a : Addr} {v : Value} (h : KC D B w a v) (hs : Ext D B w w') : w'.cell? a = some v := (cell_of_heap (hs.keep a.block h.2.1 h.2.2)).trans h.1
theorem KC.ext {D : FD} {B : Nat} {w w' : World} {a : Addr} {v : Value} (h : KC D B w a v) (hs : Ext D B w w') : KC D B w' a v :=
  ⟨h.ld hs, Nat.lt_of_lt_of_le h.2.1 hs.size, h.2.2.imp id (notT_of (hs.keep a.block h.2.1 h.2.2))⟩
theorem KC.st {D : FD} {B : Nat} {w w' : World} {a : Addr} {v : Value} (h : KC D B w a v) (hs : St D B w w') : KC D B w' a v := h.ext hs.ext
theorem KC.mb {D : FD} {B : Nat} {b : Option Nat} {w w' : World} {a : Addr} {v : Value} (h : KC D B w a v) (hm : Mb D B b w w') (hb : b ≠ some a.block) : KC D B w' a v := by
  have hk := hm.keep a.block h.2.1 (fun e => hb e.symm)
  exact ⟨(cell_of_heap hk).trans h.1, Nat.lt_of_lt_of_le h.2.1 hm.size, h.2.2.imp id (notT_of hk)⟩
theorem Row.kat {D : FD} {B M len cap : Nat} {w : World} {sa : Option Addr} {xs : List Value} {i : Nat} {u : Value} (h : Row D B M w (.slice sa len cap) xs) (hi : xs[i]? = some u) : ∃ g o, sa = some ⟨g, o, none⟩ ∧ KC D B w ⟨g, o + i, none⟩ u ∧ g < M := by
  rcases h with ⟨_, _, h1, rfl⟩ | ⟨g, o, cap', h1, h0, h2, h3, h4, h5⟩
  · simp at hi
  · obtain ⟨rfl, rfl, rfl⟩ := Value.slice.inj h1
    exact ⟨g, o, rfl, ⟨h5 i u hi, h4, h3⟩, h2⟩
theorem Blk.kc {D : FD} {B : Nat} {w : World} {g : Nat} {E : TypeId} {cs : List Value} (h : Blk w g E cs) (hE : E ≠ D.T) (i : Nat) {v : Value} (hv : nth cs i = some v) : KC D B w ⟨g, i, none⟩ v :=
  ⟨h.at i hv, heap_lt h, .inr fun c fr e => by rw [show w.heap[g]? = _ from h] at e; exact hE (Obj.cells.inj (Option.some.inj e)).2.1⟩

/-! ### matrices in memory -/
abbrev Mtx := List (List Int)
structure Mat (D : FD) (B M : Nat) (w : World) (sa : Option Addr) (cap : Nat) (a : Mtx) : Prop where
  ex : ∃ vals, vals.length = a.length ∧ Row D B M w (.slice sa a.length cap) vals ∧ ∀ (j : Nat) (v : Value) (r : List Int), vals[j]? = some v → a[j]? = some r → Row D B M w v (zints r)
theorem Mat.st {D : FD} {B M : Nat} {w w' : World} {sa : Option Addr} {cap : Nat} {a : Mtx} (h : Mat D B M w sa cap a) (hs : St D B w w') : Mat D B M w' sa cap a := by
  obtain ⟨vals, h1, h2, h3⟩ := h.ex
  exact ⟨vals, h1, h2.st hs, fun j v r x y => (h3 j v r x y).st hs⟩
theorem Mat.mb {D : FD} {B M : Nat} {b : Option Nat} {w w' : World} {sa : Option Addr} {cap : Nat} {a : Mtx} (h : Mat D B M w sa cap a) (hm : Mb D B b w w') (hb : ∀ k, b = some k → M ≤ k) : Mat D B M w' sa cap a := by
  obtain ⟨vals, h1, h2, h3⟩ := h.ex
  exact ⟨vals, h1, h2.mb hm hb, fun j v r x y => (h3 j v r x y).mb hm hb⟩
theorem Mat.mono {D : FD} {B M M' : Nat} {w : World} {sa : Option Addr} {cap : Nat} {a : Mtx} (h : Mat D B M w sa cap a) (hM : M ≤ M') : Mat D B M' w sa cap a := by
  obtain ⟨vals, h1, h2, h3⟩ := h.ex
  exact ⟨vals, h1, h2.mono hM, fun j v r x y => (h3 j v r x y).mono hM⟩
theorem Mat.xt {D : FD} {B M n : Nat} {w w' : World} {sa : Option Addr} {cap : Nat} {a : Mtx} (h : Mat D B M w sa cap a) (hs : Xt D B n w w') : Mat D B M w' sa cap a := by
  obtain ⟨vals, h1, h2, h3⟩ := h.ex
  exact ⟨vals, h1, h2.xt hs, fun j v r x y => (h3 j v r x y).xt hs⟩
theorem Mat.stz {D : FD} {B M : Nat} {Z : Nat → Prop} {w w' : World} {sa : Option Addr} {cap : Nat} {a : Mtx} (h : Mat D B M w sa cap a) (hs : StZ D B Z w w') (hz : ∀ k, k < M → ¬ Z k) : Mat D B M w' sa cap a := by
  obtain ⟨vals, h1, h2, h3⟩ := h.ex
  exact ⟨vals, h1, h2.stz hs hz, fun j v r x y => (h3 j v r x y).stz hs hz⟩
theorem Mat.row {D : FD} {B M : Nat} {w : World} {sa : Option Addr} {cap : Nat} {a : Mtx} (h : Mat D B M w sa cap a) {i : Nat} {r : List Int} (hi : a[i]? = some r) :
    ∃ g o pr cr, sa = some ⟨g, o, none⟩ ∧ KC D B w ⟨g, o + i, none⟩ (.slice pr r.length cr) ∧ Row D B M w (.slice pr r.length cr) (zints r) ∧ g < M := by
  obtain ⟨vals, h1, h2, h3⟩ := h.ex
  have hl := (List.getElem?_eq_some_iff.1 hi).1
  obtain ⟨v, hv⟩ : ∃ v, vals[i]? = some v := ⟨_, List.getElem?_eq_getElem (by omega)⟩
  have hr := h3 i v r hv hi
  obtain ⟨pr, cr, rfl⟩ := hr.sl
  rw [zints_length] at hr hv
  obtain ⟨g, o, rfl, hk, hM⟩ := h2.kat hv
  exact ⟨g, o, pr, cr, rfl, hk, hr, hM⟩
theorem Mat.capd {D : FD} {B M : Nat} {w : World} {sa : Option Addr} {cap : Nat} {a : Mtx} (h : Mat D B M w sa cap a) : a.length ≤ cap := by
  obtain ⟨vals, h1, h2, h3⟩ := h.ex
  exact h2.capd
theorem Mat.to {D : FD} {B M : Nat} {w : World} {sa : Option Addr} {cap : Nat} {a b : Mtx} (h : Mat D B M w sa cap a) {hi : Nat} (h2 : hi ≤ a.length) (hb : b = a.take hi) : Mat D B M w sa cap b := by
  obtain ⟨vals, h1, h3, h4⟩ := h.ex
  subst hb
  have hl : (a.take hi).length = hi := by simp; omega
  refine ⟨vals.take hi, by simp; omega, by rw [hl]; exact h3.to (by omega), fun j v r x y => ?_⟩
  rw [List.getElem?_take] at x y
  split at x
  · rename_i hj; rw [if_pos hj] at y; exact h4 j v r x y
  · cases x
theorem Mat.from {D : FD} {B M : Nat} {w : World} {sa : Option Addr} {cap : Nat} {a b : Mtx} (h : Mat D B M w sa cap a) {lo : Nat} (h2 : lo ≤ a.length) (hb : b = a.drop lo) : Mat D B M w (slA sa lo cap) (cap - lo) b := by
  obtain ⟨vals, h1, h3, h4⟩ := h.ex
  subst hb
  have hl : (a.drop lo).length = a.length - lo := by simp
  have hp := h3.part (lo := lo) (hi := a.length) (by omega) (by omega)
  rw [show vals.take a.length = vals from List.take_of_length_le (by omega)] at hp
  refine ⟨vals.drop lo, by simp; omega, by rw [hl]; exact hp, fun j v r x y => ?_⟩
  rw [List.getElem?_drop] at x y
  exact h4 _ v r x y
theorem Mat.empty (D : FD) (B M : Nat) (w : World) (sa : Option Addr) (cap : Nat) : Mat D B M w sa cap [] := ⟨[], rfl, .inl ⟨_, _, rfl, rfl⟩, fun j v r x => by simp at x⟩

/-- A row of a matrix that is gathered: of the walk's own, in a block below K, or one that came in. -/
def RowO (D : FD) (B N K : Nat) (w : World) (u : Value) (r : List Int) : Prop := (∃ b, Own D B N w D.E u b (zints r) ∧ ∀ g, b = some g → g < K) ∨ Row D B N w u (zints r)
theorem RowO.st {D : FD} {B N K : Nat} {w w' : World} {u : Value} {r : List Int} (h : RowO D B N K w u r) (hs : St D B w w') : RowO D B N K w' u r :=
  h.imp (fun ⟨b, h1, h2⟩ => ⟨b, h1.st D.ne hs, h2⟩) (fun h => h.st hs)
theorem RowO.xt {D : FD} {B N K n : Nat} {w w' : World} {u : Value} {r : List Int} (h : RowO D B N K w u r) (hs : Xt D B n w w') : RowO D B N K w' u r :=
  h.imp (fun ⟨b, h1, h2⟩ => ⟨b, h1.xt D.ne hs, h2⟩) (fun h => h.xt hs)
theorem RowO.mb {D : FD} {B N K : Nat} {b : Option Nat} {w w' : World} {u : Value} {r : List Int} (h : RowO D B N K w u r) (hm : Mb D B b w w') (hb : ∀ k, b = some k → K ≤ k ∧ N ≤ k) : RowO D B N K w' u r :=
  h.imp (fun ⟨c, h1, h2⟩ => ⟨c, h1.mb hm (fun k e e2 => by have := h2 k e; have := (hb k e2).1; omega), h2⟩) (fun h => h.mb hm (fun k e => (hb k e).2))
theorem RowO.mb2 {D : FD} {B N K N' E2 : Nat} {b : Option Nat} {w w' : World} {u v : Value} {xs : List Value} {r : List Int} (h : RowO D B N K w u r) (hm : Mb D B b w w') (ho : Own D B N' w E2 v b xs) (hE : D.E ≠ E2) (hN : N ≤ N') : RowO D B N K w' u r :=
  h.imp (fun ⟨c, h1, h2⟩ => ⟨c, h1.mb hm (h1.ne_type ho hE), h2⟩) (fun h => h.mb hm (fun k e => Nat.le_trans hN (ho.lt k e).1))
theorem RowO.row {D : FD} {B N K : Nat} {w : World} {u : Value} {r : List Int} (h : RowO D B N K w u r) (hN : N ≤ w.heap.size) : Row D B w.heap.size w u (zints r) := by
  rcases h with ⟨b, h1, _⟩ | h
  · exact h1.row D.ne
  · exact h.mono hN
theorem RowO.of {D : FD} {B N N' : Nat} {w : World} {u : Value} {b : Option Nat} {r : List Int} (h : Own D B N' w D.E u b (zints r)) (hN : N ≤ N') : RowO D B N w.heap.size w u r := .inl ⟨b, h.le hN, fun g e => (h.lt g e).2⟩
theorem RowO.up {D : FD} {B N K K' : Nat} {w : World} {u : Value} {r : List Int} (h : RowO D B N K w u r) (hK : K ≤ K') : RowO D B N K' w u r :=
  h.imp (fun ⟨b, h1, h2⟩ => ⟨b, h1, fun g e => Nat.lt_of_lt_of_le (h2 g e) hK⟩) id

/-- Rows in a row of the walk's own (from N on), while they are gathered: each its own, below K, or one that came in, below M0. -/
structure MOwn (D : FD) (B N M0 K : Nat) (w : World) (E2 : TypeId) (v : Value) (b : Option Nat) (a : Mtx) : Prop where
  ex : ∃ vals, vals.length = a.length ∧ Own D B N w E2 v b vals ∧ ∀ (j : Nat) (u : Value) (r : List Int), vals[j]? = some u → a[j]? = some r → RowO D B M0 K w u r
  mn : M0 ≤ N
theorem MOwn.nil (D : FD) (B N M0 K : Nat) (w : World) (E2 : TypeId) (h : M0 ≤ N) : MOwn D B N M0 K w E2 (.slice none 0 0) none [] := ⟨⟨[], rfl, Own.nil _ _ _ _ _, fun j v r x => by simp at x⟩, h⟩
theorem MOwn.st {D : FD} {B N M0 K : Nat} {w w' : World} {E2 : TypeId} {v : Value} {b : Option Nat} {a : Mtx} (h : MOwn D B N M0 K w E2 v b a) (hE : E2 ≠ D.T) (hs : St D B w w') : MOwn D B N M0 K w' E2 v b a := by
  obtain ⟨vals, h1, h2, h3⟩ := h.ex
  exact ⟨⟨vals, h1, h2.st hE hs, fun j u r x y => (h3 j u r x y).st hs⟩, h.mn⟩
theorem MOwn.mb0 {D : FD} {B N M0 K : Nat} {w w' : World} {E2 : TypeId} {v : Value} {b : Option Nat} {a : Mtx} (h : MOwn D B N M0 K w E2 v b a) (hm : Mb D B none w w') : MOwn D B N M0 K w' E2 v b a := by
  obtain ⟨vals, h1, h2, h3⟩ := h.ex
  exact ⟨⟨vals, h1, h2.mb hm (fun k _ e => by cases e), fun j u r x y => (h3 j u r x y).mb hm (fun _ e => by cases e)⟩, h.mn⟩
/-- Another row of the walk's own, of numbers, from K on, turns. -/
theorem MOwn.mbo {D : FD} {B N M0 K N' : Nat} {c : Option Nat} {w w' : World} {E2 : TypeId} {v u : Value} {b : Option Nat} {a : Mtx} {xs : List Value} (h : MOwn D B N M0 K w E2 v b a) (hm : Mb D B c w w') (ho : Own D B N' w D.E u c xs) (hE : D.E ≠ E2) (hK : K ≤ N') (hN : M0 ≤ N') : MOwn D B N M0 K w' E2 v b a := by
  obtain ⟨vals, h1, h2, h3⟩ := h.ex
  exact ⟨⟨vals, h1, h2.mb hm (fun k e e2 => ho.ne_type h2 hE k e2 e), fun j x r p q => (h3 j x r p q).mb hm (fun k e => ⟨Nat.le_trans hK (ho.lt k e).1, Nat.le_trans hN (ho.lt k e).1⟩)⟩, h.mn⟩
theorem MOwn.xt {D : FD} {B N M0 K n : Nat} {w w' : World} {E2 : TypeId} {v : Value} {b : Option Nat} {a : Mtx} (h : MOwn D B N M0 K w E2 v b a) (hE : E2 ≠ D.T) (hs : Xt D B n w w') : MOwn D B N M0 K w' E2 v b a := by
  obtain ⟨vals, h1, h2, h3⟩ := h.ex
  exact ⟨⟨vals, h1, h2.xt hE hs, fun j u r x y => (h3 j u r x y).xt hs⟩, h.mn⟩
theorem MOwn.mat {D : FD} {B N M0 K : Nat} {w : World} {E2 : TypeId} {v : Value} {b : Option Nat} {a : Mtx} (h : MOwn D B N M0 K w E2 v b a) (hE : E2 ≠ D.T) (hN : M0 ≤ w.heap.size) : ∃ sa cap, v = .slice sa a.length cap ∧ Mat D B w.heap.size w sa cap a := by
  obtain ⟨vals, h1, h2, h3⟩ := h.ex
  obtain ⟨sa, cap, rfl⟩ := h2.shape
  have hr := h2.row hE
  rw [h1] at hr
  exact ⟨sa, cap, by rw [h1], vals, h1, hr, fun j v r x y => (h3 j v r x y).row hN⟩
theorem MOwn.up {D : FD} {B N M0 K K' : Nat} {w : World} {E2 : TypeId} {v : Value} {b : Option Nat} {a : Mtx} (h : MOwn D B N M0 K w E2 v b a) (hK : K ≤ K') : MOwn D B N M0 K' w E2 v b a := by
  obtain ⟨vals, h1, h2, h3⟩ := h.ex
  exact ⟨⟨vals, h1, h2, fun j u r x y => (h3 j u r x y).up hK⟩, h.mn⟩
theorem MOwn.cast {D : FD} {B N M0 K : Nat} {w : World} {E2 : TypeId} {v : Value} {b : Option Nat} {a a' : Mtx} (h : MOwn D B N M0 K w E2 v b a) (e : a = a') : MOwn D B N M0 K w E2 v b a' := e ▸ h
theorem MOwn.le {D : FD} {B N N' M0 K : Nat} {w : World} {E2 : TypeId} {v : Value} {b : Option Nat} {a : Mtx} (h : MOwn D B N M0 K w E2 v b a) (hN : N' ≤ N) (hm : M0 ≤ N') : MOwn D B N' M0 K w E2 v b a := by
  obtain ⟨vals, h1, h2, h3⟩ := h.ex
  exact ⟨⟨vals, h1, h2.le hN, h3⟩, hm⟩
theorem MOwn.lt {D : FD} {B N M0 K : Nat} {w : World} {E2 : TypeId} {v : Value} {b : Option Nat} {a : Mtx} (h : MOwn D B N M0 K w E2 v b a) : ∀ k, b = some k → N ≤ k ∧ k < w.heap.size := by
  obtain ⟨vals, h1, h2, h3⟩ := h.ex
  exact h2.lt
theorem MOwn.isrow {D : FD} {B N M0 K : Nat} {w : World} {E2 : TypeId} {v : Value} {b : Option Nat} {a : Mtx} (h : MOwn D B N M0 K w E2 v b a) : ∀ k, b = some k → ∃ c e fr, w.heap[k]? = some (.cells c e fr) := by
  obtain ⟨vals, h1, h2, h3⟩ := h.ex
  exact h2.isrow

section
variable {P : Program} {ops : Array Oper} {K' : Kont} {rest : List Oper} {n : NN} {F : Fs} {T : TypeId} {pp : String} {af : Array Edge} {v : Value} {d : Nat} {a : Act} {w : World} {x : Operand} {D : FD} {B : Nat}
/-- A row is appended to rows that are gathered. -/
theorem s_appM {t e by_ N N2 M0 K : Nat} {ats : Array TypeId} {z : Value} {b bx : Option Nat} {a0 : Mtx} {xv u : Value} {r : List Int} {s : Operand} (hF : Fr n F a) (hat : ats = #[t, t]) (ht : Sl P t e z by_) (hs : ev F s = some v) (hx : ev F x = some xv)
    (hM : MOwn D B N M0 K w e v b a0) (hl : Own D B N2 w e xv bx [u]) (hr : RowO D B M0 K w u r) (h1 : u.oneCell' = true) (hby : by_ = 24) (hsm : a0.length ≤ 1000000) (hN : N ≤ w.heap.size) (he : e ≠ D.T) (hE : D.E ≠ e) (hI : Inv D B w) (hd : Nat.blt d n.n = true)
    (k : ∀ v' b' w' a, MOwn D B N M0 K w' e v' b' (a0 ++ [r]) → Mb D B b w w' → Inv D B w' → Fr n ((d, v') :: F) a → WL P ops K' rest a w') :
    WL P ops K' (⟨some d, .call ⟨.builtin .append, #[s, x], ats⟩, T, pp, af, none⟩ :: rest) a w := by
  obtain ⟨vals, h2, h3, h4⟩ := hM.ex
  subst hby
  refine s_app (D := D) (B := B) hF hat ht hs hx h3 (hl.row he) (by simpa using h1) (by simp; omega) (by simp [maxLen]; omega) hN he hI hd ?_
  intro v' b' w' a' ho hm hI' hb' hF'
  refine k v' b' w' a' ⟨⟨vals ++ [u], by simp [h2], ho, fun j x y hx hy => ?_⟩, hM.mn⟩ hm hI' hF'
  by_cases hj : j < vals.length
  · rw [List.getElem?_append_left hj] at hx
    rw [List.getElem?_append_left (by omega)] at hy
    exact (h4 j x y hx hy).mb2 hm h3 hE hM.mn
  · have hj2 : j = vals.length := by have := (List.getElem?_eq_some_iff.1 hx).1; simp at this; omega
    subst hj2
    simp at hx
    rw [h2] at hy
    simp at hy
    subst hx; subst hy
    exact hr.mb2 hm h3 hE hM.mn
/-- Rows that may be appended. -/
def RowsO (D : FD) (B N K : Nat) (w : World) (v : Value) (a : Mtx) : Prop := ∃ vals, vals.length = a.length ∧ (∃ M, Row D B M w v vals) ∧ ∀ (j : Nat) (u : Value) (r : List Int), vals[j]? = some u → a[j]? = some r → RowO D B N K w u r
theorem MOwn.rowsO {D : FD} {B N M0 K : Nat} {w : World} {E2 : TypeId} {v : Value} {b : Option Nat} {a : Mtx} (h : MOwn D B N M0 K w E2 v b a) (hE : E2 ≠ D.T) : RowsO D B M0 K w v a := by
  obtain ⟨vals, h1, h2, h3⟩ := h.ex
  exact ⟨vals, h1, ⟨_, h2.row hE⟩, h3⟩
theorem Mat.rowsO {D : FD} {B M N K : Nat} {w : World} {sa : Option Addr} {cap : Nat} {a : Mtx} (h : Mat D B M w sa cap a) (hM : M ≤ N) : RowsO D B N K w (.slice sa a.length cap) a := by
  obtain ⟨vals, h1, h2, h3⟩ := h.ex
  exact ⟨vals, h1, ⟨_, h2⟩, fun j u r x y => .inr ((h3 j u r x y).mono hM)⟩
theorem RowO.cell1 {D : FD} {B N K : Nat} {w : World} {u : Value} {r : List Int} (h : RowO D B N K w u r) : u.oneCell' = true := by
  rcases h with ⟨b, h, _⟩ | h
  · obtain ⟨a, c, rfl⟩ := h.shape; rfl
  · obtain ⟨a, c, rfl⟩ := h.sl; rfl
theorem s_appMM {t e by_ N M0 K : Nat} {ats : Array TypeId} {z : Value} {b : Option Nat} {a0 a1 : Mtx} {xv : Value} {s : Operand} (hF : Fr n F a) (hat : ats = #[t, t]) (ht : Sl P t e z by_) (hs : ev F s = some v) (hx : ev F x = some xv)
    (hM : MOwn D B N M0 K w e v b a0) (hr : RowsO D B M0 K w xv a1) (hby : by_ = 24) (hsm : a0.length + a1.length ≤ 1000000) (hN : N ≤ w.heap.size) (he : e ≠ D.T) (hE : D.E ≠ e) (hI : Inv D B w) (hd : Nat.blt d n.n = true)
    (k : ∀ v' b' w' a, MOwn D B N M0 K w' e v' b' (a0 ++ a1) → Mb D B b w w' → Inv D B w' → Fr n ((d, v') :: F) a → WL P ops K' rest a w') :
    WL P ops K' (⟨some d, .call ⟨.builtin .append, #[s, x], ats⟩, T, pp, af, none⟩ :: rest) a w := by
  obtain ⟨vals, h2, h3, h4⟩ := hM.ex
  obtain ⟨vals2, l2, ⟨M2, hrow⟩, h5⟩ := hr
  subst hby
  have hone : ∀ u ∈ vals2, u.oneCell' = true := fun u hu => by
    obtain ⟨j, hj⟩ := List.getElem?_of_mem hu
    have := (List.getElem?_eq_some_iff.1 hj).1
    exact (h5 j u _ hj (List.getElem?_eq_getElem (by omega))).cell1
  refine s_app (D := D) (B := B) hF hat ht hs hx h3 hrow hone (by omega) (by simp only [maxLen]; omega) hN he hI hd ?_
  intro v' b' w' a' ho hm hI' hb' hF'
  refine k v' b' w' a' ⟨⟨vals ++ vals2, by simp [h2, l2], ho, fun j x y hx hy => ?_⟩, hM.mn⟩ hm hI' hF'
  by_cases hj : j < vals.length
  · rw [List.getElem?_append_left hj] at hx
    rw [List.getElem?_append_left (by omega)] at hy
    exact (h4 j x y hx hy).mb2 hm h3 hE hM.mn
  · rw [List.getElem?_append_right (by omega)] at hx
    rw [List.getElem?_append_right (by omega)] at hy
    rw [h2] at hx
    exact (h5 _ x y hx hy).mb2 hm h3 hE hM.mn
theorem v_eqlSl {sa : Option Addr} {len cap : Nat} {t e s : TypeId} {y : Operand} (hb : P.underlying t = some (.slice e)) (hx : ev F x = some (.slice sa len cap)) (hy : ev F y = some (.slice none 0 0)) : Val P (.binOp .eql t x y s) T F w (.bool sa.isNone) :=
  fun ρ h d p af g => by
    simp only [execOp, h x _ hx, h y _ hy, eqGuard, binOp]
    have he : ∀ (e : Nat), (Op.equalIn (e + 1) t (.slice sa len cap) (.slice none 0 0)).run P w = .ok sa.isNone w := by
      intro e
      cases sa <;> simp [Op.equalIn, underlying, hb, program, Sem.run]
    have he' : (Op.equal t (.slice sa len cap) (.slice none 0 0)).run P w = .ok sa.isNone w := he 9999
    simp [he']
end

theorem Own.ne_mown {D : FD} {B N N' M0 K : Nat} {w : World} {E E2 : TypeId} {v v' : Value} {b b' : Option Nat} {xs : List Value} {a : Mtx} (h : Own D B N w E v b xs) (h' : MOwn D B N' M0 K w E2 v' b' a) (hE : E ≠ E2) : ∀ k, b = some k → b' ≠ some k := by
  obtain ⟨vals, h1, h2, h3⟩ := h'.ex
  exact h.ne_type h2 hE

/-! ### a variable of its own block that is stored into -/
structure Box (D : FD) (B N : Nat) (w : World) (g : Nat) (E : TypeId) (v : Value) : Prop where
  blk : Blk w g E [v]
  low : N ≤ g
  base : B ≤ g
  priv : Priv D B w g
  ty : E ≠ D.T
theorem Box.st {D : FD} {B N : Nat} {w w' : World} {g : Nat} {E : TypeId} {v : Value} (h : Box D B N w g E v) (hs : St D B w w') : Box D B N w' g E v := ⟨h.blk.st h.ty hs, h.low, h.base, hs.ext.priv g (heap_lt h.blk) h.priv, h.ty⟩
theorem Box.xt {D : FD} {B N n : Nat} {w w' : World} {g : Nat} {E : TypeId} {v : Value} (h : Box D B N w g E v) (hs : Xt D B n w w') : Box D B N w' g E v := ⟨h.blk.xt h.ty hs, h.low, h.base, hs.priv g (heap_lt h.blk) h.priv, h.ty⟩
theorem Box.mb {D : FD} {B N : Nat} {b : Option Nat} {w w' : World} {g : Nat} {E : TypeId} {v : Value} (h : Box D B N w g E v) (hm : Mb D B b w w') (hb : b ≠ some g) : Box D B N w' g E v := ⟨h.blk.mb hm hb, h.low, h.base, hm.priv h.priv, h.ty⟩
theorem Box.stz {D : FD} {B N : Nat} {Z : Nat → Prop} {w w' : World} {g : Nat} {E : TypeId} {v : Value} (h : Box D B N w g E v) (hs : StZ D B Z w w') (hz : ¬ Z g) : Box D B N w' g E v := ⟨h.blk.stz h.ty hs hz, h.low, h.base, hs.ext.priv g (heap_lt h.blk) h.priv, h.ty⟩
theorem Box.at {D : FD} {B N : Nat} {w : World} {g : Nat} {E : TypeId} {v : Value} (h : Box D B N w g E v) : w.cell? ⟨g, 0, none⟩ = some v := h.blk.at 0 rfl
theorem Box.kc {D : FD} {B N : Nat} {w : World} {g : Nat} {E : TypeId} {v : Value} (h : Box D B N w g E v) : KC D B w ⟨g, 0, none⟩ v := h.blk.kc h.ty 0 rfl
theorem Box.ne_own {D : FD} {B N N' : Nat} {w : World} {g : Nat} {E E' : TypeId} {v u : Value} {b : Option Nat} {xs : List Value} (h : Box D B N w g E v) (ho : Own D B N' w E' u b xs) (hE : E ≠ E') : b ≠ some g := by
  intro e
  obtain ⟨_, hl⟩ := ho.lt g e
  rcases ho with ⟨_, h', _⟩ | ⟨g', cap, cur, rfl, hb, h1, hB, h2, h3⟩
  · rw [h'] at e; cases e
  · rw [hb] at e; obtain rfl := Option.some.inj e
    have hk : w.heap[g']? = _ := h.blk
    rw [h2] at hk
    exact hE (Obj.cells.inj (Option.some.inj hk)).2.1.symm

theorem MOwn.mbx {D : FD} {B N M0 K g : Nat} {w w' : World} {E2 : TypeId} {v : Value} {b : Option Nat} {a : Mtx} (h : MOwn D B N M0 K w E2 v b a) (hm : Mb D B (some g) w w') (hb : b ≠ some g) (hK : K ≤ g) (hN : M0 ≤ g) : MOwn D B N M0 K w' E2 v b a := by
  obtain ⟨vals, h1, h2, h3⟩ := h.ex
  exact ⟨⟨vals, h1, h2.mb hm (fun k e e2 => hb (e.trans e2.symm)), fun j x r p q => (h3 j x r p q).mb hm (fun k e => by cases e; exact ⟨hK, hN⟩)⟩, h.mn⟩
section
variable {P : Program} {ops : Array Oper} {K : Kont} {rest : List Oper} {n : NN} {F : Fs} {T : TypeId} {pp : String} {af : Array Edge} {v : Value} {d : Nat} {a : Act} {w : World} {x y : Operand} {D : FD} {B : Nat}
/-- A type whose variables are one cell, z at first. -/
def Zv (P : Program) (e : TypeId) (z : Value) : Prop := z.cells = #[z] ∧ ∃ i, P.info? e = some i ∧ i.zero = some z
theorem zv_of {e : TypeId} {z : Value} (hz : z.cells = #[z]) (h : (P.info? e).map (fun i => i.zero) = some (some z)) : Zv P e z := by
  cases hi : P.info? e with
  | none => rw [hi] at h; cases h
  | some i => rw [hi] at h; exact ⟨hz, i, hi, by simpa using h⟩
theorem s_boxN {e : TypeId} (hF : Fr n F a) (hx : ev F x = some v) (hv : v.cells = #[v]) (he : e ≠ D.T) (hI : Inv D B w) (hd : Nat.blt d n.n = true)
    (k : ∀ w' a, Mb D B none w w' → Inv D B w' → Box D B w.heap.size w' w.heap.size e v → w'.heap.size = w.heap.size + 1 → Fr n ((d, .pointer (some ⟨w.heap.size, 0, none⟩)) :: F) a → WL P ops K rest a w') :
    WL P ops K (⟨some d, .box e x, T, pp, af, none⟩ :: rest) a w :=
  s_box hF hx he hI hd fun w' a hm hb hsz hF => k w' a hm (hm.inv hI) ⟨by rw [hv] at hb; exact hb, Nat.le_refl _, hI.1, hm.priv (hI.priv_new (Nat.le_refl _)), he⟩ hsz hF
theorem s_alloc {e : TypeId} {z : Value} (hF : Fr n F a) (hz : Zv P e z) (he : e ≠ D.T) (hI : Inv D B w) (hd : Nat.blt d n.n = true)
    (k : ∀ w' a, Mb D B none w w' → Inv D B w' → Box D B w.heap.size w' w.heap.size e z → w'.heap.size = w.heap.size + 1 → Fr n ((d, .pointer (some ⟨w.heap.size, 0, none⟩)) :: F) a → WL P ops K rest a w') :
    WL P ops K (⟨some d, .alloc e, T, pp, af, none⟩ :: rest) a w := by
  obtain ⟨h1, i, h2, h3⟩ := hz
  have hm := Mb.alloc D B w #[z] e (0, 0) he
  refine s_run (w' := w.alloc (.cells #[z] e)) hF (fun ρ h => ?_) hd fun a hF => k _ a hm (hm.inv hI) ⟨alloc_new w _, Nat.le_refl _, hI.1, hm.priv (hI.priv_new (Nat.le_refl _)), he⟩ (by simp) hF
  simp [execOp, Instr.alloc, zeroValue, typeInfo, h2, h3, h1, newVar, newRow, newObj, Sem.run]
/-- A store into a variable of its own block. -/
theorem s_stb {t N g E : Nat} {u : Value} (hF : Fr n F a) (ht : One P t) (hx : ev F x = some (.pointer (some ⟨g, 0, none⟩))) (hy : ev F y = some u) (hu : u.oneCell' = true) (hb : Box D B N w g E v) (hI : Inv D B w)
    (k : ∀ w', Mb D B (some g) w w' → Inv D B w' → Box D B N w' g E u → WL P ops K rest a w') : WL P ops K (⟨none, .store t x y, T, pp, af, none⟩ :: rest) a w := by
  have hO : Own D B N w E (.slice (some ⟨g, 0, none⟩) 1 1) (some g) [v] := .inr ⟨g, 1, #[v], rfl, rfl, hb.low, hb.base, hb.blk, Nat.le_refl _, by simp [maxLen], rfl, rfl, hb.priv⟩
  refine s_set (D := D) (B := B) hF ht hx (by simp) hy hu hO hb.ty hI ?_
  intro w' hm hI' ho
  refine k w' hm hI' ?_
  rcases ho with ⟨_, h, _⟩ | ⟨g', cap, cur, e1, e2, h1, hB, h2, h3, h4, h5, h6, h7⟩
  · cases h
  · obtain rfl := Option.some.inj e2
    have hc : cap = 1 := by injection e1 with _ _ e4; exact e4.symm
    subst hc
    refine ⟨?_, h1, hB, h7, hb.ty⟩
    unfold Blk
    rw [h2]
    have : cur.toList = [u] := by
      have hl : cur.toList.length = 1 := by simpa using h5
      simp at h6
      rw [show cur.toList.take 1 = cur.toList from List.take_of_length_le (by omega)] at h6
      exact h6
    rw [← this]
end

theorem Fo.cells1 {D : FD} {B : Nat} {w : World} {v : Value} {o : Fq} (h : Fo D B w v o) : v.cells = #[v] := by
  cases o with
  | none => obtain rfl : v = .pointer none := h; rfl
  | some q => obtain ⟨_, k, rfl, _⟩ := h; rfl

/-! ### what the functions of matrices tell -/
def mayM (o : Fq) : Mtx → Bool
  | [] => false
  | r0 :: rs => decide ((r0 :: rs).length ≤ 20) && decide (1 ≤ r0.length ∧ r0.length ≤ 20) && (r0 :: rs).all fun r => decide (r.length = r0.length) && r.all (inF o)
def idM (n : Nat) : Mtx := (List.range n).map fun i => (List.range n).map fun j => if i = j then 1 else 0
def identM (n : Int) : Mtx := if 1 ≤ n ∧ n ≤ 20 then idM n.toNat else []
def rowM (a : Mtx) (i : Int) : List Int := a.getD i.toNat []
def pickB (o : Fq) (a : Mtx) (rows : List Int) : Bool := mayM o a && decide (1 ≤ rows.length ∧ rows.length ≤ 20) && rows.all fun i => decide (0 ≤ i ∧ i < (a.length : Int))
def pickM (o : Fq) (a : Mtx) (rows : List Int) : Option Mtx := if pickB o a rows = true then some (rows.map (rowM a)) else none
def wid (a : Mtx) : Nat := (a.getD 0 []).length
def joinB (o : Fq) (a b : Mtx) : Bool := mayM o a && mayM o b && decide (wid a = wid b) && decide (a.length + b.length ≤ 20)
def joinM (o : Fq) (a b : Mtx) : Option Mtx := if joinB o a b = true then some (a ++ b) else none
def dotN (o : Fq) (r c : List Int) : Nat := (List.zipWith (gmul o) r c).foldl (fun s z => s ^^^ z.toNat) 0
def colAt (b : Mtx) (j : Nat) : List Int := b.map fun r => r.getD j 0
def mulB (o : Fq) (a b : Mtx) : Bool := mayM o a && mayM o b && decide (wid a = b.length)
def mulRow (o : Fq) (b : Mtx) (r : List Int) : List Int := (List.range (wid b)).map fun j => (dotN o r (colAt b j) : Int)
def mulM (o : Fq) (a b : Mtx) : Option Mtx := if mulB o a b = true then some (a.map (mulRow o b)) else none
def applyM (o : Fq) (a : Mtx) (v : List Int) : Option (List Int) := (mulM o a (v.map fun x => [x])).map fun m => m.map fun r => r.getD 0 0

theorem mayM_pos {o : Fq} {a : Mtx} (h : mayM o a = true) : 1 ≤ a.length ∧ a.length ≤ 20 ∧ 1 ≤ wid a ∧ wid a ≤ 20 ∧ ∀ r ∈ a, r.length = wid a ∧ ∀ x ∈ r, inF o x = true := by
  cases a with
  | nil => cases h
  | cons r0 rs =>
    simp only [mayM, Bool.and_eq_true, decide_eq_true_eq, List.all_eq_true] at h
    obtain ⟨⟨h1, h2⟩, h3⟩ := h
    exact ⟨by simp, h1, h2.1, h2.2, fun r hr => ⟨(h3 r hr).1, (h3 r hr).2⟩⟩
theorem mayM_of {o : Fq} {a : Mtx} (h1 : 1 ≤ a.length) (h2 : a.length ≤ 20) (h3 : 1 ≤ wid a) (h4 : wid a ≤ 20) (h5 : ∀ r ∈ a, r.length = wid a ∧ ∀ x ∈ r, inF o x = true) : mayM o a = true := by
  cases a with
  | nil => simp at h1
  | cons r0 rs =>
    simp only [mayM, Bool.and_eq_true, decide_eq_true_eq, List.all_eq_true]
    exact ⟨⟨h2, h3, h4⟩, fun r hr => ⟨(h5 r hr).1, (h5 r hr).2⟩⟩
theorem mayM_iff {o : Fq} {a : Mtx} : mayM o a = true ↔ 1 ≤ a.length ∧ a.length ≤ 20 ∧ 1 ≤ wid a ∧ wid a ≤ 20 ∧ ∀ r ∈ a, r.length = wid a ∧ ∀ x ∈ r, inF o x = true :=
  ⟨mayM_pos, fun ⟨h1, h2, h3, h4, h5⟩ => mayM_of h1 h2 h3 h4 h5⟩
theorem wid_at {a : Mtx} {r : List Int} (h : a[0]? = some r) : wid a = r.length := by unfold wid; rw [List.getD_eq_getElem?_getD, h]; rfl
theorem mayM_no {o : Fq} {a : Mtx} (h : ¬ (1 ≤ a.length ∧ a.length ≤ 20 ∧ 1 ≤ wid a ∧ wid a ≤ 20 ∧ ∀ r ∈ a, r.length = wid a ∧ ∀ x ∈ r, inF o x = true)) : mayM o a = false := by
  cases hm : mayM o a with
  | false => rfl
  | true => exact absurd (mayM_pos hm) h
theorem fold_xor_lt {k : Nat} : ∀ (l : List Int) (s : Nat), s < 2 ^ k → (∀ z ∈ l, z.toNat < 2 ^ k) → l.foldl (fun s z => s ^^^ z.toNat) s < 2 ^ k
  | [], s, hs, _ => hs
  | z :: l, s, hs, h => fold_xor_lt l _ (Px.xor_lt hs (h z (by simp))) (fun y hy => h y (by simp [hy]))
theorem gmul_lt' (o : Fq) (hs : fsz o ≤ 65536) (a b : Int) (hp : ∀ q, o = some q → Prm q.1 q.2) : (gmul o a b).toNat < 65536 := by
  unfold gmul
  split
  · rename_i h
    cases o with
    | none => simp [fmul]
    | some q =>
      have := (hp q rfl).mulMod_lt a.toNat b.toNat
      have h2 : fsz (some q) = 2 ^ q.1 := rfl
      rw [h2] at hs
      show (mulMod a.toNat b.toNat q.2) < 65536
      omega
  · decide

/-! ### finding -/
def idxZ {α : Type} (p : α → Bool) (xs : List α) : Int := match xs.findIdx? p with | some i => (i : Int) | none => -1
theorem idxZ_at {α : Type} {p : α → Bool} {xs : List α} {i : Nat} {x : α} (h : ∀ y ∈ xs.take i, p y = false) (hi : xs[i]? = some x) (hx : p x = true) : idxZ p xs = (i : Int) := by
  have : xs.findIdx? p = some i := by
    rw [List.findIdx?_eq_some_iff_getElem]
    obtain ⟨hl, he⟩ := List.getElem?_eq_some_iff.1 hi
    refine ⟨hl, by rw [he]; exact hx, fun j hj => ?_⟩
    have hm : xs[j]'(by omega) ∈ xs.take i := by
      rw [List.mem_take_iff_getElem]
      exact ⟨j, by omega, rfl⟩
    simpa using h _ hm
  unfold idxZ; rw [this]
theorem idxZ_no {α : Type} {p : α → Bool} {xs : List α} (h : ∀ y ∈ xs, p y = false) : idxZ p xs = -1 := by
  have : xs.findIdx? p = none := by rw [List.findIdx?_eq_none_iff]; exact h
  unfold idxZ; rw [this]
theorem idxZ_any {α : Type} (p : α → Bool) (xs : List α) : decide (0 ≤ idxZ p xs) = xs.any p := by
  unfold idxZ
  cases h : xs.findIdx? p with
  | none =>
    rw [List.findIdx?_eq_none_iff] at h
    rw [List.any_eq_false.2 (fun x hx => by simpa using h x hx)]; rfl
  | some i =>
    rw [List.findIdx?_eq_some_iff_getElem] at h
    obtain ⟨hl, hp, _⟩ := h
    rw [List.any_eq_true.2 ⟨_, List.getElem_mem hl, hp⟩]
    simp
theorem take_snoc_no {α : Type} {p : α → Bool} {xs : List α} {i : Nat} {x : α} (h : ∀ y ∈ xs.take i, p y = false) (hi : xs[i]? = some x) (hx : p x = false) : ∀ y ∈ xs.take (i + 1), p y = false := by
  intro y hy
  rw [List.take_add_one, hi] at hy
  simp at hy
  rcases hy with hy | rfl
  · exact h y hy
  · exact hx
theorem mayM_eq {o : Fq} {a : Mtx} {r0 : List Int} (h0 : a[0]? = some r0) (h1 : a.length ≤ 20) (h2 : 1 ≤ r0.length ∧ r0.length ≤ 20) : (!a.any fun r => decide (r.length ≠ r0.length) || r.any fun x => !inF o x) = mayM o a := by
  rw [Bool.eq_iff_iff, mayM_iff]
  have hw := wid_at h0
  have hl := (List.getElem?_eq_some_iff.1 h0).1
  simp only [Bool.not_eq_true', List.any_eq_false, Bool.or_eq_true, decide_eq_true_eq, List.any_eq_true, not_or, Bool.not_eq_true, hw]
  constructor
  · intro h
    refine ⟨by omega, h1, h2.1, h2.2, fun r hr => ⟨?_, fun x hx => ?_⟩⟩
    · have := (h r hr).1; omega
    · cases hi : inF o x with
      | true => rfl
      | false => exact absurd ⟨x, hx, by simp [hi]⟩ (h r hr).2
  · rintro ⟨_, _, _, _, h⟩ r hr
    refine ⟨by have := (h r hr).1; omega, fun ⟨x, hx, hi⟩ => ?_⟩
    have := (h r hr).2 x hx
    rw [this] at hi; cases hi
theorem idM_len (n : Nat) : (idM n).length = n := by simp [idM]
def unitR (n i : Nat) : List Int := (List.range n).map fun j => if i = j then 1 else 0
theorem unitR_set (n i : Nat) (h : i < n) : (List.replicate n (0 : Int)).set i 1 = unitR n i := by
  apply List.ext_getElem
  · simp [unitR]
  · intro j h1 h2
    simp [unitR, List.getElem_set]
theorem unitR_length (n i : Nat) : (unitR n i).length = n := by simp [unitR]
theorem idM_eq (n : Nat) : idM n = (List.range n).map (unitR n) := rfl
theorem idM_snoc (n i : Nat) : (List.range (i + 1)).map (unitR n) = (List.range i).map (unitR n) ++ [unitR n i] := by rw [List.range_succ, List.map_append]; rfl
def dotP (o : Fq) (r c : List Int) (i : Nat) : Nat := dotN o (r.take i) (c.take i)
theorem dotP_step {o : Fq} {r c : List Int} {i : Nat} {x y : Int} (hx : r[i]? = some x) (hy : c[i]? = some y) : dotP o r c (i + 1) = dotP o r c i ^^^ (gmul o x y).toNat := by
  have h1 := (List.getElem?_eq_some_iff.1 hx).1
  have h2 := (List.getElem?_eq_some_iff.1 hy).1
  unfold dotP dotN
  rw [List.take_add_one, List.take_add_one, hx, hy, List.zipWith_append (by simp; omega), List.foldl_append]
  rfl
theorem dotP_all (o : Fq) {r c : List Int} (h : r.length = c.length) : dotP o r c r.length = dotN o r c := by
  unfold dotP; rw [List.take_length, h, List.take_length]
theorem gmul_nn {D : FD} {B : Nat} {w : World} {v : Value} {o : Fq} (h : Fo D B w v o) (a b : Int) : ∃ z : Nat, gmul o a b = (z : Int) ∧ z < 65536 := by
  have := gmul_bd h a b
  exact ⟨(gmul o a b).toNat, by omega, by omega⟩
theorem gmul_toNat_lt {D : FD} {B : Nat} {w : World} {v : Value} {o : Fq} (h : Fo D B w v o) (a b : Int) : (gmul o a b).toNat < 2 ^ 16 := by have := gmul_bd h a b; omega
theorem dotN_lt {D : FD} {B : Nat} {w : World} {v : Value} {o : Fq} (h : Fo D B w v o) (r c : List Int) : dotN o r c < 2 ^ 16 := by
  refine fold_xor_lt _ _ (by decide) (fun z hz => ?_)
  obtain ⟨i, hi⟩ := List.getElem?_of_mem hz
  rw [List.getElem?_zipWith] at hi
  cases h1 : r[i]? with
  | none => rw [h1] at hi; cases hi
  | some x =>
    cases h2 : c[i]? with
    | none => rw [h1, h2] at hi; cases hi
    | some y => rw [h1, h2] at hi; obtain rfl := Option.some.inj hi; exact gmul_toNat_lt h x y

theorem Row.nilx {D : FD} {B M len cap : Nat} {w : World} {xs : List Value} (h : Row D B M w (.slice none len cap) xs) : xs = [] := by
  rcases h with ⟨_, _, _, h⟩ | ⟨g, o, cap', h1, _⟩
  · exact h
  · cases h1
theorem ofz {l : List Int} (h : zints l = []) : l = [] := List.map_eq_nil_iff.1 h
theorem take_snoc {α : Type} {l : List α} {i : Nat} {x : α} (h : l[i]? = some x) : l.take (i + 1) = l.take i ++ [x] := by rw [List.take_add_one, h]; rfl
theorem pick_snoc {l : List Int} {mt : Mtx} {i : Nat} {x : Int} (h : l[i]? = some x) : (l.take (i + 1)).map (rowM mt) = (l.take i).map (rowM mt) ++ [rowM mt x] := by rw [take_snoc h, List.map_append]; rfl
theorem rowM_of {mt : Mtx} {i : Nat} {r : List Int} (h : mt[i]? = some r) : rowM mt (i : Int) = r := by unfold rowM; rw [List.getD_eq_getElem?_getD, Int.toNat_natCast, h]; rfl
theorem all_snoc {α : Type} {p : α → Bool} {l : List α} {i : Nat} {x : α} (h : (l.take i).all p = true) (hi : l[i]? = some x) (hx : p x = true) : (l.take (i + 1)).all p = true := by rw [take_snoc hi, List.all_append, h]; simp [hx]
theorem all_no {α : Type} {p : α → Bool} {l : List α} {i : Nat} {x : α} (hi : l[i]? = some x) (hx : p x = false) : l.all p = false := by rw [List.all_eq_false]; exact ⟨x, List.mem_of_getElem? hi, by simp [hx]⟩
theorem Mat.lenb {D : FD} {B M : Nat} {w : World} {sa : Option Addr} {cap : Nat} {a : Mtx} (h : Mat D B M w sa cap a) : True := trivial
theorem pickM_t {o : Fq} {mt : Mtx} {l : List Int} (h1 : mayM o mt = true) (h2 : 1 ≤ l.length ∧ l.length ≤ 20) (h3 : (l.all fun i => decide (0 ≤ i ∧ i < (mt.length : Int))) = true) : pickM o mt l = some (l.map (rowM mt)) := by
  unfold pickM pickB; rw [h1, h3, decide_eq_true h2]; rfl
theorem pickM_f {o : Fq} {mt : Mtx} {l : List Int} (h : mayM o mt = false ∨ ¬ (1 ≤ l.length ∧ l.length ≤ 20) ∨ (l.all fun i => decide (0 ≤ i ∧ i < (mt.length : Int))) = false) : pickM o mt l = none := by
  unfold pickM pickB
  rcases h with h | h | h
  · rw [h]; rfl
  · rw [decide_eq_false h]; simp
  · rw [h]; simp
theorem joinM_t {o : Fq} {a b : Mtx} (h1 : mayM o a = true) (h2 : mayM o b = true) (h3 : wid a = wid b) (h4 : a.length + b.length ≤ 20) : joinM o a b = some (a ++ b) := by
  unfold joinM joinB; rw [h1, h2, decide_eq_true h3, decide_eq_true h4]; rfl
theorem joinM_f {o : Fq} {a b : Mtx} (h : mayM o a = false ∨ mayM o b = false ∨ wid a ≠ wid b ∨ ¬ a.length + b.length ≤ 20) : joinM o a b = none := by
  unfold joinM joinB
  rcases h with h | h | h | h
  · rw [h]; rfl
  · rw [h]; simp
  · rw [decide_eq_false h]; simp
  · rw [decide_eq_false h]; simp

/-! ### columns -/
theorem KC.stz {D : FD} {B : Nat} {Z : Nat → Prop} {w w' : World} {a : Addr} {v : Value} (h : KC D B w a v) (hs : StZ D B Z w w') (hz : ¬ Z a.block) : KC D B w' a v := by
  have hk := hs.ext.keep a.block h.2.1 hz h.2.2
  exact ⟨(cell_of_heap hk).trans h.1, Nat.lt_of_lt_of_le h.2.1 hs.ext.size, h.2.2.imp id (notT_of hk)⟩
theorem Mk.xt {D : FD} {B n m : Nat} {ds : List Nat} {w w' : World} (h : Mk n ds w) (hs : Xt D B m w w') (hd : ∀ d ∈ ds, d < m) : Mk n ds w' :=
  ⟨h.1, fun k hk => ⟨(h.2 k hk).1, (hs.keep k (heap_lt (h.2 k hk).2) (.inl (hd k hk)) (.inr (notT_nc (h.2 k hk).2 rfl))).trans (h.2 k hk).2⟩⟩
theorem Fo.xt {D : FD} {B n : Nat} {w w' : World} {v : Value} {o : Fq} (h : Fo D B w v o) (hs : Xt D B n w w') : Fo D B w' v o := by
  cases o with
  | none => exact h
  | some q => obtain ⟨h1, k, h2, h3⟩ := h; exact ⟨h1, k, h2, hs.fld k _ _ h3⟩
theorem Fo.stz {D : FD} {B : Nat} {Z : Nat → Prop} {w w' : World} {v : Value} {o : Fq} (h : Fo D B w v o) (hs : StZ D B Z w w') : Fo D B w' v o := by
  cases o with
  | none => exact h
  | some q => obtain ⟨h1, k, h2, h3⟩ := h; exact ⟨h1, k, h2, hs.ext.fld k _ _ h3⟩
def encR (D : FD) (B : Nat) (x : List Int) (A : World) (v : Value) : Prop := ∃ b, Own D B 0 A D.E v b (zints x)
theorem encR.xt {D : FD} {B n : Nat} {x : List Int} {v : Value} {A C : World} (h : encR D B x A v) (hs : Xt D B n A C) : encR D B x C v := let ⟨b, h⟩ := h; ⟨b, h.xt D.ne hs⟩
def cfill (mt : Mtx) (j i : Nat) : List Int := (colAt mt j).take i ++ List.replicate (mt.length - i) 0
theorem colAt_length (mt : Mtx) (j : Nat) : (colAt mt j).length = mt.length := by simp [colAt]
theorem cfill_len {mt : Mtx} {j i : Nat} (h : i ≤ mt.length) : (cfill mt j i).length = mt.length := by simp [cfill, colAt_length]; omega
theorem cfill_zero (mt : Mtx) (j : Nat) : cfill mt j 0 = List.replicate mt.length 0 := by simp [cfill]
theorem cfill_all (mt : Mtx) (j : Nat) : cfill mt j mt.length = colAt mt j := by unfold cfill; rw [List.take_of_length_le (by rw [colAt_length]; omega)]; simp
theorem colAt_at {mt : Mtx} {j i : Nat} {r : List Int} {x : Int} (hr : mt[i]? = some r) (hx : r[j]? = some x) : (colAt mt j)[i]? = some x := by
  unfold colAt; rw [List.getElem?_map, hr]; simp [List.getD_eq_getElem?_getD, hx]
theorem cfill_step {mt : Mtx} {j i : Nat} {r : List Int} {x : Int} (hr : mt[i]? = some r) (hx : r[j]? = some x) : (cfill mt j i).set i x = cfill mt j (i + 1) := by
  have hl := (List.getElem?_eq_some_iff.1 hr).1
  have hc := colAt_at hr hx
  unfold cfill
  rw [List.set_append_right _ _ (by simp; omega), take_snoc hc, List.append_assoc]
  congr 1
  have e : i - ((colAt mt j).take i).length = 0 := by simp [colAt_length]; omega
  rw [e, show mt.length - i = (mt.length - (i + 1)) + 1 by omega, List.replicate_succ, List.set_cons_zero]
  rfl
theorem cols_at {mt : Mtx} {j : Nat} (h : j < wid mt) : ((List.range (wid mt)).map (colAt mt))[j]? = some (colAt mt j) := by simp [h]
theorem cols_get {mt : Mtx} {j : Nat} {x : List Int} (h : ((List.range (wid mt)).map (colAt mt))[j]? = some x) : j < wid mt ∧ x = colAt mt j := by
  have hl := (List.getElem?_eq_some_iff.1 h).1
  simp at hl
  rw [cols_at hl] at h
  exact ⟨hl, (Option.some.inj h).symm⟩
theorem mulRow_snoc {o : Fq} {b : Mtx} {r : List Int} {k : Nat} (h : k < wid b) : (mulRow o b r).take (k + 1) = (mulRow o b r).take k ++ [(dotN o r (colAt b k) : Int)] := by
  refine take_snoc ?_
  unfold mulRow
  simp [h]
theorem mulRow_length (o : Fq) (b : Mtx) (r : List Int) : (mulRow o b r).length = wid b := by simp [mulRow]
theorem mulM_t {o : Fq} {a b : Mtx} (h1 : mayM o a = true) (h2 : mayM o b = true) (h3 : wid a = b.length) : mulM o a b = some (a.map (mulRow o b)) := by
  unfold mulM mulB; rw [h1, h2, decide_eq_true h3]; rfl
theorem mulM_f {o : Fq} {a b : Mtx} (h : mayM o a = false ∨ mayM o b = false ∨ wid a ≠ b.length) : mulM o a b = none := by
  unfold mulM mulB
  rcases h with h | h | h
  · rw [h]; rfl
  · rw [h]; simp
  · rw [decide_eq_false h]; simp
theorem Mat.at1 {D : FD} {B M : Nat} {w : World} {sa : Option Addr} {cap : Nat} {a : Mtx} (h : Mat D B M w sa cap a) (h1 : 1 ≤ a.length) : ∃ g o, sa = some ⟨g, o, none⟩ := by
  obtain ⟨g, o, _, _, h2, _⟩ := h.row (List.getElem?_eq_getElem (show 0 < a.length by omega))
  exact ⟨g, o, h2⟩
theorem Mat.row2 {D : FD} {B M g o : Nat} {w : World} {cap : Nat} {a : Mtx} (h : Mat D B M w (some ⟨g, o, none⟩) cap a) {i : Nat} {r : List Int} (hi : a[i]? = some r) :
    ∃ pr cr, KC D B w ⟨g, o + i, none⟩ (.slice pr r.length cr) ∧ Row D B M w (.slice pr r.length cr) (zints r) ∧ g < M := by
  obtain ⟨g', o', pr, cr, h1, h2, h3, h4⟩ := h.row hi
  obtain ⟨rfl, rfl⟩ : g = g' ∧ o = o' := by injection h1 with h1; injection h1 with h1 h5; exact ⟨h1, h5⟩
  exact ⟨pr, cr, h2, h3, h4⟩
theorem take_snoc_all {α : Type} {p : α → Prop} {xs : List α} {i : Nat} {x : α} (h : ∀ y ∈ xs.take i, p y) (hi : xs[i]? = some x) (hx : p x) : ∀ y ∈ xs.take (i + 1), p y := by
  intro y hy
  rw [take_snoc hi] at hy
  rcases List.mem_append.1 hy with hy | hy
  · exact h y hy
  · obtain rfl : y = x := by simpa using hy
    exact hx
theorem take_snoc_eq {α : Type} {xs ys : List α} {i : Nat} {x : α} (h : xs.take i = ys.take i) (hx : xs[i]? = some x) (hy : ys[i]? = some x) : xs.take (i + 1) = ys.take (i + 1) := by rw [take_snoc hx, take_snoc hy, h]
theorem gmul_bdP {wb p : Nat} (hp : Prm wb p) (x y : Int) : 0 ≤ gmul (some (wb, p)) x y ∧ gmul (some (wb, p)) x y < 65536 := by
  have h := gmul_lt' (some (wb, p)) (by have h1 := hp.size; have h2 := hp.w; show 2 ^ wb ≤ 65536; rcases hp.w with rfl | rfl <;> decide) x y (fun q hq => by cases hq; exact hp)
  have h0 : 0 ≤ gmul (some (wb, p)) x y := by unfold gmul; split <;> omega
  omega
theorem gmul_nnP {wb p : Nat} (hp : Prm wb p) (x y : Int) : ∃ z : Nat, gmul (some (wb, p)) x y = (z : Int) ∧ z < 65536 := by
  have := gmul_bdP hp x y
  exact ⟨(gmul (some (wb, p)) x y).toNat, by omega, by omega⟩
theorem dotN_ltP {wb p : Nat} (hp : Prm wb p) (r c : List Int) : dotN (some (wb, p)) r c < 2 ^ 16 := by
  refine fold_xor_lt _ _ (by decide) (fun z hz => ?_)
  obtain ⟨i, hi⟩ := List.getElem?_of_mem hz
  rw [List.getElem?_zipWith] at hi
  cases h1 : r[i]? with
  | none => rw [h1] at hi; cases hi
  | some x =>
    cases h2 : c[i]? with
    | none => rw [h1, h2] at hi; cases hi
    | some y => rw [h1, h2] at hi; obtain rfl := Option.some.inj hi; have := gmul_bdP hp x y; omega
theorem mulRow_snoc' {o : Fq} {b : Mtx} {r : List Int} {k : Nat} (h : k < wid b) (hr : r.length = (colAt b k).length) : (mulRow o b r).take (k + 1) = (mulRow o b r).take k ++ [(dotP o r (colAt b k) r.length : Int)] := by rw [mulRow_snoc h, dotP_all o hr]
theorem unitR_snoc (n i j : Nat) (h : j < n) : (unitR n i).take (j + 1) = (unitR n i).take j ++ [if i = j then 1 else 0] := by
  refine take_snoc ?_
  unfold unitR
  simp [h]
theorem ident_done {n : Int} {i : Nat} (h : i = n.toNat ∧ n ≤ 20 ∨ i = 0 ∧ 20 < n) : (List.range i).map (unitR n.toNat) = identM n := by
  unfold identM
  split
  · rw [show i = n.toNat by omega, idM_eq]
  · rw [show i = 0 by omega]; rfl
def colM (l : List Int) : Mtx := l.map fun x => [x]
theorem colM_length (l : List Int) : (colM l).length = l.length := by simp [colM]
theorem colM_one {l : List Int} : ∀ r ∈ colM l, r.length = 1 := by intro r hr; obtain ⟨x, _, rfl⟩ := List.mem_map.1 hr; rfl
theorem colM_snoc {l : List Int} {i : Nat} {x : Int} (h : l[i]? = some x) : colM (l.take (i + 1)) = colM (l.take i) ++ [[x]] := by unfold colM; rw [take_snoc h, List.map_append]; rfl
theorem mulM_one {o : Fq} {a : Mtx} {l : List Int} {m : Mtx} (h : mulM o a (colM l) = some m) : m.length = a.length ∧ ∀ r ∈ m, r.length = 1 := by
  unfold mulM at h
  split at h
  · rename_i hb
    obtain rfl := Option.some.inj h
    refine ⟨by simp, fun r hr => ?_⟩
    obtain ⟨s, _, rfl⟩ := List.mem_map.1 hr
    rw [mulRow_length]
    simp only [mulB, Bool.and_eq_true] at hb
    have h1 := mayM_pos hb.1.2
    have h2 := h1.2.2.2.2
    cases l with
    | nil => simp [colM] at h1
    | cons x l => rfl
  · cases h
theorem applyM_eq (o : Fq) (a : Mtx) (l : List Int) : applyM o a l = (mulM o a (colM l)).map fun m => m.map fun r => r.getD 0 0 := rfl
theorem applyM_some {o : Fq} {a : Mtx} {l : List Int} : (applyM o a l).isSome = (mulM o a (colM l)).isSome := by rw [applyM_eq, Option.isSome_map]
theorem applyM_getD {o : Fq} {a : Mtx} {l : List Int} : (applyM o a l).getD [] = ((mulM o a (colM l)).getD []).map fun r => r.getD 0 0 := by
  rw [applyM_eq]; cases mulM o a (colM l) <;> rfl
theorem mulM_one' {o : Fq} {a : Mtx} {l : List Int} : ((mulM o a (colM l)).getD []).length ≤ a.length ∧ ∀ r ∈ (mulM o a (colM l)).getD [], r.length = 1 := by
  cases h : mulM o a (colM l) with
  | none => simp
  | some m => have := mulM_one h; exact ⟨by simp [this.1], this.2⟩
theorem getD_at {l : List Int} {i : Nat} {x : Int} (h : l[i]? = some x) : l.getD i 0 = x := by rw [List.getD_eq_getElem?_getD, h]; rfl
/-- Few rows, of few numbers. -/
def fewM (a : Mtx) : Bool := decide (a.length ≤ 10) && a.all fun r => decide (r.length ≤ 10)
theorem fewM_iff {a : Mtx} : fewM a = true ↔ a.length ≤ 10 ∧ ∀ r ∈ a, r.length ≤ 10 := by simp [fewM]
theorem map_snoc {α β : Type} {f : α → β} {l : List α} {i : Nat} {x : α} (h : l[i]? = some x) : (l.take (i + 1)).map f = (l.take i).map f ++ [f x] := by rw [take_snoc h, List.map_append]; rfl

theorem Rd.W_dS {P : Program} {r : Option Nat} {N : Kont} {X : List (Nat × Kont)} {R : Kont} {a : Act} {w : World} {ops : Array Oper} (S : World → Prop) {id m : Nat} (hsz : ops.size = m) (hm : P.follows .mixedOrders = true) (hd : noDefer ops.toList = true)
    (h : ∀ K : Kont, (∀ a w, N a w → K a w) → WS P S ops K m (Array.replicate m false) a { w with drawn := w.drawn + 1 }) : WI P r (.region id ops true) N X R a w := by
  subst hsz
  refine wpIn_mono (wpIn_region_draw fun t => ?_) Rd.qof_reg
  simp only [Region.schedule, hm, Bool.true_or, if_true]
  exact opsIn_of qof_no hd _ _ _ (wpAny_sound ops.size t _ a _ (wpAny_of_held _ _ _ _ (h N (fun _ _ h => h))))
end Go.Gam

/- The walks of package matrix: whether rows are a matrix; rows copied; the identity. -/
set_option linter.unusedVariables false
set_option linter.unusedSimpArgs false
namespace Go.Proofs.Ytkoiolamnnmokaa
open Go Go.Gam


namespace FxFMatA
theorem en39 : Ent Try.prog 39 := ent Try.func39 (by kernel_rfl) (by kernel_rfl)
theorem en71 : Ent Try.prog 71 := ent Try.func71 (by kernel_rfl) (by kernel_rfl)
theorem en73 : Ent Try.prog 73 := ent Try.func73 (by kernel_rfl) (by kernel_rfl)
theorem en75 : Ent Try.prog 75 := ent Try.func75 (by kernel_rfl) (by kernel_rfl)
theorem en77 : Ent Try.prog 77 := ent Try.func77 (by kernel_rfl) (by kernel_rfl)
theorem en84 : Ent Try.prog 84 := ent Try.func84 (by kernel_rfl) (by kernel_rfl)
theorem sc23 : Scalar Try.prog 23 := ⟨_, Try.underlying23, by simp, by simp⟩
theorem sc27 : Scalar Try.prog 27 := ⟨_, Try.underlying27, by simp, by simp⟩
theorem sc3 : Scalar Try.prog 3 := ⟨_, Try.underlying3, by simp, by simp⟩
theorem sc44 : Scalar Try.prog 44 := ⟨_, Try.underlying44, by simp, by simp⟩
theorem sl23 : Sl Try.prog 23 3 (.int .i64 0) 8 := sl_of Try.underlying23 rfl (by kernel_rfl)
theorem sl26 : Sl Try.prog 26 23 (.slice none 0 0) 24 := sl_of Try.underlying26 rfl (by kernel_rfl)
theorem sl27 : Sl Try.prog 27 23 (.slice none 0 0) 24 := sl_of Try.underlying27 rfl (by kernel_rfl)
end FxFMatA
open FxFMatA

set_option maxRecDepth 100000 in
set_option maxHeartbeats 1000000 in
theorem within_ok (n : Int) (w : World) : Ret Try.prog 71 [.int .i64 n] w fun v w' => v = .bool (decide (1 ≤ n ∧ n ≤ 20)) ∧ w' = w := by
 refine enter 9 [(0, .int .i64 n)] 2 Try.func71 rfl rfl rfl rfl rfl ?_; intro a hF
 refine W_sr rfl (fun K hK => ?_)
 refine sv hF (v_assign rfl) rfl ?_; clear hF a; intro a hF
 refine WL_nil (hK _ _ ?_)
 clear hK K
 refine W_sr rfl (fun K hK => ?_)
 refine sv hF (v_move rfl) rfl ?_; clear hF a; intro a hF
 refine sb hF (v_geq rfl rfl) rfl ?_ ?_
 ·
  clear hF a; intro hc1 a hF
  try simp only [dcl] at hc1
  refine sv hF (v_move rfl) rfl ?_; clear hF a; intro a hF
  refine svg hF rfl ?_
  refine sv hF (v_move rfl) rfl ?_; clear hF a; intro a hF
  refine svg hF rfl ?_
  refine sv hF (v_leq rfl rfl) rfl ?_; clear hF a; intro a hF
  refine sv2 hF (v_pickT rfl rfl) (v_assign rfl) rfl rfl ?_; clear hF a; intro a hF
  refine WL_nil (hK _ _ ?_)
  clear hK K
  replace hF := hF.sub _ (c_ 2 rfl (n_))
  refine W_ret ?_
  refine ⟨_, _, hF, rfl, ?_⟩
  exact ⟨by congr 1; first | (rw [decide_eq_decide]; omega) | (symm; rw [decide_eq_false_iff_not]; omega) | (symm; rw [decide_eq_true_iff]; omega), rfl⟩
 ·
  clear hF a; intro hc1 a hF
  try simp only [dcl] at hc1
  refine sv hF (v_move rfl) rfl ?_; clear hF a; intro a hF
  refine svn hF rfl rfl rfl ?_; clear hF a; intro a hF
  refine svn hF rfl rfl rfl ?_; clear hF a; intro a hF
  refine sv2 hF (v_pickF rfl rfl) (v_assign rfl) rfl rfl ?_; clear hF a; intro a hF
  refine WL_nil (hK _ _ ?_)
  clear hK K
  replace hF := hF.sub _ (c_ 2 rfl (n_))
  refine W_ret ?_
  refine ⟨_, _, hF, rfl, ?_⟩
  exact ⟨by congr 1; first | (rw [decide_eq_decide]; omega) | (symm; rw [decide_eq_false_iff_not]; omega) | (symm; rw [decide_eq_true_iff]; omega), rfl⟩

set_option maxRecDepth 100000 in
set_option maxHeartbeats 1000000 in
theorem May11_ok (B : Nat) (o : Fq) (fv : Value) (pf : Nat) (x : Int) (w : World) (hI : Inv FDx B w) (hf : Fo FDx B w fv o) (hk : KC FDx B w ⟨pf, 0, none⟩ fv) : Ret Try.prog 78 [.int .i64 x, .pointer (some ⟨pf, 0, none⟩)] w fun v w' => v = .bool (!inF o x) ∧ St FDx B w w' := by
 refine enter 12 [(0, .int .i64 x), (1, .pointer (some ⟨pf, 0, none⟩))] 3 Try.func78 rfl rfl rfl rfl rfl ?_; intro a hF
 have hS := St.refl hI
 refine W_sr rfl (fun K hK => ?_)
 refine sv hF (v_assign rfl) rfl ?_; clear hF a; intro a hF
 refine WL_nil (hK _ _ ?_)
 clear hK K
 refine W_sr rfl (fun K hK => ?_)
 refine sv hF (v_move rfl) rfl ?_; clear hF a; intro a hF
 refine sb hF (v_lss rfl rfl) rfl ?_ ?_
 ·
  clear hF a; intro hc1 a hF
  try simp only [dcl] at hc1
  refine sv hF (v_move rfl) rfl ?_; clear hF a; intro a hF
  refine svn hF rfl rfl rfl ?_; clear hF a; intro a hF
  refine svn hF rfl rfl rfl ?_; clear hF a; intro a hF
  refine svn hF rfl rfl rfl ?_; clear hF a; intro a hF
  refine svn hF rfl rfl rfl ?_; clear hF a; intro a hF
  refine sv2 hF (v_pickT rfl rfl) (v_assign rfl) rfl rfl ?_; clear hF a; intro a hF
  refine WL_nil (hK _ _ ?_)
  clear hK K
  replace hF := hF.sub _ (c_ 3 rfl (n_))
  refine W_ret ?_
  refine ⟨_, _, hF, rfl, ?_⟩
  exact ⟨by congr 1; unfold inF; first | (symm; rw [Bool.not_eq_true', decide_eq_false_iff_not]; omega) | (rw [← decide_not, decide_eq_decide]; omega), hS⟩
 ·
  clear hF a; intro hc1 a hF
  try simp only [dcl] at hc1
  refine sv hF (v_move rfl) rfl ?_; clear hF a; intro a hF
  refine svg hF rfl ?_
  refine sv hF (v_move rfl) rfl ?_; clear hF a; intro a hF
  refine svg hF rfl ?_
  refine sv hF (v_load sc44 rfl (by first | assumption | (rw [toNat_c]; assumption) | exact KC.c (by assumption) | (rw [toNat_c]; exact KC.c (by assumption)) | exact Box.at (by assumption))) rfl ?_; clear hF a; intro a hF
  refine svg hF rfl ?_
  refine sc hF rfl rfl rfl en39 rfl (Size_ok B o fv _ hf) ?_; clear hF a; intro v w' a hv hF
  obtain ⟨rfl, hw⟩ := hv
  obtain rfl := hw.symm
  have hS' := St.refl hS.inv
  replace hS := hS.trans hS'
  clear hS'
  refine svg hF rfl ?_
  refine sv hF (v_geq rfl rfl) rfl ?_; clear hF a; intro a hF
  refine sv2 hF (v_pickF rfl rfl) (v_assign rfl) rfl rfl ?_; clear hF a; intro a hF
  refine WL_nil (hK _ _ ?_)
  clear hK K
  replace hF := hF.sub _ (c_ 3 rfl (n_))
  refine W_ret ?_
  refine ⟨_, _, hF, rfl, ?_⟩
  exact ⟨by congr 1; unfold inF; first | (symm; rw [Bool.not_eq_true', decide_eq_false_iff_not]; omega) | (rw [← decide_not, decide_eq_decide]; omega), hS⟩

set_option maxRecDepth 100000 in
set_option maxHeartbeats 1000000 in
theorem IdxI_ok (B M : Nat) (g : FuncId) (lb : List Value) (p : Int → Bool) (pxs : Option Addr) (cxs : Nat) (xs : List Int) (w : World) (hI : Inv FDx B w) (hx : Row FDx B M w (.slice pxs xs.length cxs) (zints xs)) (hl : xs.length ≤ maxLen) (eg : Ent Try.prog g) (hc : ∀ x ∈ xs, ∀ w1, St FDx B w w1 → Ret Try.prog g (.int .i64 x :: lb) w1 fun v w' => v = .bool (p x) ∧ St FDx B w1 w') : Ret Try.prog 84 [.slice pxs xs.length cxs, .func (.func g) ([] : List Value).toArray (lb : List Value).toArray] w fun v w' => v = .int .i64 (idxZ p xs) ∧ St FDx B w w' := by
 refine enter 19 [(0, .slice pxs xs.length cxs), (1, .func (.func g) ([] : List Value).toArray (lb : List Value).toArray)] 4 Try.func84 rfl rfl rfl rfl rfl ?_; intro a hF
 have hS := St.refl hI
 have hl2 := hl
 simp only [maxLen] at hl2
 refine W_sr rfl (fun K hK => ?_)
 refine sv hF (v_assign rfl) rfl ?_; clear hF a; intro a hF
 refine WL_nil (hK _ _ ?_)
 clear hK K
 refine W_seq ?_
 refine W_sr rfl (fun K hK => ?_)
 refine sv hF (v_move rfl) rfl ?_; clear hF a; intro a hF
 refine sv hF (v_lenS rfl sl23 rfl) rfl ?_; clear hF a; intro a hF
 refine sv hF (v_move rfl) rfl ?_; clear hF a; intro a hF
 refine WL_nil (hK _ _ ?_)
 clear hK K
 replace hF := hF.sub _ (c_ 8 rfl (c_ 7 rfl (c_ 4 rfl (c_ 0 rfl (c_ 1 rfl (n_))))))
 refine W_block ?_
 refine W_loop (fun m a w1 => ∃ (i : Nat), Fr 19 [(0, .slice pxs xs.length cxs), (1, .func (.func g) ([] : List Value).toArray (lb : List Value).toArray), (7, .int .i64 (xs.length : Int)), (8, .int .i64 (i : Int))] a ∧ (St FDx B w w1) ∧ (Row FDx B M w1 (.slice pxs xs.length cxs) (zints xs)) ∧ (i ≤ xs.length) ∧ (∀ y ∈ xs.take i, p y = false) ∧ (m + i = xs.length)) (xs.length) ?_ ?_
 ·
  skip
  exact ⟨0, hF.sub _ (c_ 0 rfl (c_ 1 rfl (c_ 7 rfl (c_ 8 rfl (n_))))), hS, hx, by omega, by simp, by omega⟩
 ·
  skip
  clear hF
  clear hS hx
  rintro m a w1 ⟨i, hF, hS, hx, hi, hn, hm⟩
  refine W_sr rfl (fun K hK => ?_)
  refine sv hF (v_lss rfl rfl) rfl ?_; clear hF a; intro a hF
  refine WL_nil (hK _ _ ?_)
  clear hK K
  refine W_seq ?_
  refine W_if hF rfl (fun hc1 => ?_) (fun hc1 => ?_)
  ·
   skip
   try simp only [dcl] at hc1
   have hlt : i < xs.length := by omega
   obtain ⟨z, hz⟩ : ∃ z, xs[i]? = some z := ⟨_, List.getElem?_eq_getElem hlt⟩
   obtain ⟨gx, ox, hgx, hkc, -⟩ := hx.kat (zints_at hz)
   subst hgx
   refine W_skip ?_
   refine W_seq ?_
   refine W_block ?_
   refine W_sr rfl (fun K hK => ?_)
   refine sv2 hF (v_move rfl) (v_assign rfl) rfl rfl ?_; clear hF a; intro a hF
   refine WL_nil (hK _ _ ?_)
   clear hK K
   replace hF := hF.sub _ (c_ 5 rfl (c_ 0 rfl (c_ 1 rfl (c_ 7 rfl (c_ 8 rfl (n_))))))
   refine W_sr rfl (fun K hK => ?_)
   refine sv3 hF (v_move rfl) (v_move rfl) (v_move rfl) rfl rfl rfl ?_; clear hF a; intro a hF
   refine sv hF (v_ixS sl23 rfl rfl (by omega) (by omega)) rfl ?_; clear hF a; intro a hF
   refine sv hF (v_load sc3 rfl (by first | assumption | (rw [toNat_c]; assumption) | exact KC.c (by assumption) | (rw [toNat_c]; exact KC.c (by assumption)) | exact Box.at (by assumption))) rfl ?_; clear hF a; intro a hF
   refine sc hF rfl rfl rfl eg rfl (hc z (List.mem_of_getElem? hz) _ hS) ?_; clear hF a; intro v w' a hv hF
   obtain ⟨rfl, hS'⟩ := hv
   replace hx := hx.st hS'
   replace hS := hS.trans hS'
   clear hS'
   refine WL_nil (hK _ _ ?_)
   clear hK K
   replace hF := hF.sub _ (c_ 16 rfl (c_ 5 rfl (c_ 0 rfl (c_ 1 rfl (c_ 7 rfl (c_ 8 rfl (n_)))))))
   refine W_if hF rfl (fun hc2 => ?_) (fun hc2 => ?_)
   ·
    skip
    try simp only [dcl] at hc2
    refine W_sr rfl (fun K hK => ?_)
    refine sv2 hF (v_move rfl) (v_assign rfl) rfl rfl ?_; clear hF a; intro a hF
    refine WL_nil (hK _ _ ?_)
    clear hK K
    replace hF := hF.sub _ (c_ 4 rfl (c_ 0 rfl (c_ 1 rfl (c_ 7 rfl (c_ 8 rfl (n_))))))
    refine W_ret ?_
    refine ⟨_, _, hF, rfl, ?_⟩
    exact ⟨by rw [idxZ_at hn hz hc2], hS⟩
   ·
    skip
    try simp only [dcl] at hc2
    refine W_skip ?_
    refine W_reg rfl (fun K hK => ?_)
    refine sv hF (v_addI rfl rfl (by omega)) rfl ?_; clear hF a; intro a hF
    refine sv hF (v_move rfl) rfl ?_; clear hF a; intro a hF
    refine WL_nil (hK _ _ ?_)
    clear hK K
    replace hF := hF.sub _ (c_ 8 rfl (c_ 18 rfl (c_ 0 rfl (c_ 1 rfl (c_ 7 rfl (n_))))))
    exact ⟨m - 1, by omega, i + 1, hF.sub _ (c_ 0 rfl (c_ 1 rfl (c_ 7 rfl (c_ 8 rfl (n_))))), hS, hx, by omega, take_snoc_no hn hz hc2, by omega⟩
  ·
   skip
   try simp only [dcl] at hc1
   refine W_exit rfl ?_
   refine W_sr rfl (fun K hK => ?_)
   refine sv hF (v_assign rfl) rfl ?_; clear hF a; intro a hF
   refine WL_nil (hK _ _ ?_)
   clear hK K
   replace hF := hF.sub _ (c_ 4 rfl (c_ 0 rfl (c_ 1 rfl (c_ 7 rfl (c_ 8 rfl (n_))))))
   refine W_ret ?_
   refine ⟨_, _, hF, rfl, ?_⟩
   exact ⟨by rw [idxZ_no (p := p) (xs := xs) (by rw [List.take_of_length_le (by omega)] at hn; exact hn)], hS⟩

set_option maxRecDepth 100000 in
set_option maxHeartbeats 1000000 in
theorem AnyI_ok (B M : Nat) (g : FuncId) (lb : List Value) (p : Int → Bool) (pxs : Option Addr) (cxs : Nat) (xs : List Int) (w : World) (hI : Inv FDx B w) (hx : Row FDx B M w (.slice pxs xs.length cxs) (zints xs)) (hl : xs.length ≤ maxLen) (eg : Ent Try.prog g) (hc : ∀ x ∈ xs, ∀ w1, St FDx B w w1 → Ret Try.prog g (.int .i64 x :: lb) w1 fun v w' => v = .bool (p x) ∧ St FDx B w1 w') : Ret Try.prog 77 [.slice pxs xs.length cxs, .func (.func g) ([] : List Value).toArray (lb : List Value).toArray] w fun v w' => v = .bool (xs.any p) ∧ St FDx B w w' := by
 refine enter 9 [(0, .slice pxs xs.length cxs), (1, .func (.func g) ([] : List Value).toArray (lb : List Value).toArray)] 4 Try.func77 rfl rfl rfl rfl rfl ?_; intro a hF
 have hS := St.refl hI
 refine W_sr rfl (fun K hK => ?_)
 refine sv hF (v_assign rfl) rfl ?_; clear hF a; intro a hF
 refine WL_nil (hK _ _ ?_)
 clear hK K
 refine W_sr rfl (fun K hK => ?_)
 refine sv2 hF (v_move rfl) (v_move rfl) rfl rfl ?_; clear hF a; intro a hF
 refine sc hF rfl rfl rfl en84 rfl (IdxI_ok B M g lb p pxs cxs xs _ hS.inv hx hl eg hc) ?_; clear hF a; intro v w' a hv hF
 obtain ⟨rfl, hS'⟩ := hv
 replace hS := hS.trans hS'
 clear hS'
 refine sv hF (v_geq rfl rfl) rfl ?_; clear hF a; intro a hF
 refine sv hF (v_assign rfl) rfl ?_; clear hF a; intro a hF
 refine WL_nil (hK _ _ ?_)
 clear hK K
 replace hF := hF.sub _ (c_ 4 rfl (n_))
 refine W_ret ?_
 refine ⟨_, _, hF, rfl, ?_⟩
 exact ⟨by rw [← idxZ_any], hS⟩

set_option maxRecDepth 100000 in
set_option maxHeartbeats 1000000 in
theorem IdxR_ok (B M : Nat) (g : FuncId) (lb : List Value) (p : List Int → Bool) (pmt : Option Addr) (cmt : Nat) (mt : Mtx) (w : World) (hI : Inv FDx B w) (hA : Mat FDx B M w pmt cmt mt) (hl : mt.length ≤ maxLen) (eg : Ent Try.prog g) (hc : ∀ r ∈ mt, ∀ pr cr w1, St FDx B w w1 → Row FDx B M w1 (.slice pr r.length cr) (zints r) → Ret Try.prog g (.slice pr r.length cr :: lb) w1 fun v w' => v = .bool (p r) ∧ St FDx B w1 w') : Ret Try.prog 73 [.slice pmt mt.length cmt, .func (.func g) ([] : List Value).toArray (lb : List Value).toArray] w fun v w' => v = .int .i64 (idxZ p mt) ∧ St FDx B w w' := by
 refine enter 19 [(0, .slice pmt mt.length cmt), (1, .func (.func g) ([] : List Value).toArray (lb : List Value).toArray)] 4 Try.func73 rfl rfl rfl rfl rfl ?_; intro a hF
 have hS := St.refl hI
 have hl2 := hl
 simp only [maxLen] at hl2
 refine W_sr rfl (fun K hK => ?_)
 refine sv hF (v_assign rfl) rfl ?_; clear hF a; intro a hF
 refine WL_nil (hK _ _ ?_)
 clear hK K
 refine W_seq ?_
 refine W_sr rfl (fun K hK => ?_)
 refine sv hF (v_move rfl) rfl ?_; clear hF a; intro a hF
 refine sv hF (v_lenS rfl sl27 rfl) rfl ?_; clear hF a; intro a hF
 refine sv hF (v_move rfl) rfl ?_; clear hF a; intro a hF
 refine WL_nil (hK _ _ ?_)
 clear hK K
 replace hF := hF.sub _ (c_ 8 rfl (c_ 7 rfl (c_ 4 rfl (c_ 0 rfl (c_ 1 rfl (n_))))))
 refine W_block ?_
 refine W_loop (fun m a w1 => ∃ (i : Nat), Fr 19 [(0, .slice pmt mt.length cmt), (1, .func (.func g) ([] : List Value).toArray (lb : List Value).toArray), (7, .int .i64 (mt.length : Int)), (8, .int .i64 (i : Int))] a ∧ (St FDx B w w1) ∧ (Mat FDx B M w1 pmt cmt mt) ∧ (i ≤ mt.length) ∧ (∀ y ∈ mt.take i, p y = false) ∧ (m + i = mt.length)) (mt.length) ?_ ?_
 ·
  skip
  exact ⟨0, hF.sub _ (c_ 0 rfl (c_ 1 rfl (c_ 7 rfl (c_ 8 rfl (n_))))), hS, hA, by omega, by simp, by omega⟩
 ·
  skip
  clear hF
  clear hS hA
  rintro m a w1 ⟨i, hF, hS, hA, hi, hn, hm⟩
  refine W_sr rfl (fun K hK => ?_)
  refine sv hF (v_lss rfl rfl) rfl ?_; clear hF a; intro a hF
  refine WL_nil (hK _ _ ?_)
  clear hK K
  refine W_seq ?_
  refine W_if hF rfl (fun hc1 => ?_) (fun hc1 => ?_)
  ·
   skip
   try simp only [dcl] at hc1
   have hlt : i < mt.length := by omega
   obtain ⟨r, hr⟩ : ∃ z, mt[i]? = some z := ⟨_, List.getElem?_eq_getElem hlt⟩
   obtain ⟨gx, ox, pr, cr, hgx, hkc, hrow, -⟩ := hA.row hr
   subst hgx
   refine W_skip ?_
   refine W_seq ?_
   refine W_block ?_
   refine W_sr rfl (fun K hK => ?_)
   refine sv2 hF (v_move rfl) (v_assign rfl) rfl rfl ?_; clear hF a; intro a hF
   refine WL_nil (hK _ _ ?_)
   clear hK K
   replace hF := hF.sub _ (c_ 5 rfl (c_ 0 rfl (c_ 1 rfl (c_ 7 rfl (c_ 8 rfl (n_))))))
   refine W_sr rfl (fun K hK => ?_)
   refine sv3 hF (v_move rfl) (v_move rfl) (v_move rfl) rfl rfl rfl ?_; clear hF a; intro a hF
   refine sv hF (v_ixS sl27 rfl rfl (by omega) (by omega)) rfl ?_; clear hF a; intro a hF
   refine sv hF (v_load sc23 rfl (by first | assumption | (rw [toNat_c]; assumption) | exact KC.c (by assumption) | (rw [toNat_c]; exact KC.c (by assumption)) | exact Box.at (by assumption))) rfl ?_; clear hF a; intro a hF
   refine sc hF rfl rfl rfl eg rfl (hc r (List.mem_of_getElem? hr) pr cr _ hS hrow) ?_; clear hF a; intro v w' a hv hF
   obtain ⟨rfl, hS'⟩ := hv
   replace hA := hA.st hS'
   replace hS := hS.trans hS'
   clear hS'
   refine WL_nil (hK _ _ ?_)
   clear hK K
   replace hF := hF.sub _ (c_ 16 rfl (c_ 5 rfl (c_ 0 rfl (c_ 1 rfl (c_ 7 rfl (c_ 8 rfl (n_)))))))
   refine W_if hF rfl (fun hc2 => ?_) (fun hc2 => ?_)
   ·
    skip
    try simp only [dcl] at hc2
    refine W_sr rfl (fun K hK => ?_)
    refine sv2 hF (v_move rfl) (v_assign rfl) rfl rfl ?_; clear hF a; intro a hF
    refine WL_nil (hK _ _ ?_)
    clear hK K
    replace hF := hF.sub _ (c_ 4 rfl (c_ 0 rfl (c_ 1 rfl (c_ 7 rfl (c_ 8 rfl (n_))))))
    refine W_ret ?_
    refine ⟨_, _, hF, rfl, ?_⟩
    exact ⟨by rw [idxZ_at hn hr hc2], hS⟩
   ·
    skip
    try simp only [dcl] at hc2
    refine W_skip ?_
    refine W_reg rfl (fun K hK => ?_)
    refine sv hF (v_addI rfl rfl (by omega)) rfl ?_; clear hF a; intro a hF
    refine sv hF (v_move rfl) rfl ?_; clear hF a; intro a hF
    refine WL_nil (hK _ _ ?_)
    clear hK K
    replace hF := hF.sub _ (c_ 8 rfl (c_ 18 rfl (c_ 0 rfl (c_ 1 rfl (c_ 7 rfl (n_))))))
    exact ⟨m - 1, by omega, i + 1, hF.sub _ (c_ 0 rfl (c_ 1 rfl (c_ 7 rfl (c_ 8 rfl (n_))))), hS, hA, by omega, take_snoc_no hn hr hc2, by omega⟩
  ·
   skip
   try simp only [dcl] at hc1
   refine W_exit rfl ?_
   refine W_sr rfl (fun K hK => ?_)
   refine sv hF (v_assign rfl) rfl ?_; clear hF a; intro a hF
   refine WL_nil (hK _ _ ?_)
   clear hK K
   replace hF := hF.sub _ (c_ 4 rfl (c_ 0 rfl (c_ 1 rfl (c_ 7 rfl (c_ 8 rfl (n_))))))
   refine W_ret ?_
   refine ⟨_, _, hF, rfl, ?_⟩
   exact ⟨by rw [idxZ_no (p := p) (xs := mt) (by rw [List.take_of_length_le (by omega)] at hn; exact hn)], hS⟩

set_option maxRecDepth 100000 in
set_option maxHeartbeats 1000000 in
theorem AnyR_ok (B M : Nat) (g : FuncId) (lb : List Value) (p : List Int → Bool) (pmt : Option Addr) (cmt : Nat) (mt : Mtx) (w : World) (hI : Inv FDx B w) (hA : Mat FDx B M w pmt cmt mt) (hl : mt.length ≤ maxLen) (eg : Ent Try.prog g) (hc : ∀ r ∈ mt, ∀ pr cr w1, St FDx B w w1 → Row FDx B M w1 (.slice pr r.length cr) (zints r) → Ret Try.prog g (.slice pr r.length cr :: lb) w1 fun v w' => v = .bool (p r) ∧ St FDx B w1 w') : Ret Try.prog 75 [.slice pmt mt.length cmt, .func (.func g) ([] : List Value).toArray (lb : List Value).toArray] w fun v w' => v = .bool (mt.any p) ∧ St FDx B w w' := by
 refine enter 9 [(0, .slice pmt mt.length cmt), (1, .func (.func g) ([] : List Value).toArray (lb : List Value).toArray)] 4 Try.func75 rfl rfl rfl rfl rfl ?_; intro a hF
 have hS := St.refl hI
 refine W_sr rfl (fun K hK => ?_)
 refine sv hF (v_assign rfl) rfl ?_; clear hF a; intro a hF
 refine WL_nil (hK _ _ ?_)
 clear hK K
 refine W_sr rfl (fun K hK => ?_)
 refine sv2 hF (v_move rfl) (v_move rfl) rfl rfl ?_; clear hF a; intro a hF
 refine sc hF rfl rfl rfl en73 rfl (IdxR_ok B M g lb p pmt cmt mt _ hS.inv hA hl eg hc) ?_; clear hF a; intro v w' a hv hF
 obtain ⟨rfl, hS'⟩ := hv
 replace hS := hS.trans hS'
 clear hS'
 refine sv hF (v_geq rfl rfl) rfl ?_; clear hF a; intro a hF
 refine sv hF (v_assign rfl) rfl ?_; clear hF a; intro a hF
 refine WL_nil (hK _ _ ?_)
 clear hK K
 replace hF := hF.sub _ (c_ 4 rfl (n_))
 refine W_ret ?_
 refine ⟨_, _, hF, rfl, ?_⟩
 exact ⟨by rw [← idxZ_any], hS⟩

set_option maxRecDepth 100000 in
set_option maxHeartbeats 1000000 in
theorem May1_ok (B M : Nat) (o : Fq) (fv : Value) (pf pa : Nat) (sa : Option Addr) (ca : Nat) (mt : Mtx) (r0 : List Int) (pr : Option Addr) (cr : Nat) (r : List Int) (w : World) (hI : Inv FDx B w) (hf : Fo FDx B w fv o) (hkf : KC FDx B w ⟨pf, 0, none⟩ fv) (hka : KC FDx B w ⟨pa, 0, none⟩ (.slice sa mt.length ca)) (hA : Mat FDx B M w sa ca mt) (h0 : mt[0]? = some r0) (hr : Row FDx B M w (.slice pr r.length cr) (zints r)) (hrl : r.length ≤ maxLen) : Ret Try.prog 76 [.slice pr r.length cr, .pointer (some ⟨pa, 0, none⟩), .pointer (some ⟨pf, 0, none⟩)] w fun v w' => v = .bool ((fun r => decide (r.length ≠ r0.length) || r.any fun x => !inF o x) r) ∧ St FDx B w w' := by
 refine enter 17 [(0, .slice pr r.length cr), (1, .pointer (some ⟨pa, 0, none⟩)), (2, .pointer (some ⟨pf, 0, none⟩))] 4 Try.func76 rfl rfl rfl rfl rfl ?_; intro a hF
 have hS := St.refl hI
 obtain ⟨g0, o0, pr0, cr0, hg0, hk0, hrow0, -⟩ := hA.row h0
 subst hg0
 have hml := (List.getElem?_eq_some_iff.1 h0).1
 refine W_sr rfl (fun K hK => ?_)
 refine sv hF (v_assign rfl) rfl ?_; clear hF a; intro a hF
 refine WL_nil (hK _ _ ?_)
 clear hK K
 refine W_sr rfl (fun K hK => ?_)
 refine sv hF (v_move rfl) rfl ?_; clear hF a; intro a hF
 refine sv hF (v_lenS rfl sl23 rfl) rfl ?_; clear hF a; intro a hF
 refine sv hF (v_load sc27 rfl (by first | assumption | (rw [toNat_c]; assumption) | exact KC.c (by assumption) | (rw [toNat_c]; exact KC.c (by assumption)) | exact Box.at (by assumption))) rfl ?_; clear hF a; intro a hF
 refine sv hF (v_ixS sl27 rfl rfl (by decide) (by omega)) rfl ?_; clear hF a; intro a hF
 refine sv hF (v_load sc23 rfl hk0.c) rfl ?_; clear hF a; intro a hF
 refine sv hF (v_lenS rfl sl23 rfl) rfl ?_; clear hF a; intro a hF
 refine sb hF (v_neq rfl rfl) rfl ?_ ?_
 ·
  clear hF a; intro hc1 a hF
  try simp only [dcl] at hc1
  refine sv hF (v_move rfl) rfl ?_; clear hF a; intro a hF
  refine svn hF rfl rfl rfl ?_; clear hF a; intro a hF
  refine svn hF rfl rfl rfl ?_; clear hF a; intro a hF
  refine svn hF rfl rfl rfl ?_; clear hF a; intro a hF
  refine sv2 hF (v_pickT rfl rfl) (v_assign rfl) rfl rfl ?_; clear hF a; intro a hF
  refine WL_nil (hK _ _ ?_)
  clear hK K
  replace hF := hF.sub _ (c_ 4 rfl (n_))
  refine W_ret ?_
  refine ⟨_, _, hF, rfl, ?_⟩
  have hd : decide (r.length ≠ r0.length) = true := by rw [decide_eq_true_iff]; omega
  exact ⟨by simp only [hd, Bool.true_or], hS⟩
 ·
  clear hF a; intro hc1 a hF
  try simp only [dcl] at hc1
  refine sv hF (v_move rfl) rfl ?_; clear hF a; intro a hF
  refine svg hF rfl ?_
  refine sv hF (v_move rfl) rfl ?_; clear hF a; intro a hF
  refine svg hF rfl ?_
  refine sv hF (v_mkf (cs := [.tmp 2]) (vs := [.pointer (some ⟨pf, 0, none⟩)]) rfl) rfl ?_; clear hF a; intro a hF
  refine svg hF rfl ?_
  refine sc hF rfl rfl rfl en77 rfl (AnyI_ok B M 78 [.pointer (some ⟨pf, 0, none⟩)] (fun x => !inF o x) pr cr r _ hS.inv hr hrl (ent Try.func78 (by kernel_rfl) (by kernel_rfl)) (fun x _ w1 hs => May11_ok B o fv pf x w1 hs.inv (hf.st (hS.trans hs)) (hkf.st (hS.trans hs)))) ?_; clear hF a; intro v w' a hv hF
  obtain ⟨rfl, hS'⟩ := hv
  replace hS := hS.trans hS'
  clear hS'
  refine sv2 hF (v_pickF rfl rfl) (v_assign rfl) rfl rfl ?_; clear hF a; intro a hF
  refine WL_nil (hK _ _ ?_)
  clear hK K
  replace hF := hF.sub _ (c_ 4 rfl (n_))
  refine W_ret ?_
  refine ⟨_, _, hF, rfl, ?_⟩
  have hd : decide (r.length ≠ r0.length) = false := by rw [decide_eq_false_iff_not]; omega
  exact ⟨by simp only [hd, Bool.false_or], hS⟩

set_option maxRecDepth 100000 in
set_option maxHeartbeats 1000000 in
theorem May_ok (B M : Nat) (o : Fq) (fv : Value) (pmt : Option Addr) (cmt : Nat) (mt : Mtx) (w : World) (hI : Inv FDx B w) (hf : Fo FDx B w fv o) (hA : Mat FDx B M w pmt cmt mt) (hl : mt.length ≤ maxLen) (hb : ∀ r ∈ mt, r.length ≤ maxLen) : Ret Try.prog 62 [fv, .slice pmt mt.length cmt] w fun v w' => v = .bool (mayM o mt) ∧ St FDx B w w' := by
 refine enter 21 [(0, fv), (1, .slice pmt mt.length cmt)] 4 Try.func62 rfl rfl rfl rfl rfl ?_; intro a hF
 have hS := St.refl hI
 have hl2 := hl
 simp only [maxLen] at hl2
 refine W_sr rfl (fun K hK => ?_)
 refine s_boxN (D := FDx) (B := B) hF rfl (hf.cells1) (by decide) hS.inv rfl ?_; clear hF a; intro w' a hm hI' hbf hsz hF
 replace hf := hf.mb hm
 replace hA := hA.mb hm (fun _ h => by cases h)
 replace hS := hS.mb0 hm
 clear hm hI' hsz
 obtain ⟨pf, hpf⟩ : ∃ pf, pf = w.heap.size := ⟨_, rfl⟩
 rw [← hpf] at hbf hF
 obtain ⟨pa, hpa⟩ : ∃ pa, pa = w'.heap.size := ⟨_, rfl⟩
 refine s_boxN (D := FDx) (B := B) hF rfl (rfl) (by decide) hS.inv rfl ?_; clear hF a; intro w' a hm hI' hba hsz hF
 replace hf := hf.mb hm
 replace hA := hA.mb hm (fun _ h => by cases h)
 replace hbf := hbf.mb hm (by simp)
 replace hS := hS.mb0 hm
 clear hm hI' hsz
 rw [← hpa] at hba hF
 have hkf := hbf.kc
 have hka := hba.kc
 clear hba hbf
 refine sv hF (v_assign rfl) rfl ?_; clear hF a; intro a hF
 refine WL_nil (hK _ _ ?_)
 clear hK K
 replace hF := hF.sub _ (c_ 4 rfl (c_ 3 rfl (c_ 2 rfl (n_))))
 refine W_seq ?_
 refine W_sr rfl (fun K hK => ?_)
 refine sv hF (v_load sc27 rfl hka.c) rfl ?_; clear hF a; intro a hF
 refine sv hF (v_lenS rfl sl27 rfl) rfl ?_; clear hF a; intro a hF
 refine sc hF rfl rfl rfl en71 rfl (within_ok (mt.length : Int) _) ?_; clear hF a; intro v w' a hv hF
 obtain ⟨rfl, hw⟩ := hv
 obtain rfl := hw.symm
 have hS' := St.refl hS.inv
 replace hf := hf.st hS'
 replace hA := hA.st hS'
 replace hkf := hkf.st hS'
 replace hka := hka.st hS'
 replace hS := hS.trans hS'
 clear hS'
 refine sb hF (v_not rfl) rfl ?_ ?_
 ·
  clear hF a; intro hc1 a hF
  try simp only [dcl] at hc1
  refine sv hF (v_move rfl) rfl ?_; clear hF a; intro a hF
  refine svn hF rfl rfl rfl ?_; clear hF a; intro a hF
  refine svn hF rfl rfl rfl ?_; clear hF a; intro a hF
  refine svn hF rfl rfl rfl ?_; clear hF a; intro a hF
  refine svn hF rfl rfl rfl ?_; clear hF a; intro a hF
  refine svn hF rfl rfl rfl ?_; clear hF a; intro a hF
  refine svn hF rfl rfl rfl ?_; clear hF a; intro a hF
  refine sv hF (v_pickT rfl rfl) rfl ?_; clear hF a; intro a hF
  refine WL_nil (hK _ _ ?_)
  clear hK K
  replace hF := hF.sub _ (c_ 16 rfl (c_ 4 rfl (c_ 3 rfl (c_ 2 rfl (n_)))))
  refine W_ifT hF rfl ?_
  refine W_sr rfl (fun K hK => ?_)
  refine sv hF (v_assign rfl) rfl ?_; clear hF a; intro a hF
  refine WL_nil (hK _ _ ?_)
  clear hK K
  replace hF := hF.sub _ (c_ 4 rfl (c_ 3 rfl (c_ 2 rfl (n_))))
  refine W_ret ?_
  refine ⟨_, _, hF, rfl, ?_⟩
  have hno : mayM o mt = false := mayM_no (fun h => by omega)
  rw [hno]
  exact ⟨rfl, hS⟩
 ·
  clear hF a; intro hc1 a hF
  try simp only [dcl] at hc1
  refine sv hF (v_move rfl) rfl ?_; clear hF a; intro a hF
  refine svg hF rfl ?_
  have hm20 : 1 ≤ mt.length ∧ mt.length ≤ 20 := by omega
  obtain ⟨r0, h0⟩ : ∃ r, mt[0]? = some r := ⟨_, List.getElem?_eq_getElem (by omega)⟩
  obtain ⟨g0, o0, pr0, cr0, hg0, hk0, hrow0, -⟩ := hA.row h0
  subst hg0
  refine sv hF (v_load sc27 rfl hka.c) rfl ?_; clear hF a; intro a hF
  refine svg hF rfl ?_
  refine sv hF (v_ixS sl27 rfl rfl (by decide) (by omega)) rfl ?_; clear hF a; intro a hF
  refine svg hF rfl ?_
  refine sv hF (v_load sc23 rfl hk0.c) rfl ?_; clear hF a; intro a hF
  refine svg hF rfl ?_
  refine sv hF (v_lenS rfl sl23 rfl) rfl ?_; clear hF a; intro a hF
  refine svg hF rfl ?_
  refine sc hF rfl rfl rfl en71 rfl (within_ok (r0.length : Int) _) ?_; clear hF a; intro v w' a hv hF
  obtain ⟨rfl, hw⟩ := hv
  obtain rfl := hw.symm
  have hS' := St.refl hS.inv
  replace hf := hf.st hS'
  replace hA := hA.st hS'
  replace hkf := hkf.st hS'
  replace hka := hka.st hS'
  replace hS := hS.trans hS'
  clear hS'
  refine svg hF rfl ?_
  refine sv hF (v_not rfl) rfl ?_; clear hF a; intro a hF
  refine sv hF (v_pickF rfl rfl) rfl ?_; clear hF a; intro a hF
  refine WL_nil (hK _ _ ?_)
  clear hK K
  replace hF := hF.sub _ (c_ 16 rfl (c_ 4 rfl (c_ 3 rfl (c_ 2 rfl (n_)))))
  refine W_if hF rfl (fun hc2 => ?_) (fun hc2 => ?_)
  ·
   skip
   try simp only [dcl] at hc2
   refine W_sr rfl (fun K hK => ?_)
   refine sv hF (v_assign rfl) rfl ?_; clear hF a; intro a hF
   refine WL_nil (hK _ _ ?_)
   clear hK K
   replace hF := hF.sub _ (c_ 4 rfl (c_ 3 rfl (c_ 2 rfl (n_))))
   refine W_ret ?_
   refine ⟨_, _, hF, rfl, ?_⟩
   have hno : mayM o mt = false := mayM_no (fun h => by rw [wid_at h0] at h; omega)
   rw [hno]
   exact ⟨rfl, hS⟩
  ·
   skip
   try simp only [dcl] at hc2
   refine W_skip ?_
   refine W_sr rfl (fun K hK => ?_)
   refine sv hF (v_load sc27 rfl hka.c) rfl ?_; clear hF a; intro a hF
   refine sv hF (v_mkf (cs := [.tmp 3, .tmp 2]) (vs := [.pointer (some ⟨pa, 0, none⟩), .pointer (some ⟨pf, 0, none⟩)]) rfl) rfl ?_; clear hF a; intro a hF
   refine sc hF rfl rfl rfl en75 rfl (AnyR_ok B M 76 [.pointer (some ⟨pa, 0, none⟩), .pointer (some ⟨pf, 0, none⟩)] (fun r => decide (r.length ≠ r0.length) || r.any fun x => !inF o x) _ cmt mt _ hS.inv hA hl (ent Try.func76 (by kernel_rfl) (by kernel_rfl)) (fun r hr pr cr w1 hs hrow => May1_ok B M o fv pf pa _ cmt mt r0 pr cr r w1 hs.inv (hf.st hs) (hkf.st hs) (hka.st hs) (hA.st hs) h0 hrow (hb r hr))) ?_; clear hF a; intro v w' a hv hF
   obtain ⟨rfl, hS'⟩ := hv
   replace hf := hf.st hS'
   replace hA := hA.st hS'
   replace hkf := hkf.st hS'
   replace hka := hka.st hS'
   replace hS := hS.trans hS'
   clear hS'
   refine sv hF (v_not rfl) rfl ?_; clear hF a; intro a hF
   refine sv hF (v_assign rfl) rfl ?_; clear hF a; intro a hF
   refine WL_nil (hK _ _ ?_)
   clear hK K
   replace hF := hF.sub _ (c_ 4 rfl (n_))
   refine W_ret ?_
   refine ⟨_, _, hF, rfl, ?_⟩
   have hr20 : 1 ≤ r0.length ∧ r0.length ≤ 20 := by omega
   exact ⟨by rw [← mayM_eq h0 hm20.2 hr20], hS⟩

end Go.Proofs.Ytkoiolamnnmokaa

/- Sums of products in a field; matrices as tables of numbers; what products, rows picked and joined tell. No program in sight. -/
set_option linter.unusedVariables false
set_option linter.unusedSimpArgs false
namespace Go.Gam
open Px

/-- The sum of f 0 .. f (n - 1). -/
def xsum : Nat → (Nat → Nat) → Nat
  | 0, _ => 0
  | n + 1, f => xsum n f ^^^ f n
theorem xsum_congr {f g : Nat → Nat} : ∀ {n : Nat}, (∀ i, i < n → f i = g i) → xsum n f = xsum n g
  | 0, _ => rfl
  | n + 1, h => by rw [xsum, xsum, xsum_congr (fun i hi => h i (by omega)), h n (by omega)]
theorem xsum_lt {k : Nat} {f : Nat → Nat} : ∀ {n : Nat}, (∀ i, i < n → f i < 2 ^ k) → xsum n f < 2 ^ k
  | 0, _ => Nat.two_pow_pos _
  | n + 1, h => Px.xor_lt (xsum_lt fun i hi => h i (by omega)) (h n (by omega))
theorem xor4 (a b c d : Nat) : (a ^^^ b) ^^^ (c ^^^ d) = (a ^^^ c) ^^^ (b ^^^ d) := by
  rw [Nat.xor_assoc, Nat.xor_assoc, ← Nat.xor_assoc b c d, Nat.xor_comm b c, Nat.xor_assoc c b d]
theorem xsum_xor (f g : Nat → Nat) : ∀ n, xsum n (fun i => f i ^^^ g i) = xsum n f ^^^ xsum n g
  | 0 => by simp [xsum]
  | n + 1 => by rw [xsum, xsum, xsum, xsum_xor f g n, xor4]
theorem xsum_zero : ∀ n, xsum n (fun _ => 0) = 0
  | 0 => rfl
  | n + 1 => by rw [xsum, xsum_zero n]; rfl
theorem xsum_zero' {n : Nat} {f : Nat → Nat} (h : ∀ i, i < n → f i = 0) : xsum n f = 0 := by rw [xsum_congr h, xsum_zero]
theorem xsum_single {f : Nat → Nat} {i : Nat} : ∀ {n : Nat}, i < n → (∀ j, j < n → j ≠ i → f j = 0) → xsum n f = f i
  | 0, h, _ => by omega
  | n + 1, h, h2 => by
    rw [xsum]
    by_cases hn : i = n
    · subst hn; rw [xsum_zero' fun j hj => h2 j (by omega) (by omega), Nat.zero_xor]
    · rw [xsum_single (by omega) (fun j hj => h2 j (by omega)), h2 n (by omega) (by omega), Nat.xor_zero]
theorem xsum_add (f : Nat → Nat) (m : Nat) : ∀ n, xsum (m + n) f = xsum m f ^^^ xsum n (fun i => f (m + i))
  | 0 => by rw [Nat.add_zero, xsum, Nat.xor_zero]
  | n + 1 => by rw [← Nat.add_assoc, xsum, xsum_add f m n, xsum, Nat.xor_assoc]
theorem xsum_comm (f : Nat → Nat → Nat) (m : Nat) : ∀ n, xsum n (fun i => xsum m (f i)) = xsum m (fun j => xsum n (fun i => f i j))
  | 0 => (xsum_zero m).symm
  | n + 1 => by
    rw [xsum, xsum_comm f m n, ← xsum_xor]
    exact xsum_congr fun j _ => rfl
theorem mul_xsum (F : Fld) (c : Nat) (f : Nat → Nat) : ∀ n, F.mul c (xsum n f) = xsum n (fun i => F.mul c (f i))
  | 0 => F.mul_zero c
  | n + 1 => by rw [xsum, F.dist, mul_xsum F c f n, xsum]
theorem xsum_mul (F : Fld) (c : Nat) (f : Nat → Nat) (n : Nat) : F.mul (xsum n f) c = xsum n (fun i => F.mul (f i) c) := by
  rw [F.comm, mul_xsum]; exact xsum_congr fun i _ => F.comm _ _

/-! ### tables -/
/-- n rows of m numbers below 2^w. -/
def Mx (w n m : Nat) (a : Mtx) : Prop := a.length = n ∧ ∀ r ∈ a, r.length = m ∧ ∀ x ∈ r, 0 ≤ x ∧ x < ((2 ^ w : Nat) : Int)
/-- The number at row i, place j. -/
def en (a : Mtx) (i j : Nat) : Nat := ((a.getD i []).getD j 0).toNat
def tab (n m : Nat) (f : Nat → Nat → Nat) : Mtx := (List.range n).map fun i => (List.range m).map fun j => (f i j : Int)
theorem getD_of {α : Type} {l : List α} {i : Nat} {d : α} (h : i < l.length) : l.getD i d = l[i] := by rw [List.getD_eq_getElem?_getD, List.getElem?_eq_getElem h]; rfl
theorem Mx.num {w n m : Nat} {a : Mtx} (h : Mx w n m a) {i j : Nat} (hi : i < n) (hj : j < m) : ∃ r, a[i]? = some r ∧ r.length = m ∧ r[j]? = some (en a i j : Int) ∧ en a i j < 2 ^ w := by
  obtain ⟨rfl, h2⟩ := h
  have hr := h2 a[i] (List.getElem_mem hi)
  have hj' : j < a[i].length := by omega
  have hx := hr.2 a[i][j] (List.getElem_mem hj')
  have he : en a i j = a[i][j].toNat := by unfold en; rw [getD_of hi, getD_of hj']
  refine ⟨a[i], List.getElem?_eq_getElem hi, hr.1, ?_, by omega⟩
  rw [List.getElem?_eq_getElem hj']
  congr 1; omega
theorem Mx.lt {w n m : Nat} {a : Mtx} (h : Mx w n m a) {i j : Nat} (hi : i < n) (hj : j < m) : en a i j < 2 ^ w := let ⟨_, _, _, _, h⟩ := h.num hi hj; h
theorem Mx.ext {w n m : Nat} {a b : Mtx} (ha : Mx w n m a) (hb : Mx w n m b) (h : ∀ i j, i < n → j < m → en a i j = en b i j) : a = b := by
  apply List.ext_getElem?
  intro i
  by_cases hi : i < n
  · have hia : i < a.length := by rw [ha.1]; exact hi
    have hib : i < b.length := by rw [hb.1]; exact hi
    rw [List.getElem?_eq_getElem hia, List.getElem?_eq_getElem hib]
    congr 1
    apply List.ext_getElem?
    intro j
    have la := (ha.2 a[i] (List.getElem_mem hia)).1
    have lb := (hb.2 b[i] (List.getElem_mem hib)).1
    by_cases hj : j < m
    · obtain ⟨r, h1, _, h2, _⟩ := ha.num hi hj
      obtain ⟨s, h3, _, h4, _⟩ := hb.num hi hj
      rw [List.getElem?_eq_getElem hia] at h1
      rw [List.getElem?_eq_getElem hib] at h3
      obtain rfl := Option.some.inj h1
      obtain rfl := Option.some.inj h3
      rw [h2, h4, h i j hi hj]
    · rw [List.getElem?_eq_none (by omega), List.getElem?_eq_none (by omega)]
  · have := ha.1; have := hb.1
    rw [List.getElem?_eq_none (by omega), List.getElem?_eq_none (by omega)]
theorem tab_length (n m : Nat) (f : Nat → Nat → Nat) : (tab n m f).length = n := by simp [tab]
theorem tab_at {n m i : Nat} {f : Nat → Nat → Nat} (hi : i < n) : (tab n m f)[i]? = some ((List.range m).map fun j => (f i j : Int)) := by simp [tab, hi]
theorem en_tab {n m i j : Nat} {f : Nat → Nat → Nat} (hi : i < n) (hj : j < m) : en (tab n m f) i j = f i j := by
  unfold en
  rw [List.getD_eq_getElem?_getD, List.getD_eq_getElem?_getD, tab_at hi]
  simp [hj]
theorem Mx.tab {w n m : Nat} {f : Nat → Nat → Nat} (h : ∀ i j, i < n → j < m → f i j < 2 ^ w) : Mx w n m (tab n m f) := by
  refine ⟨tab_length _ _ _, fun r hr => ?_⟩
  obtain ⟨i, hi, rfl⟩ := List.mem_map.1 hr
  rw [List.mem_range] at hi
  refine ⟨by simp, fun x hx => ?_⟩
  obtain ⟨j, hj, rfl⟩ := List.mem_map.1 hx
  rw [List.mem_range] at hj
  have := h i j hi hj
  exact ⟨by omega, by omega⟩
theorem Mx.eq_tab {w n m : Nat} {a : Mtx} (h : Mx w n m a) : a = Gam.tab n m (en a) := h.ext (Mx.tab fun i j hi hj => h.lt hi hj) fun i j hi hj => (en_tab hi hj).symm
theorem tab_congr {n m : Nat} {f g : Nat → Nat → Nat} (h : ∀ i j, i < n → j < m → f i j = g i j) : tab n m f = tab n m g := by
  unfold tab
  refine List.map_congr_left fun i hi => List.map_congr_left fun j hj => ?_
  rw [List.mem_range] at hi hj
  rw [h i j hi hj]
theorem wid_tab {n m : Nat} {f : Nat → Nat → Nat} (h : 0 < n) : wid (tab n m f) = m := by rw [wid_at (tab_at h)]; simp
theorem Mx.wid {w n m : Nat} {a : Mtx} (h : Mx w n m a) (hn : 0 < n) : wid a = m := by
  obtain ⟨r, hr⟩ : ∃ r, a[0]? = some r := ⟨_, List.getElem?_eq_getElem (by rw [h.1]; exact hn)⟩
  rw [wid_at hr]
  exact (h.2 r (List.mem_of_getElem? hr)).1

section
variable {wb p : Nat}
theorem mayM_Mx {a : Mtx} (h : mayM (some (wb, p)) a = true) : Mx wb a.length (wid a) a ∧ 1 ≤ a.length ∧ a.length ≤ 20 ∧ 1 ≤ wid a ∧ wid a ≤ 20 := by
  obtain ⟨h1, h2, h3, h4, h5⟩ := mayM_pos h
  exact ⟨⟨rfl, fun r hr => ⟨(h5 r hr).1, fun x hx => inF_some.1 ((h5 r hr).2 x hx)⟩⟩, h1, h2, h3, h4⟩
theorem Mx.may {n m : Nat} {a : Mtx} (h : Mx wb n m a) (h1 : 1 ≤ n) (h2 : n ≤ 20) (h3 : 1 ≤ m) (h4 : m ≤ 20) : mayM (some (wb, p)) a = true := by
  have hw := h.wid (by omega)
  exact mayM_of (by rw [h.1]; exact h1) (by rw [h.1]; exact h2) (by omega) (by omega) fun r hr => ⟨by rw [hw]; exact (h.2 r hr).1, fun x hx => inF_some.2 ((h.2 r hr).2 x hx)⟩
theorem gmul_num (h : Prm wb p) {x y : Nat} (hx : x < 2 ^ wb) (hy : y < 2 ^ wb) : gmul (some (wb, p)) (x : Int) (y : Int) = (h.fld.mul x y : Int) := gmul_in hx hy
theorem dotP_sum (h : Prm wb p) {r c : List Int} {f g : Nat → Nat} : ∀ n, (∀ i, i < n → r[i]? = some (f i : Int) ∧ c[i]? = some (g i : Int) ∧ f i < 2 ^ wb ∧ g i < 2 ^ wb) →
    dotP (some (wb, p)) r c n = xsum n fun i => h.fld.mul (f i) (g i)
  | 0, _ => rfl
  | n + 1, hn => by
    obtain ⟨h1, h2, h3, h4⟩ := hn n (by omega)
    rw [dotP_step h1 h2, dotP_sum h n (fun i hi => hn i (by omega)), gmul_num h h3 h4, Int.toNat_natCast]
    rfl
theorem colAt_num {n m w : Nat} {b : Mtx} (hb : Mx w n m b) {i j : Nat} (hi : i < n) (hj : j < m) : (colAt b j)[i]? = some (en b i j : Int) := by
  obtain ⟨r, h1, _, h2, _⟩ := hb.num hi hj
  exact colAt_at h1 h2
theorem dotN_num (h : Prm wb p) {n m k : Nat} {a b : Mtx} (ha : Mx wb n m a) (hb : Mx wb m k b) {i j : Nat} {r : List Int} (hi : a[i]? = some r) (hj : j < k) :
    dotN (some (wb, p)) r (colAt b j) = xsum m fun l => h.fld.mul (en a i l) (en b l j) := by
  have hin : i < n := by rw [← ha.1]; exact (List.getElem?_eq_some_iff.1 hi).1
  have hr := (ha.2 r (List.mem_of_getElem? hi)).1
  have hc : r.length = (colAt b j).length := by rw [colAt_length, hb.1, hr]
  rw [← dotP_all _ hc, hr]
  refine dotP_sum h m fun l hl => ?_
  obtain ⟨r', h1, _, h2, h3⟩ := ha.num hin hl
  rw [hi] at h1
  obtain rfl := Option.some.inj h1
  exact ⟨h2, colAt_num hb hl hj, h3, hb.lt hl hj⟩
/-- A product, told as a table. -/
theorem mulM_tab (h : Prm wb p) {n m k : Nat} {a b : Mtx} (ha : Mx wb n m a) (hb : Mx wb m k b) (hn : 1 ≤ n ∧ n ≤ 20) (hm : 1 ≤ m ∧ m ≤ 20) (hk : 1 ≤ k ∧ k ≤ 20) :
    mulM (some (wb, p)) a b = some (tab n k fun i j => xsum m fun l => h.fld.mul (en a i l) (en b l j)) := by
  rw [mulM_t (ha.may hn.1 hn.2 hm.1 hm.2) (hb.may hm.1 hm.2 hk.1 hk.2) (by rw [ha.wid (by omega), hb.1])]
  congr 1
  have hw := hb.wid (show 0 < m by omega)
  unfold tab
  apply List.ext_getElem?
  intro i
  by_cases hi : i < n
  · have hia : i < a.length := by rw [ha.1]; exact hi
    rw [List.getElem?_map, List.getElem?_eq_getElem hia, List.getElem?_map, List.getElem?_range hi]
    show some _ = some _
    congr 1
    unfold mulRow
    rw [hw]
    refine List.map_congr_left fun j hj => ?_
    rw [List.mem_range] at hj
    rw [dotN_num h ha hb (List.getElem?_eq_getElem hia) hj]
  · have := ha.1
    rw [List.getElem?_eq_none (by simp; omega), List.getElem?_eq_none (by simp; omega)]
theorem mulM_inv {a b x : Mtx} {o : Fq} (hx : mulM o a b = some x) : mayM o a = true ∧ mayM o b = true ∧ wid a = b.length ∧ x = a.map (mulRow o b) := by
  unfold mulM at hx
  split at hx
  · rename_i hb
    simp only [mulB, Bool.and_eq_true, decide_eq_true_eq] at hb
    exact ⟨hb.1.1, hb.1.2, hb.2, (Option.some.inj hx).symm⟩
  · cases hx
theorem mulM_some (h : Prm wb p) {a b x : Mtx} (hx : mulM (some (wb, p)) a b = some x) : ∃ n m k, Mx wb n m a ∧ Mx wb m k b ∧ (1 ≤ n ∧ n ≤ 20) ∧ (1 ≤ m ∧ m ≤ 20) ∧ (1 ≤ k ∧ k ≤ 20) ∧ x = tab n k fun i j => xsum m fun l => h.fld.mul (en a i l) (en b l j) := by
  obtain ⟨h1, h2, h3, -⟩ := mulM_inv hx
  obtain ⟨ha, a1, a2, a3, a4⟩ := mayM_Mx h1
  obtain ⟨hb, b1, b2, b3, b4⟩ := mayM_Mx h2
  rw [h3] at ha
  refine ⟨_, _, _, ha, hb, ⟨a1, a2⟩, ⟨b1, b2⟩, ⟨b3, b4⟩, ?_⟩
  rw [mulM_tab h ha hb ⟨a1, a2⟩ ⟨b1, b2⟩ ⟨b3, b4⟩] at hx
  exact (Option.some.inj hx).symm
theorem Mx.mul (h : Prm wb p) {n m k : Nat} (f g : Nat → Nat → Nat) : Mx wb n k (Gam.tab n k fun i j => xsum m fun l => h.fld.mul (f i l) (g l j)) :=
  Mx.tab fun i j _ _ => xsum_lt fun l _ => by have := h.fld.lt (f i l) (g l j); rw [h.fld_w] at this; exact this
/-- Products don't hang on which two are first. -/
theorem mulM_assoc (h : Prm wb p) {a b c x y : Mtx} (hx : mulM (some (wb, p)) a b = some x) (hy : mulM (some (wb, p)) b c = some y) : ∃ q, mulM (some (wb, p)) x c = some q ∧ mulM (some (wb, p)) a y = some q := by
  obtain ⟨n, m, k, ha, hb, hn, hm, hk, rfl⟩ := mulM_some h hx
  obtain ⟨m', k', l, hb', hc, hm', hk', hl, rfl⟩ := mulM_some h hy
  have e1 : m' = m := hb'.1.symm.trans hb.1
  subst e1
  have e2 : k' = k := by rw [← hb'.wid (by omega), ← hb.wid (by omega)]
  subst e2
  refine ⟨_, mulM_tab h (Mx.mul h _ _) hc hn hk hl, ?_⟩
  rw [mulM_tab h ha (Mx.mul h _ _) hn hm hl]
  congr 1
  refine tab_congr fun i j hi hj => ?_
  rw [xsum_congr (fun s hs => by rw [en_tab hs hj, mul_xsum])]
  rw [xsum_comm]
  refine xsum_congr fun s hs => ?_
  rw [en_tab hi hs, xsum_mul]
  exact xsum_congr fun t _ => by rw [h.fld.assoc]
theorem idM_tab (n : Nat) : idM n = tab n n fun i j => if i = j then 1 else 0 := by
  unfold idM tab
  refine List.map_congr_left fun i _ => List.map_congr_left fun j _ => ?_
  by_cases h : i = j <;> simp [h]
theorem Mx.id (h : Prm wb p) (n : Nat) : Mx wb n n (idM n) := by
  rw [idM_tab]
  refine Mx.tab fun i j _ _ => ?_
  have := h.size
  split <;> omega
/-- The identity changes nothing. -/
theorem mulM_idl (h : Prm wb p) {n m : Nat} {a : Mtx} (ha : Mx wb n m a) (hn : 1 ≤ n ∧ n ≤ 20) (hm : 1 ≤ m ∧ m ≤ 20) : mulM (some (wb, p)) (idM n) a = some a := by
  rw [mulM_tab h (Mx.id h n) ha hn hn hm]
  congr 1
  rw [ha.eq_tab]
  refine tab_congr fun i j hi hj => ?_
  rw [idM_tab, xsum_single hi (fun s hs hne => by rw [en_tab hi hs, if_neg (Ne.symm hne), h.fld.zero_mul]), en_tab hi hi, if_pos rfl, en_tab hi hj]
  exact h.fld.one _ (by rw [h.fld_w]; exact ha.lt hi hj)
theorem mulM_idr (h : Prm wb p) {n m : Nat} {a : Mtx} (ha : Mx wb n m a) (hn : 1 ≤ n ∧ n ≤ 20) (hm : 1 ≤ m ∧ m ≤ 20) : mulM (some (wb, p)) a (idM m) = some a := by
  rw [mulM_tab h ha (Mx.id h m) hn hm hm]
  congr 1
  rw [ha.eq_tab]
  refine tab_congr fun i j hi hj => ?_
  rw [idM_tab, xsum_single hj (fun s hs hne => by rw [en_tab hs hj, if_neg hne, h.fld.mul_zero]), en_tab hj hj, if_pos rfl, en_tab hi hj]
  exact h.fld.mul_one _ (by rw [h.fld_w]; exact ha.lt hi hj)
theorem identM_of {n : Nat} (h : 1 ≤ n ∧ n ≤ 20) : identM (n : Int) = idM n := by unfold identM; rw [if_pos (by omega), Int.toNat_natCast]
/-- A product is a matrix. -/
theorem mulM_may (h : Prm wb p) {a b x : Mtx} (hx : mulM (some (wb, p)) a b = some x) : mayM (some (wb, p)) x = true ∧ x.length = a.length ∧ wid x = wid b := by
  obtain ⟨n, m, k, ha, hb, hn, hm, hk, rfl⟩ := mulM_some h hx
  exact ⟨(Mx.mul h _ _).may hn.1 hn.2 hk.1 hk.2, by rw [tab_length, ha.1], by rw [wid_tab (by omega), hb.wid (by omega)]⟩

/-! ### rows picked, joined -/
theorem rowM_map {o : Fq} {a b : Mtx} {i : Int} (h : 0 ≤ i ∧ i < (a.length : Int)) : rowM (a.map (mulRow o b)) i = mulRow o b (rowM a i) := by
  have hi : i.toNat < a.length := by omega
  unfold rowM
  rw [getD_of (by simpa using hi), getD_of hi, List.getElem_map]
theorem pickM_may {o : Fq} {a s : Mtx} {l : List Int} (hs : pickM o a l = some s) : mayM o s = true ∧ s.length = l.length ∧ wid s = wid a := by
  unfold pickM at hs
  split at hs
  · rename_i hb
    obtain rfl := Option.some.inj hs
    simp only [pickB, Bool.and_eq_true, decide_eq_true_eq] at hb
    obtain ⟨⟨h1, h2⟩, h3⟩ := hb
    obtain ⟨a1, a2, a3, a4, a5⟩ := mayM_pos h1
    have key : ∀ i ∈ l, rowM a i ∈ a := fun i hi => by
      have := List.all_eq_true.1 h3 i hi
      simp at this
      unfold rowM
      rw [getD_of (by omega)]
      exact List.getElem_mem _
    have hw : wid (l.map (rowM a)) = wid a := by
      obtain ⟨i, hi⟩ : ∃ i, l[0]? = some i := ⟨_, List.getElem?_eq_getElem (by omega)⟩
      rw [wid_at (r := rowM a i) (by rw [List.getElem?_map, hi]; rfl)]
      exact (a5 _ (key i (List.mem_of_getElem? hi))).1
    refine ⟨mayM_of (by simpa using h2.1) (by simpa using h2.2) (by omega) (by omega) fun r hr => ?_, by simp, hw⟩
    obtain ⟨i, hi, rfl⟩ := List.mem_map.1 hr
    rw [hw]
    exact a5 _ (key i hi)
  · cases hs
/-- Rows picked of a product are those of the first one, times the second one. -/
theorem pick_mul (h : Prm wb p) {a b x : Mtx} {l : List Int} (hx : mulM (some (wb, p)) a b = some x) (hl : 1 ≤ l.length ∧ l.length ≤ 20) (hi : ∀ i ∈ l, 0 ≤ i ∧ i < (a.length : Int)) :
    ∃ s q, pickM (some (wb, p)) x l = some q ∧ pickM (some (wb, p)) a l = some s ∧ mulM (some (wb, p)) s b = some q := by
  obtain ⟨m1, m2, m3⟩ := mulM_may h hx
  obtain ⟨h1, h2, h3, rfl⟩ := mulM_inv hx
  have ha : pickM (some (wb, p)) a l = some (l.map (rowM a)) := pickM_t h1 hl (List.all_eq_true.2 fun i hi' => decide_eq_true (hi i hi'))
  obtain ⟨s1, s2, s3⟩ := pickM_may ha
  refine ⟨_, _, pickM_t m1 hl (List.all_eq_true.2 fun i hi' => decide_eq_true (by rw [m2]; exact hi i hi')), ha, ?_⟩
  rw [mulM_t s1 h2 (by rw [s3, h3]), List.map_map]
  congr 1
  exact List.map_congr_left fun i hi' => (rowM_map (hi i hi')).symm
theorem join_mul (h : Prm wb p) {a b x : Mtx} (hx : mulM (some (wb, p)) a b = some x) (ha : a.length ≤ 10) : ∃ y, joinM (some (wb, p)) a a = some (a ++ a) ∧ mulM (some (wb, p)) (a ++ a) b = some y ∧ joinM (some (wb, p)) x x = some y := by
  obtain ⟨m1, m2, m3⟩ := mulM_may h hx
  obtain ⟨h1, h2, h3, rfl⟩ := mulM_inv hx
  obtain ⟨a1, a2, a3, a4, a5⟩ := mayM_pos h1
  have hw : wid (a ++ a) = wid a := by
    obtain ⟨r, hr⟩ : ∃ r, a[0]? = some r := ⟨_, List.getElem?_eq_getElem (by omega)⟩
    rw [wid_at hr, wid_at (r := r) (by rw [List.getElem?_append_left (by omega), hr])]
  have hm : mayM (some (wb, p)) (a ++ a) = true := mayM_of (by simp; omega) (by simp; omega) (by omega) (by omega) fun r hr => by
    rw [hw]; exact a5 r (by simpa using hr)
  refine ⟨_, joinM_t h1 h1 rfl (by omega), mulM_t hm h2 (by rw [hw, h3]), ?_⟩
  rw [joinM_t m1 m1 rfl (by rw [m2]; omega), List.map_append]

/-! ### columns -/
theorem Mx.col {w : Nat} {l : List Int} (h : ∀ x ∈ l, 0 ≤ x ∧ x < ((2 ^ w : Nat) : Int)) : Mx w l.length 1 (colM l) := by
  refine ⟨colM_length l, fun r hr => ?_⟩
  obtain ⟨x, hx, rfl⟩ := List.mem_map.1 hr
  exact ⟨rfl, fun y hy => by obtain rfl : y = x := by simpa using hy
                             exact h _ hx⟩
theorem Mx.col_inv {w n : Nat} {l : List Int} (h : Mx w n 1 (colM l)) : ∀ x ∈ l, 0 ≤ x ∧ x < ((2 ^ w : Nat) : Int) := fun x hx => (h.2 [x] (List.mem_map.2 ⟨x, hx, rfl⟩)).2 x (by simp)
theorem en_col {l : List Int} {i : Nat} : en (colM l) i 0 = (l.getD i 0).toNat := by
  unfold en colM
  rw [List.getD_eq_getElem?_getD, List.getD_eq_getElem?_getD, List.getElem?_map, List.getD_eq_getElem?_getD]
  cases l[i]? <;> rfl
theorem colM_heads {m : Mtx} (h : ∀ r ∈ m, r.length = 1) : colM (m.map fun r => r.getD 0 0) = m := by
  unfold colM
  rw [List.map_map]
  conv => rhs; rw [← List.map_id m]
  refine List.map_congr_left fun r hr => ?_
  match r, h r hr with | [x], _ => rfl
/-- A column applied, as a product. -/
theorem applyM_mul {o : Fq} {a : Mtx} {x m : List Int} : applyM o a x = some m ↔ mulM o a (colM x) = some (colM m) := by
  rw [applyM_eq]
  constructor
  · intro h
    cases hm : mulM o a (colM x) with
    | none => rw [hm] at h; cases h
    | some M =>
      rw [hm] at h
      obtain rfl := Option.some.inj h
      rw [colM_heads (mulM_one hm).2]
  · intro h
    rw [h]
    show some _ = some _
    congr 1
    show List.map (fun r => r.getD 0 0) (List.map (fun x => [x]) m) = m
    rw [List.map_map]
    conv => rhs; rw [← List.map_id m]
    rfl
/-- A column times a product is so one behind the other. -/
theorem apply_apply (h : Prm wb p) {a b q : Mtx} {x m : List Int} (hq : mulM (some (wb, p)) a b = some q) (hm : applyM (some (wb, p)) b x = some m) :
    ∃ n, applyM (some (wb, p)) a m = some n ∧ applyM (some (wb, p)) q x = some n := by
  obtain ⟨z, h1, h2⟩ := mulM_assoc h hq (applyM_mul.1 hm)
  have hz := (mulM_one h1).2
  refine ⟨z.map fun r => r.getD 0 0, applyM_mul.2 ?_, applyM_mul.2 ?_⟩
  · rw [colM_heads hz]; exact h2
  · rw [colM_heads hz]; exact h1
theorem xorI {x y : Int} {k : Nat} (hx : 0 ≤ x ∧ x < ((2 ^ k : Nat) : Int)) (hy : 0 ≤ y ∧ y < ((2 ^ k : Nat) : Int)) : (x.toNat ^^^ y.toNat) < 2 ^ k := Px.xor_lt (by omega) (by omega)
/-- A sum of columns has the sum of what both have. -/
theorem apply_sum (h : Prm wb p) {b : Mtx} {x y s m : List Int} (hm : applyM (some (wb, p)) b x = some m) (hl : y.length = x.length) (hs : s.length = x.length) (hy : ∀ z ∈ y, 0 ≤ z ∧ z < ((2 ^ wb : Nat) : Int))
    (hsx : ∀ i, i < x.length → s[i]? = some ((((x.getD i 0).toNat ^^^ (y.getD i 0).toNat : Nat)) : Int)) :
    ∃ q t, applyM (some (wb, p)) b y = some q ∧ applyM (some (wb, p)) b s = some t ∧ q.length = m.length ∧ t.length = m.length ∧ ∀ i, i < m.length → ∃ u v : Nat, m[i]? = some (u : Int) ∧ q[i]? = some (v : Int) ∧ t[i]? = some ((u ^^^ v : Nat) : Int) ∧ u < 2 ^ wb ∧ v < 2 ^ wb := by
  have hmm := applyM_mul.1 hm
  obtain ⟨n, k, j, hb, hx, hn, hk, hj, hM⟩ := mulM_some h hmm
  obtain rfl : j = 1 := by rw [← hx.wid (by omega)]; cases x with | nil => have := hx.1; simp [colM] at this; omega | cons z x => rfl
  have hkx : x.length = k := by rw [← hx.1, colM_length]
  subst hkx
  have hxb := hx.col_inv
  have hY : Mx wb x.length 1 (colM y) := by rw [← hl]; exact Mx.col hy
  have hsb : ∀ z ∈ s, 0 ≤ z ∧ z < ((2 ^ wb : Nat) : Int) := by
    intro z hz
    obtain ⟨i, hi⟩ := List.getElem?_of_mem hz
    have hil := (List.getElem?_eq_some_iff.1 hi).1
    rw [hsx i (by omega)] at hi
    obtain rfl := Option.some.inj hi
    have := xorI (hxb (x.getD i 0) (by rw [getD_of (by omega)]; exact List.getElem_mem _)) (hy (y.getD i 0) (by rw [getD_of (by omega)]; exact List.getElem_mem _))
    exact ⟨by omega, by omega⟩
  have hS : Mx wb x.length 1 (colM s) := by rw [← hs]; exact Mx.col hsb
  have e1 := mulM_tab h hb hY hn hk ⟨by omega, by omega⟩
  have e2 := mulM_tab h hb hS hn hk ⟨by omega, by omega⟩
  have hd : ∀ (f : Nat → Nat → Nat), colM ((tab n 1 f).map fun r => r.getD 0 0) = tab n 1 f := fun f => colM_heads fun r hr => by
    obtain ⟨i, _, rfl⟩ := List.mem_map.1 hr; simp
  have hat : ∀ (f : Nat → Nat → Nat) i, i < n → ((tab n 1 f).map fun r => r.getD 0 0)[i]? = some (f i 0 : Int) := fun f i hi => by
    rw [List.getElem?_map, tab_at hi]; rfl
  have hmi : m = (tab n 1 fun i j => xsum x.length fun l => h.fld.mul (en b i l) (en (colM x) l j)).map fun r => r.getD 0 0 := by
    rw [← hM]; unfold colM; rw [List.map_map]; conv => lhs; rw [← List.map_id m]
    rfl
  refine ⟨_, _, applyM_mul.2 (by rw [hd]; exact e1), applyM_mul.2 (by rw [hd]; exact e2), by rw [hmi]; simp [tab_length], by rw [hmi]; simp [tab_length], fun i hi => ?_⟩
  have hin : i < n := by rw [hmi] at hi; simpa [tab_length] using hi
  refine ⟨_, _, by rw [hmi]; exact hat _ i hin, hat _ i hin, ?_, ?_, ?_⟩
  · rw [hat _ i hin, ← xsum_xor]
    congr 2
    refine xsum_congr fun l hlx => ?_
    have e := hsx l hlx
    have es : en (colM s) l 0 = en (colM x) l 0 ^^^ en (colM y) l 0 := by
      rw [en_col, en_col, en_col, List.getD_eq_getElem?_getD, e]; simp
    rw [es, h.fld.dist]
  · exact xsum_lt fun l _ => by have := h.fld.lt (en b i l) (en (colM x) l 0); rw [h.fld_w] at this; exact this
  · exact xsum_lt fun l _ => by have := h.fld.lt (en b i l) (en (colM y) l 0); rw [h.fld_w] at this; exact this

/-! ### no matrix -/
theorem mayM_none (a : Mtx) : mayM none a = false := by
  rw [Bool.eq_false_iff]
  intro h
  obtain ⟨h1, h2, h3, h4, h5⟩ := mayM_pos h
  obtain ⟨r, hr⟩ : ∃ r, a[0]? = some r := ⟨_, List.getElem?_eq_getElem (by omega)⟩
  have hw := wid_at hr
  have := (h5 r (List.mem_of_getElem? hr)).2 (r[0]'(by omega)) (List.getElem_mem _)
  rw [inF_none] at this
  cases this
theorem mayM_odd {o : Fq} {a : Mtx} (ha : fewM a = true) (h0 : a ≠ []) : mayM o (a ++ [List.replicate 11 0]) = false := by
  rw [Bool.eq_false_iff]
  intro h
  obtain ⟨h1, h2, h3, h4, h5⟩ := mayM_pos h
  have hp := List.length_pos_iff.2 h0
  obtain ⟨r, hr⟩ : ∃ r, a[0]? = some r := ⟨_, List.getElem?_eq_getElem hp⟩
  have hw := wid_at (a := a ++ [List.replicate 11 0]) (r := r) (by rw [List.getElem?_append_left hp, hr])
  have := (h5 (List.replicate 11 0) (by simp)).1
  have h6 := (fewM_iff.1 ha).2 r (List.mem_of_getElem? hr)
  rw [List.length_replicate, hw] at this
  omega
theorem mayM_lens {o : Fq} {a : Mtx} (h : mayM o a = true) : a.length ≤ 20 ∧ ∀ r ∈ a, r.length ≤ 20 := by
  obtain ⟨h1, h2, h3, h4, h5⟩ := mayM_pos h
  exact ⟨h2, fun r hr => by have := (h5 r hr).1; omega⟩
theorem mulM_lens (o : Fq) (a b : Mtx) : ((mulM o a b).getD []).length ≤ 20 ∧ ∀ r ∈ (mulM o a b).getD [], r.length ≤ 20 := by
  cases h : mulM o a b with
  | none => simp
  | some x =>
    obtain ⟨h1, h2, h3, rfl⟩ := mulM_inv h
    obtain ⟨a1, a2, a3, a4, a5⟩ := mayM_pos h1
    obtain ⟨b1, b2, b3, b4, b5⟩ := mayM_pos h2
    refine ⟨by simpa using a2, fun r hr => ?_⟩
    obtain ⟨s, hs, rfl⟩ := List.mem_map.1 hr
    rw [mulRow_length]; exact b4
theorem pickM_lens (o : Fq) (a : Mtx) (l : List Int) : ((pickM o a l).getD []).length ≤ 20 ∧ ∀ r ∈ (pickM o a l).getD [], r.length ≤ 20 := by
  cases h : pickM o a l with
  | none => simp
  | some x => exact mayM_lens (pickM_may h).1
theorem joinM_lens (o : Fq) (a b : Mtx) : ((joinM o a b).getD []).length ≤ 20 ∧ ∀ r ∈ (joinM o a b).getD [], r.length ≤ 20 := by
  cases h : joinM o a b with
  | none => simp
  | some x =>
    unfold joinM at h
    split at h
    · rename_i hb
      obtain rfl := Option.some.inj h
      simp only [joinB, Bool.and_eq_true, decide_eq_true_eq] at hb
      obtain ⟨⟨⟨h1, h2⟩, h3⟩, h4⟩ := hb
      refine ⟨by simpa using h4, fun r hr => ?_⟩
      rcases List.mem_append.1 hr with hr | hr
      · exact (mayM_lens h1).2 r hr
      · exact (mayM_lens h2).2 r hr
    · cases h
theorem idM_lens (n : Int) : (identM n).length ≤ 20 ∧ ∀ r ∈ identM n, r.length ≤ 20 := by
  unfold identM
  split
  · rename_i h
    refine ⟨by rw [idM_len]; omega, fun r hr => ?_⟩
    obtain ⟨i, _, rfl⟩ := List.mem_map.1 hr
    simp; omega
  · simp
theorem len20 {a : Mtx} (h : a.length ≤ 20 ∧ ∀ r ∈ a, r.length ≤ 20) : a.length ≤ maxLen ∧ ∀ r ∈ a, r.length ≤ maxLen := ⟨Nat.le_trans h.1 (by decide), fun r hr => Nat.le_trans (h.2 r hr) (by decide)⟩
theorem len1k {a : Mtx} (h : a.length ≤ 20 ∧ ∀ r ∈ a, r.length ≤ 20) : a.length ≤ 1000 ∧ ∀ r ∈ a, r.length ≤ 1000 := ⟨Nat.le_trans h.1 (by decide), fun r hr => Nat.le_trans (h.2 r hr) (by decide)⟩
theorem few20 {a : Mtx} (h : fewM a = true) : a.length ≤ 20 ∧ ∀ r ∈ a, r.length ≤ 20 := by
  obtain ⟨h1, h2⟩ := fewM_iff.1 h
  exact ⟨by omega, fun r hr => by have := h2 r hr; omega⟩
theorem Mat.one {D : FD} {B N cap : Nat} {w : World} {E2 : TypeId} {sa : Option Addr} {b : Option Nat} {u : Value} {r : List Int} (h : Own D B N w E2 (.slice sa 1 cap) b [u]) (hE : E2 ≠ D.T) (hr : Row D B w.heap.size w u (zints r)) : Mat D B w.heap.size w sa cap [r] :=
  ⟨[u], rfl, h.row hE, fun j v r' hv hr' => by
    match j with
    | 0 => simp at hv hr'; subst hv; subst hr'; exact hr
    | j + 1 => simp at hv⟩
theorem Mat.two {D : FD} {B N cap : Nat} {w : World} {E2 : TypeId} {sa : Option Addr} {b : Option Nat} {u v : Value} {r s : List Int} (h : Own D B N w E2 (.slice sa 2 cap) b [u, v]) (hE : E2 ≠ D.T) (hr : Row D B w.heap.size w u (zints r)) (hs : Row D B w.heap.size w v (zints s)) : Mat D B w.heap.size w sa cap [r, s] :=
  ⟨[u, v], rfl, h.row hE, fun j v' r' hv hr' => by
    match j with
    | 0 => simp at hv hr'; subst hv; subst hr'; exact hr
    | 1 => simp at hv hr'; subst hv; subst hr'; exact hs
    | j + 2 => simp at hv⟩
theorem errV_some {α : Type} (x : α) : errV (some x) = 0 := rfl
theorem errV_none {α : Type} : errV (none : Option α) = 1 := rfl
/-- Two rows that have no block in common. -/
def Dj (b c : Option Nat) : Prop := ∀ k, b = some k → c ≠ some k
theorem Dj.nil (c : Option Nat) : Dj none c := fun k h => by cases h
theorem Dj.symm {b c : Option Nat} (h : Dj b c) : Dj c b := fun k h1 h2 => h k h2 h1
theorem Dj.app {b b' c : Option Nat} {n m : Nat} (hb : b' = b ∨ b' = some n) (h : Dj b c) (hl : ∀ k, c = some k → m ≤ k ∧ k < n) : Dj b' c := by
  intro k h1 h2
  rcases hb with rfl | rfl
  · exact h k h1 h2
  · obtain rfl := Option.some.inj h1
    have := (hl n h2).2
    omega
/-- Bytes as numbers: from place h on, i of them; the sums of two halves. -/
def zpart (v : List Nat) (h i : Nat) : List Int := (List.range i).map fun j => ((v.getD (h + j) 0 : Nat) : Int)
def zsum (v : List Nat) (h i : Nat) : List Int := (List.range i).map fun j => ((v.getD j 0 ^^^ v.getD (h + j) 0 : Nat) : Int)
theorem zpart_snoc {v : List Nat} {h i x : Nat} (hx : v[h + i]? = some x) : zpart v h (i + 1) = zpart v h i ++ [(x : Int)] := by
  unfold zpart; rw [List.range_succ, List.map_append]; simp [List.getD_eq_getElem?_getD, hx]
theorem zsum_snoc {v : List Nat} {h i x y : Nat} (hx : v[i]? = some x) (hy : v[h + i]? = some y) : zsum v h (i + 1) = zsum v h i ++ [((x ^^^ y : Nat) : Int)] := by
  unfold zsum; rw [List.range_succ, List.map_append]; simp [List.getD_eq_getElem?_getD, hx, hy]
theorem zpart_length (v : List Nat) (h i : Nat) : (zpart v h i).length = i := by simp [zpart]
theorem zsum_length (v : List Nat) (h i : Nat) : (zsum v h i).length = i := by simp [zsum]
theorem zpart_lt {v : List Nat} (hv : ∀ x ∈ v, x < 256) (h i : Nat) : ∀ z ∈ zpart v h i, 0 ≤ z ∧ z < ((2 ^ 8 : Nat) : Int) := by
  intro z hz
  obtain ⟨j, _, rfl⟩ := List.mem_map.1 hz
  have : v.getD (h + j) 0 < 256 := by
    rw [List.getD_eq_getElem?_getD]
    cases hx : v[h + j]? with
    | none => simp
    | some x => exact hv x (List.mem_of_getElem? hx)
  exact ⟨by omega, by omega⟩
theorem zsum_at {v : List Nat} {h i n : Nat} (hi : i < n) : (zsum v h n)[i]? = some ((((zpart v 0 n).getD i 0).toNat ^^^ ((zpart v h n).getD i 0).toNat : Nat) : Int) := by
  unfold zsum zpart
  simp [hi, List.getD_eq_getElem?_getD]
/-- Rows that are picked by bytes. -/
def zmods (v : List Nat) (n i : Nat) : List Int := ((v.take i).map fun x => ((x % n : Nat) : Int))
theorem zmods_snoc {v : List Nat} {n i x : Nat} (hx : v[i]? = some x) : zmods v n (i + 1) = zmods v n i ++ [((x % n : Nat) : Int)] := map_snoc hx
theorem zmods_lt {v : List Nat} {n i : Nat} (hn : 1 ≤ n) : ∀ z ∈ zmods v n i, 0 ≤ z ∧ z < (n : Int) := by
  intro z hz
  obtain ⟨x, _, rfl⟩ := List.mem_map.1 hz
  have := Nat.mod_lt x hn
  exact ⟨by omega, by omega⟩
theorem apply_len {o : Fq} {a : Mtx} {x m : List Int} (h : applyM o a x = some m) : m.length = a.length := by
  have h2 := (mulM_one (applyM_mul.1 h)).1
  rw [colM_length] at h2; exact h2
theorem pick_odd {o : Fq} {a : Mtx} (h : fewM a = true) (h0 : a ≠ []) (l : List Int) : pickM o (a ++ [List.replicate 11 0]) l = none := pickM_f (.inl (mayM_odd h h0))
theorem join_odd {o : Fq} {a : Mtx} (h : fewM a = true) : joinM o a (a ++ [List.replicate 11 0]) = none := by
  by_cases h0 : a = []
  · subst h0; exact joinM_f (.inl rfl)
  · exact joinM_f (.inr (.inl (mayM_odd h h0)))
theorem odd_lens {a : Mtx} (h : fewM a = true) : (a ++ [List.replicate 11 0]).length ≤ maxLen ∧ ∀ r ∈ a ++ [List.replicate 11 0], r.length ≤ maxLen := by
  have h1 := few20 h
  refine ⟨Nat.le_trans (show _ ≤ 1000 by simp; omega) (by decide), fun r hr => Nat.le_trans (show _ ≤ 1000 from ?_) (by decide)⟩
  rcases List.mem_append.1 hr with hr | hr
  · have := h1.2 r hr; omega
  · obtain rfl : r = List.replicate 11 0 := by simpa using hr
    simp
theorem identM_zero {n : Int} : (identM n).length = 0 ↔ n < 1 ∨ 20 < n := by
  unfold identM
  split
  · rw [idM_len]; omega
  · simp; omega
end
end Go.Gam
