/- Arguments opened: matrices, arrays of matrices. No program in sight. -/
import Derived.Test.YtcnlooajjnghaaaGreatGOpen
import Derived.Test.YtcnlooajjnghaaaGreatGMat
set_option linter.unusedVariables false
set_option linter.unusedSimpArgs false
namespace Go.Gam
open Go Go.ChangeShapes Go.WideShapes Go.ChangeAt Go.RowKit

section
variable {H : Type} {enc : TypeId × Value → H} {P : Program} {w : World} {base : Nat} {held : Bool} {D : FD}

theorem rows_mat {B M cap : Nat} {sa : Option Addr} {vals : List Value} {zss : List (List Int)} (hr : Row D B M w (.slice sa vals.length cap) vals) (h : RowsV D B M w vals (zss.map fun zs => zs.map (Value.int .i64))) :
    vals.length = zss.length ∧ Mat D B M w sa cap zss := by
  have hl : vals.length = zss.length := by have := h.1; simpa using this
  refine ⟨hl, vals, hl, by rw [← hl]; exact hr, fun j v r hv hz => h.2 j v _ hv ?_⟩
  rw [List.getElem?_map, hz]; rfl
/-- One argument that is a matrix. -/
def MatArg (D : FD) (w : World) (v : Value) : Prop := ∃ sa cap, ∃ a : Mtx, v = .slice sa a.length cap ∧ Mat D w.heap.size w.heap.size w sa cap a ∧ a.length ≤ maxLen ∧ ∀ r ∈ a, r.length ≤ maxLen
theorem mat_c {t e q : TypeId} {fuel : Nat} {v : Value} {x : DataW H × List MemPlace} (ht : P.underlying t = some (.slice e)) (he : P.underlying e = some (.slice q)) (hq : P.underlying q = some (.int .i64)) (ce : P.cellsOf e = 1) (cq : P.cellsOf q = 1)
    (h : DataW.trod enc P w base (fun _ => true) held fuel t [v] = some x) : MatArg D w v := by
  obtain ⟨sa, cap, vals, zss, h1, h2, h3, h4, h5⟩ := rows_c (D := D) ht he hq ce cq h
  subst h1
  obtain ⟨hl, hm⟩ := rows_mat h2 h3
  exact ⟨sa, cap, zss, by rw [hl], hm, by omega, fun r hr => (h4 r hr).2⟩
theorem open_mat {r : Reach} {b0 : Nat} {t e q : TypeId} {v : Value} {d : DataW H} {ps : List MemPlace} (ht : P.underlying t = some (.slice e)) (he : P.underlying e = some (.slice q)) (hq : P.underlying q = some (.int .i64)) (ce : P.cellsOf e = 1) (cq : P.cellsOf q = 1)
    (hval : Value.okWide P w r b0 t v) (hd : DataW.Trod enc P w base (fun _ => true) held t v d ps) : MatArg D w v := by
  obtain ⟨fuel, hf⟩ := hd
  rw [slice_cells ht hval] at hf
  exact mat_c ht he hq ce cq hf
/-- An array of values of one cell each. -/
theorem open_arrV {r : Reach} {b0 : Nat} {t e : TypeId} {n : Nat} {v : Value} {d : DataW H} {ps : List MemPlace} (Q : Value → Prop) (ht : P.underlying t = some (.array n e)) (hc : P.cellsOf e = 1) (hn : P.cellsOf t = n)
    (hQ : ∀ fuel u x, DataW.trod enc P w base (fun _ => true) held fuel e [u] = some x → Q u)
    (hval : Value.okWide P w r b0 t v) (hd : DataW.Trod enc P w base (fun _ => true) held t v d ps) :
    ∃ l : List Value, v = .agg l.toArray ∧ l.length = n ∧ ∀ u ∈ l, Q u := by
  obtain ⟨cs, rfl, hsz, _⟩ : ∃ cs, v = .agg cs ∧ cs.size = P.cellsOf t ∧ Row.okWide P w r b0 t cs := by
    simpa [Value.okWide, ht] using hval
  obtain ⟨fuel, hf⟩ := hd
  obtain ⟨ys, m, _, _, _, hl, hel⟩ := DataW.trod_array ht hf
  obtain ⟨l⟩ := cs
  have hsz' : l.length = n := by rw [hn] at hsz; simpa using hsz
  refine ⟨l, rfl, hsz', fun u hu => ?_⟩
  obtain ⟨i, hi, rfl⟩ := List.getElem_of_mem hu
  have hy := hel i (by omega)
  have hi' : i < ys.length := by omega
  rw [List.getElem?_eq_getElem hi'] at hy
  have e2 : ((Value.agg l.toArray).cells.toList.drop (i * P.cellsOf e)).take (P.cellsOf e) = [l[i]] := by
    show (l.drop (i * P.cellsOf e)).take (P.cellsOf e) = [l[i]]
    rw [hc, Nat.mul_one, List.drop_eq_getElem_cons hi]
    rfl
  rw [e2] at hy
  exact hQ _ _ _ hy
theorem twoV {xs : List Value} {Q : Value → Prop} (h : xs.length = 2) (hq : ∀ x ∈ xs, Q x) : ∃ a b, xs = [a, b] ∧ Q a ∧ Q b := by
  match xs, h with | [a, b], _ => exact ⟨a, b, rfl, hq a (by simp), hq b (by simp)⟩
end
end Go.Gam
