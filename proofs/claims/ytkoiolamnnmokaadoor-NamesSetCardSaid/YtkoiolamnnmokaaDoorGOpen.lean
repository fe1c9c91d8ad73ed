/- Arguments opened: rows, rows of rows. No program in sight. -/
import Derived.Test.YtkoiolamnnmokaaDoorGRow
import Derived.Test.YtkoiolamnnmokaaDoorGReg
import Derived.Deep.Matrix
set_option linter.unusedVariables false
set_option linter.unusedSimpArgs false
namespace Go.Gam
open Go Go.ChangeShapes Go.WideShapes Go.ChangeAt Go.RowKit

section
variable {H : Type} {enc : TypeId × Value → H} {P : Program} {w : World} {base : Nat} {held : Bool} {D : FD}

theorem cell_spot {w : World} {a : Addr} {v : Value} (h : w.cell? a = some v) : a = ⟨a.block, a.off, none⟩ ∧ a.block < w.heap.size := by
  unfold World.cell? at h
  split at h
  · rename_i c e fr hc
    split at h
    · cases h
    · rename_i hs
      obtain ⟨b, o, s⟩ := a
      cases s with
      | none => exact ⟨rfl, heap_lt hc⟩
      | some x => simp at hs
  · cases h

theorem row_mk {a : Addr} {len cap : Nat} {f : Nat → Value} (hl : len ≤ cap) (hc : ∀ i, i < cap → w.cell? (a.add i) = some (f i)) : Row D w.heap.size w.heap.size w (.slice (some a) len cap) ((List.range len).map f) := by
  by_cases h0 : len = 0
  · subst h0; exact .inl ⟨_, _, rfl, rfl⟩
  · have h1 := hc 0 (by omega)
    have e0 : a.add 0 = a := by simp [Addr.add]
    rw [e0] at h1
    obtain ⟨h2, h3⟩ := cell_spot h1
    refine .inr ⟨a.block, a.off, cap, by rw [← h2]; simp, by simpa using hl, h3, .inl h3, h3, fun i u hu => ?_⟩
    have hi := (List.getElem?_eq_some_iff.1 hu).1
    simp at hi
    have h4 := hc i (by omega)
    rw [h2, Addr.add_eq] at h4
    rw [h4]
    simp [hi] at hu
    rw [hu]

theorem zrow_c {t e : TypeId} {k : IntKind} {fuel : Nat} {v : Value} {x : DataW H × List MemPlace} (ht : P.underlying t = some (.slice e)) (he : P.underlying e = some (.int k)) (hc : P.cellsOf e = 1)
    (h : DataW.trod enc P w base (fun _ => true) held fuel t [v] = some x) :
    ∃ sa cap, ∃ zs : List Int, v = .slice sa zs.length cap ∧ Row D w.heap.size w.heap.size w v (zs.map (Value.int k)) ∧ (∀ z ∈ zs, (Lit.int k z).wf = true) ∧ zs.length ≤ maxLen := by
  rcases open_ints ht he hc h with ⟨hcs, _⟩ | ⟨a, len, cap, zs, hcs, _, hl, hm, hz, _, hcell, hwf⟩
  · obtain rfl : v = .slice none 0 0 := by simpa using hcs
    exact ⟨none, 0, [], rfl, .inl ⟨_, _, rfl, rfl⟩, by simp, by simp⟩
  · obtain rfl : v = .slice (some a) len cap := by simpa using hcs
    simp only [if_true] at hz
    have hlen : (zs.take len).length = len := by simp; omega
    refine ⟨some a, cap, zs.take len, by rw [hlen], ?_, fun z hz' => hwf z (List.mem_of_mem_take hz'), by rw [hlen]; omega⟩
    have := row_mk (D := D) (w := w) (a := a) (len := len) (cap := cap) (f := fun i => .int k (zs.getD i 0)) hl (fun i hi => hcell i (by omega))
    have e : (zs.take len).map (Value.int k) = (List.range len).map fun i => Value.int k (zs.getD i 0) := by
      apply List.ext_getElem
      · simp; omega
      · intro i h1 h2
        simp at h1 h2
        simp [List.getElem?_eq_getElem (show i < zs.length by omega)]
    rw [e]; exact this

theorem slice_cells {t e : TypeId} {r : Reach} {b0 : Nat} {v : Value} (ht : P.underlying t = some (.slice e)) (hval : Value.okWide P w r b0 t v) : v.cells.toList = [v] := by
  obtain ⟨a, len, cap, rfl⟩ := okWide_slice ht hval
  rfl

theorem open_zrow {r : Reach} {b0 : Nat} {t e : TypeId} {k : IntKind} {v : Value} {d : DataW H} {ps : List MemPlace} (ht : P.underlying t = some (.slice e)) (he : P.underlying e = some (.int k)) (hc : P.cellsOf e = 1)
    (hval : Value.okWide P w r b0 t v) (hd : DataW.Trod enc P w base (fun _ => true) held t v d ps) :
    ∃ sa cap, ∃ zs : List Int, v = .slice sa zs.length cap ∧ Row D w.heap.size w.heap.size w v (zs.map (Value.int k)) ∧ (∀ z ∈ zs, (Lit.int k z).wf = true) ∧ zs.length ≤ maxLen := by
  obtain ⟨fuel, hf⟩ := hd
  rw [slice_cells ht hval] at hf
  exact zrow_c ht he hc hf

theorem open_byt {r : Reach} {b0 : Nat} {t e : TypeId} {v : Value} {d : DataW H} {ps : List MemPlace} (ht : P.underlying t = some (.slice e)) (he : P.underlying e = some (.int .u8)) (hc : P.cellsOf e = 1)
    (hval : Value.okWide P w r b0 t v) (hd : DataW.Trod enc P w base (fun _ => true) held t v d ps) :
    ∃ sa cap, ∃ l : List Nat, v = .slice sa l.length cap ∧ Row D w.heap.size w.heap.size w v (byt l) ∧ (∀ x ∈ l, x < 256) ∧ l.length ≤ maxLen := by
  obtain ⟨sa, cap, zs, h1, h2, h3, h4⟩ := open_zrow (D := D) ht he hc hval hd
  have hb : ∀ z ∈ zs, 0 ≤ z ∧ z < 256 := fun z hz => by have := bounds_u8 (h3 z hz); omega
  have e : zs.map (Value.int .u8) = byt (zs.map Int.toNat) := by
    unfold byt
    rw [List.map_map]
    refine List.map_congr_left fun z hz => ?_
    have := hb z hz
    show Value.int .u8 z = Value.int .u8 ((z.toNat : Nat) : Int)
    congr 1; omega
  refine ⟨sa, cap, zs.map Int.toNat, by simpa using h1, by rw [← e]; exact h2, fun x hx => ?_, by simpa using h4⟩
  obtain ⟨z, hz, rfl⟩ := List.mem_map.1 hx
  have := hb z hz
  omega

theorem u16_list {zs : List Int} (h : ∀ z ∈ zs, (Lit.int .u16 z).wf = true) : ∃ l : List Nat, zs.map (Value.int .u16) = l.map (fun (n : Nat) => Value.int .u16 (n : Int)) ∧ l.length = zs.length ∧ ∀ x ∈ l, x < 65536 := by
  have hb : ∀ z ∈ zs, 0 ≤ z ∧ z < 65536 := fun z hz => by have := bounds_u16 (h z hz); omega
  refine ⟨zs.map Int.toNat, ?_, by simp, fun x hx => ?_⟩
  · rw [List.map_map]
    refine List.map_congr_left fun z hz => ?_
    have := hb z hz
    show Value.int .u16 z = Value.int .u16 ((z.toNat : Nat) : Int)
    congr 1; omega
  · obtain ⟨z, hz, rfl⟩ := List.mem_map.1 hx
    have := hb z hz
    omega

theorem open_u16 {r : Reach} {b0 : Nat} {t e : TypeId} {v : Value} {d : DataW H} {ps : List MemPlace} (ht : P.underlying t = some (.slice e)) (he : P.underlying e = some (.int .u16)) (hc : P.cellsOf e = 1)
    (hval : Value.okWide P w r b0 t v) (hd : DataW.Trod enc P w base (fun _ => true) held t v d ps) :
    ∃ sa cap, ∃ l : List Nat, v = .slice sa l.length cap ∧ Row D w.heap.size w.heap.size w v (u16s l) ∧ (∀ x ∈ l, x < 65536) ∧ l.length ≤ maxLen := by
  obtain ⟨sa, cap, zs, h1, h2, h3, h4⟩ := open_zrow (D := D) ht he hc hval hd
  obtain ⟨l, e1, e2, e3⟩ := u16_list h3
  exact ⟨sa, cap, l, by rw [e2]; exact h1, by unfold u16s; rw [← e1]; exact h2, e3, by omega⟩

/-- Rows of rows. -/
def RowsV (D : FD) (B M : Nat) (w : World) (vals : List Value) (xss : List (List Value)) : Prop := vals.length = xss.length ∧ ∀ (j : Nat) (v : Value) (xs : List Value), vals[j]? = some v → xss[j]? = some xs → Row D B M w v xs

theorem rows_c {t e q : TypeId} {k : IntKind} {fuel : Nat} {v : Value} {x : DataW H × List MemPlace} (ht : P.underlying t = some (.slice e)) (he : P.underlying e = some (.slice q)) (hq : P.underlying q = some (.int k)) (ce : P.cellsOf e = 1) (cq : P.cellsOf q = 1)
    (h : DataW.trod enc P w base (fun _ => true) held fuel t [v] = some x) :
    ∃ sa cap vals, ∃ zss : List (List Int), v = .slice sa vals.length cap ∧ Row D w.heap.size w.heap.size w v vals ∧ RowsV D w.heap.size w.heap.size w vals (zss.map fun zs => zs.map (Value.int k)) ∧ (∀ zs ∈ zss, (∀ z ∈ zs, (Lit.int k z).wf = true) ∧ zs.length ≤ maxLen) ∧ vals.length ≤ maxLen := by
  rcases Deep.open_int_rows ht he hq ce cq h with ⟨hcs, _⟩ | ⟨a, len, cap, A, L, C, Z, hcs, _, hl, hm, _, hr⟩
  · obtain rfl : v = .slice none 0 0 := by simpa using hcs
    exact ⟨none, 0, [], [], rfl, .inl ⟨_, _, rfl, rfl⟩, ⟨rfl, fun j v xs h => by simp at h⟩, by simp, by simp⟩
  · obtain rfl : v = .slice (some a) len cap := by simpa using hcs
    have hrow := row_mk (D := D) (w := w) (a := a) (len := len) (cap := cap) (f := fun r => .slice (A r) (L r) (C r)) hl (fun i hi => (hr i hi).1)
    have key : ∀ r, r < cap → Row D w.heap.size w.heap.size w (.slice (A r) (L r) (C r)) (((Z r).take (L r)).map (Value.int k)) ∧ (((Z r).take (L r)).length = L r) := by
      intro r hr0
      obtain ⟨_, h2, h3, h4, h5, h6, h7⟩ := hr r hr0
      have hlen : ((Z r).take (L r)).length = L r := by simp; omega
      refine ⟨?_, hlen⟩
      cases hA : A r with
      | none =>
        have := h6 hA
        have : L r = 0 := by omega
        exact .inl ⟨_, _, by rw [this], by apply List.eq_nil_of_length_eq_zero; simp [this]⟩
      | some a' =>
        obtain ⟨_, h8⟩ := h7 a' hA
        have := row_mk (D := D) (w := w) (a := a') (len := L r) (cap := C r) (f := fun i => .int k ((Z r).getD i 0)) h2 h8
        have e : ((Z r).take (L r)).map (Value.int k) = (List.range (L r)).map fun i => Value.int k ((Z r).getD i 0) := by
          apply List.ext_getElem
          · simp; omega
          · intro i h1 h2'
            simp at h1 h2'
            simp [List.getElem?_eq_getElem (show i < (Z r).length by omega)]
        rw [e]; exact this
    refine ⟨some a, cap, (List.range len).map fun r => .slice (A r) (L r) (C r), (List.range len).map fun r => (Z r).take (L r), by simp, hrow, ⟨by simp, fun j v xs hv hx => ?_⟩, fun zs hz => ?_, by simp; omega⟩
    · have hj := (List.getElem?_eq_some_iff.1 hv).1
      simp at hj
      simp [hj] at hv hx
      subst hv
      subst hx
      have := (key j (by omega)).1
      rw [List.map_take] at this
      exact this
    · obtain ⟨r, hr', rfl⟩ := List.mem_map.1 hz
      have hr0 := List.mem_range.1 hr'
      obtain ⟨_, h2, h3, h4, h5, h6, h7⟩ := hr r (by omega)
      exact ⟨fun z hz => h5 z (List.mem_of_mem_take hz), by rw [(key r (by omega)).2]; omega⟩

theorem open_rows {r : Reach} {b0 : Nat} {t e q : TypeId} {k : IntKind} {v : Value} {d : DataW H} {ps : List MemPlace} (ht : P.underlying t = some (.slice e)) (he : P.underlying e = some (.slice q)) (hq : P.underlying q = some (.int k)) (ce : P.cellsOf e = 1) (cq : P.cellsOf q = 1)
    (hval : Value.okWide P w r b0 t v) (hd : DataW.Trod enc P w base (fun _ => true) held t v d ps) :
    ∃ sa cap vals, ∃ zss : List (List Int), v = .slice sa vals.length cap ∧ Row D w.heap.size w.heap.size w v vals ∧ RowsV D w.heap.size w.heap.size w vals (zss.map fun zs => zs.map (Value.int k)) ∧ (∀ zs ∈ zss, (∀ z ∈ zs, (Lit.int k z).wf = true) ∧ zs.length ≤ maxLen) ∧ vals.length ≤ maxLen := by
  obtain ⟨fuel, hf⟩ := hd
  rw [slice_cells ht hval] at hf
  exact rows_c ht he hq ce cq hf

/-- Rows of bytes. -/
theorem rows_byt {B M : Nat} {vals : List Value} {zss : List (List Int)} (h : RowsV D B M w vals (zss.map fun zs => zs.map (Value.int .u8))) (hw : ∀ zs ∈ zss, (∀ z ∈ zs, (Lit.int .u8 z).wf = true) ∧ zs.length ≤ maxLen) :
    ∃ bss : List (List Nat), Rows2 D B M w vals bss ∧ (∀ b ∈ bss, ∀ x ∈ b, x < 256) ∧ ∀ b ∈ bss, b.length ≤ maxLen := by
  refine ⟨zss.map fun zs => zs.map Int.toNat, ⟨by simpa using h.1, fun j v bs hv hb => ?_⟩, fun b hb x hx => ?_, fun b hb => ?_⟩
  · rw [List.getElem?_map] at hb
    cases hz : zss[j]? with
    | none => rw [hz] at hb; cases hb
    | some zs =>
      rw [hz] at hb
      obtain rfl := Option.some.inj hb
      have := h.2 j v (zs.map (Value.int .u8)) hv (by rw [List.getElem?_map, hz]; rfl)
      have hb : ∀ z ∈ zs, 0 ≤ z ∧ z < 256 := fun z hz' => by have := bounds_u8 ((hw zs (List.mem_of_getElem? hz)).1 z hz'); omega
      have e : zs.map (Value.int .u8) = byt (zs.map Int.toNat) := by
        unfold byt
        rw [List.map_map]
        refine List.map_congr_left fun z hz => ?_
        have := hb z hz
        show Value.int .u8 z = Value.int .u8 ((z.toNat : Nat) : Int)
        congr 1; omega
      rw [e] at this
      exact this
  · obtain ⟨zs, hz, rfl⟩ := List.mem_map.1 hb
    obtain ⟨z, hz', rfl⟩ := List.mem_map.1 hx
    have := bounds_u8 ((hw zs hz).1 z hz')
    omega
  · obtain ⟨zs, hz, rfl⟩ := List.mem_map.1 hb
    simpa using (hw zs hz).2
end
end Go.Gam
