/- Records and rows of records: values that are built, blocks of a walk's own. No program in sight. -/
import Derived.Test.YtkoiolamnnmokaaDoorGRec
import Derived.Laws.Tables
set_option linter.unusedVariables false
set_option linter.unusedSimpArgs false
set_option linter.unusedSectionVars false
namespace Go.Gam
open Px

/-- The parts of a value that is built. -/
def evP (F : Fs) : List (Nat × Operand) → Option (List (Nat × Value))
  | [] => some []
  | (i, x) :: r => match ev F x with
    | none => none
    | some v => match evP F r with
      | none => none
      | some l => some ((i, v) :: l)
theorem evP_reads {F : Fs} {ρ : Operand → Value} (h : Reads F ρ) : ∀ (ps : List (Nat × Operand)) (vs : List (Nat × Value)), evP F ps = some vs → ps.map (fun x => (x.1, ρ x.2)) = vs
  | [], vs, e => by simp [evP] at e; simp [e]
  | (i, x) :: r, vs, e => by
    unfold evP at e
    cases hx : ev F x with
    | none => rw [hx] at e; cases e
    | some v =>
      rw [hx] at e
      dsimp only at e
      cases hr : evP F r with
      | none => rw [hr] at e; cases e
      | some l =>
        rw [hr] at e
        obtain rfl := Option.some.inj e
        rw [List.map_cons, evP_reads h r l hr, h x v hx]
/-- A record of a walk's own, in a block of its own. -/
structure RecB (D : FD) (B N : Nat) (w : World) (g : Nat) (E : TypeId) (cs : List Value) : Prop where
  blk : Blk w g E cs
  low : N ≤ g
  base : B ≤ g
  priv : Priv D B w g
  ty : E ≠ D.T
section
variable {D : FD} {B N g : Nat} {w w' : World} {E : TypeId} {cs : List Value}
theorem RecB.st (h : RecB D B N w g E cs) (hs : St D B w w') : RecB D B N w' g E cs := ⟨h.blk.st h.ty hs, h.low, h.base, hs.ext.priv g (heap_lt h.blk) h.priv, h.ty⟩
theorem RecB.mb {b : Option Nat} (h : RecB D B N w g E cs) (hm : Mb D B b w w') (hb : b ≠ some g) : RecB D B N w' g E cs := ⟨h.blk.mb hm hb, h.low, h.base, hm.priv h.priv, h.ty⟩
theorem RecB.ne_own {N' : Nat} {E' : TypeId} {u : Value} {b : Option Nat} {xs : List Value} (h : RecB D B N w g E cs) (ho : Own D B N' w E' u b xs) (hE : E ≠ E') : b ≠ some g := Blk.ne_own h.blk ho hE
theorem RecB.kc (h : RecB D B N w g E cs) (i : Nat) {v : Value} (hv : nth cs i = some v) : KC D B w ⟨g, i, none⟩ v := h.blk.kc h.ty i hv
theorem RecB.le {N' : Nat} (h : RecB D B N w g E cs) (hN : N' ≤ N) : RecB D B N' w g E cs := ⟨h.blk, Nat.le_trans hN h.low, h.base, h.priv, h.ty⟩
end
section
variable {P : Program} {ops : Array Oper} {K : Kont} {rest : List Oper} {n : NN} {F : Fs} {T : TypeId} {pp : String} {af : Array Edge} {v : Value} {d : Nat} {a : Act} {w : World} {x y : Operand} {D : FD} {B : Nat}
theorem v_build {t : TypeId} {ps : List (Nat × Operand)} {vs : List (Nat × Value)} {cs : Array Value} (hv : evP F ps = some vs) (h : P.built t vs = some cs) : Val P (.build t ps.toArray) T F w (.agg cs) :=
  fun ρ hr d p af g => by
    have e := evP_reads hr ps vs hv
    have := run_build (P := P) w t vs.toArray cs (by simpa using h)
    simp only [execOp, List.map_toArray, e]
    simp [this]
theorem v_loadN {t E : TypeId} {g : Nat} {cs : List Value} {d' : TypeDesc} (hu : P.underlying t = some d') (hd : (match d' with | .struct _ | .array _ _ => true | _ => false) = true) (hi : (P.info? t).map (fun i => i.size) = some cs.length) (hx : ev F x = some (.pointer (some ⟨g, 0, none⟩))) (hb : Blk w g E cs) : Val P (.load t x) T F w (.agg cs.toArray) :=
  fun ρ h d p af g' => by
    have := run_loadVar_row (P := P) w g E t cs.toArray (0, 0) _ hb hu hd (by simpa using hi)
    simp only [execOp, h x _ hx, Instr.loadAt, Instr.sureAddr]
    simp [this]
theorem s_allocN {e : TypeId} {z : Value} (hF : Fr n F a) (hz : (P.info? e).map (fun i => i.zero) = some (some z)) (he : e ≠ D.T) (hI : Inv D B w) (hd : Nat.blt d n.n = true)
    (k : ∀ g w' a, Mb D B none w w' → Inv D B w' → RecB D B w.heap.size w' g e z.cells.toList → Fr n ((d, .pointer (some ⟨g, 0, none⟩)) :: F) a → WL P ops K rest a w') :
    WL P ops K (⟨some d, .alloc e, T, pp, af, none⟩ :: rest) a w := by
  cases hi : P.info? e with
  | none => rw [hi] at hz; cases hz
  | some i =>
    rw [hi] at hz
    have hz2 : i.zero = some z := by simpa using hz
    have hm := Mb.alloc D B w z.cells e (0, 0) he
    refine s_run (w' := w.alloc (.cells z.cells e)) hF (fun ρ h => ?_) hd fun a hF => k _ _ a hm (hm.inv hI) ⟨by unfold Blk; rw [Array.toArray_toList]; exact alloc_new w _, Nat.le_refl _, hI.1, hm.priv (hI.priv_new (Nat.le_refl _)), he⟩ hF
    simp [execOp, Instr.alloc, zeroValue, typeInfo, hi, hz2, newVar, newRow, newObj, Sem.run]
theorem s_storeN {t E : TypeId} {g N : Nat} {old : List Value} {cs : Array Value} (hF : Fr n F a) (hi : (P.info? t).map (fun i => i.size) = some cs.size) (hx : ev F x = some (.pointer (some ⟨g, 0, none⟩))) (hy : ev F y = some (.agg cs)) (h1 : cs.toList.all (·.oneCell') = true) (hl : old.length = cs.size) (hb : RecB D B N w g E old) (hI : Inv D B w)
    (k : ∀ w', Mb D B (some g) w w' → Inv D B w' → RecB D B N w' g E cs.toList → WL P ops K rest a w') : WL P ops K (⟨none, .store t x y, T, pp, af, none⟩ :: rest) a w := by
  have hg : w.heap[g]? = some (.cells old.toArray E (0, 0)) := hb.blk
  have hst := run_storeVar_row (P := P) w g E t old.toArray cs hg hi (by simpa using hl) (by simpa using h1)
  have hrun : (execOp a.eval ⟨none, .store t x y, T, pp, af, none⟩).run P w = .ok .skip (w.setRow g cs) := by
    simp only [execOp, hF.reads x _ hx, hF.reads y _ hy, Instr.storeAt, Instr.sureAddr]
    simp [hst]
  have hm := Mb.setRow (D := D) (B := B) (cs := cs) hg hb.ty hb.base hb.priv
  unfold WL wpList
  rw [if_pos (by simp [Region.wanted])]
  refine .inl ?_
  unfold Oper.wp
  rw [hrun]
  exact k _ hm (hm.inv hI) ⟨by unfold Blk; rw [Array.toArray_toList]; exact setRow_heap w g _ cs E _ hg, hb.low, hb.base, hm.priv hb.priv, hb.ty⟩
/-- A store into one field of a record. -/
theorem s_storeF {t E g N i : Nat} {cs : List Value} {u : Value} (hF : Fr n F a) (ht : One P t) (hx : ev F x = some (.pointer (some ⟨g, i, none⟩))) (hy : ev F y = some u) (hu : u.oneCell' = true) (hi : i < cs.length) (hb : RecB D B N w g E cs) (hI : Inv D B w)
    (k : ∀ w', Mb D B (some g) w w' → Inv D B w' → RecB D B N w' g E (cs.set i u) → WL P ops K rest a w') : WL P ops K (⟨none, .store t x y, T, pp, af, none⟩ :: rest) a w := by
  have hc : u.cells = #[u] := by cases u <;> first | rfl | simp [Value.oneCell'] at hu
  have hg : w.heap[g]? = some (.cells cs.toArray E (0, 0)) := hb.blk
  have hst := run_storeCells_at P g i E [u] 0 cs.toArray w hg (by simp; omega) (by simpa using hu)
  have hset : (cs.toArray.toList.take (i + 0) ++ [u] ++ cs.toArray.toList.drop (i + 0 + [u].length)).toArray = (cs.set i u).toArray := by
    apply Array.toList_inj.1
    simp only [List.toList_toArray]
    rw [List.set_eq_take_append_cons_drop, if_pos hi]
    simp
  rw [hset] at hst
  have hrun : (execOp a.eval ⟨none, .store t x y, T, pp, af, none⟩).run P w = .ok .skip (w.setRow g (cs.set i u).toArray) := by
    simp only [execOp, hF.reads x _ hx, hF.reads y _ hy, Instr.storeAt, Instr.sureAddr, storeVar, hc]
    simp [run_size1 ht, hst]
  have hm := Mb.setRow (D := D) (B := B) (cs := (cs.set i u).toArray) hg hb.ty hb.base hb.priv
  unfold WL wpList
  rw [if_pos (by simp [Region.wanted])]
  refine .inl ?_
  unfold Oper.wp
  rw [hrun]
  exact k _ hm (hm.inv hI) ⟨by unfold Blk; exact setRow_heap w g _ _ E _ hg, hb.low, hb.base, hm.priv hb.priv, hb.ty⟩
/-- A record of a row of records. -/
theorem v_indexR {t e s m : Nat} {i : Operand} {kd : IntKind} {I : Int} {cs : Array Value} {ds : TypeDesc} (ht : P.underlying t = some (.array m e)) (hs : (P.info? e).map (fun i => i.size) = some s) (hu : P.underlying e = some ds) (hd : (match ds with | .struct _ | .array _ _ => true | _ => false) = true)
    (hx : ev F x = some (.agg cs)) (hi : ev F i = some (.int kd I)) (h0 : 0 ≤ I) (hl : I < m) : Val P (.index t x i) T F w (.agg (cs.extract (I.toNat * s) (I.toNat * s + s))) :=
  fun ρ h d p af g => by
    cases hinf : P.info? e with
    | none => rw [hinf] at hs; cases hs
    | some inf =>
      rw [hinf] at hs
      have hs2 : inf.size = s := by simpa using hs
      have hagg : (isAgg e).run P w = .ok true w := by
        unfold isAgg
        rw [Sem.run_bind, run_underlying hu w]
        cases ds <;> simp_all
      simp [execOp, h x _ hx, h i _ hi, Instr.index, asIntOf, run_underlying ht, h0, hl, part, hagg, sizeOf, typeInfo, hinf, hs2]
end
/-! ### results that are read from cells -/
section
variable {P : Program}
theorem ld_rec {D : FD} {B N g : Nat} {w : World} {t E : TypeId} {cs : List Value} {d' : TypeDesc} (hu : P.underlying t = some d') (hd : (match d' with | .struct _ | .array _ _ => true | _ => false) = true) (hi : (P.info? t).map (fun i => i.size) = some cs.length) (hb : RecB D B N w g E cs) : (loadVar t ⟨g, 0, none⟩).run P w = .ok (.agg cs.toArray) w :=
  run_loadVar_row (P := P) w g E t cs.toArray (0, 0) _ hb.blk hu hd (by simpa using hi)
theorem ld_one {w : World} {t : TypeId} {ad : Addr} {v : Value} (hs : Scalar P t) (hc : w.cell? ad = some v) : (loadVar t ad).run P w = .ok v w := by
  unfold loadVar
  simp [run_isAgg hs, load, Sem.run, hc]
theorem enterC {w : World} {f : FuncId} {fn : Func} {c : Code} {vs : List Value} {Q : Value → World → Prop} (n : NN) (F : Fs) (t ty : Nat) (hf : P.funcs[f]? = some fn) (hb : fn.body = some c) (hn : n = ⟨fn.ntmps, []⟩) (hr : fn.results = #[.cell t ty]) (hle : Nat.ble vs.length n.n = true) (hF : F = idx vs 0)
    (h : ∀ a, Fr n F a → W P c (fun a w => ∃ F' g v, Fr n F' a ∧ look F' t = some (.pointer (some g)) ∧ (loadVar ty g).run P w = .ok v w ∧ Q v w) [] (fun a w => ∃ F' g v, Fr n F' a ∧ look F' t = some (.pointer (some g)) ∧ (loadVar ty g).run P w = .ok v w ∧ Q v w) a w) : Ret P f vs w Q := by
  refine enterG _ hf hb hn hle hF (fun a w ⟨F', g, v, hF', hl, hld, hq⟩ => ⟨by rw [hF'.defers, hn]; rfl, v, ?_, hq⟩) h
  have hv := hF'.val t _ hl
  simp [results, hr, Array.getD_eq_getD_getElem?, hv, asAddr, hld]
theorem enterCT {w : World} {f : FuncId} {fn : Func} {c : Code} {vs : List Value} {Q : Value → World → Prop} (n : NN) (F : Fs) (t ty s : Nat) (hf : P.funcs[f]? = some fn) (hb : fn.body = some c) (hn : n = ⟨fn.ntmps, []⟩) (hr : fn.results = #[.cell t ty, .tmp s]) (hle : Nat.ble vs.length n.n = true) (hF : F = idx vs 0)
    (h : ∀ a, Fr n F a → W P c (fun a w => ∃ F' g v u, Fr n F' a ∧ look F' t = some (.pointer (some g)) ∧ (loadVar ty g).run P w = .ok v w ∧ look F' s = some u ∧ Q (.tuple #[v, u]) w) [] (fun a w => ∃ F' g v u, Fr n F' a ∧ look F' t = some (.pointer (some g)) ∧ (loadVar ty g).run P w = .ok v w ∧ look F' s = some u ∧ Q (.tuple #[v, u]) w) a w) : Ret P f vs w Q := by
  refine enterG _ hf hb hn hle hF (fun a w ⟨F', g, v, u, hF', hl, hld, hm, hq⟩ => ⟨by rw [hF'.defers, hn]; rfl, _, ?_, hq⟩) h
  have hv := hF'.val t _ hl
  have hu := hF'.val s u hm
  simp [results, hr, Array.getD_eq_getD_getElem?, hv, hu, asAddr, hld]
theorem enterCC {w : World} {f : FuncId} {fn : Func} {c : Code} {vs : List Value} {Q : Value → World → Prop} (n : NN) (F : Fs) (t ty s sy : Nat) (hf : P.funcs[f]? = some fn) (hb : fn.body = some c) (hn : n = ⟨fn.ntmps, []⟩) (hr : fn.results = #[.cell t ty, .cell s sy]) (hle : Nat.ble vs.length n.n = true) (hF : F = idx vs 0)
    (h : ∀ a, Fr n F a → W P c (fun a w => ∃ F' g k v u, Fr n F' a ∧ look F' t = some (.pointer (some g)) ∧ (loadVar ty g).run P w = .ok v w ∧ look F' s = some (.pointer (some k)) ∧ (loadVar sy k).run P w = .ok u w ∧ Q (.tuple #[v, u]) w) [] (fun a w => ∃ F' g k v u, Fr n F' a ∧ look F' t = some (.pointer (some g)) ∧ (loadVar ty g).run P w = .ok v w ∧ look F' s = some (.pointer (some k)) ∧ (loadVar sy k).run P w = .ok u w ∧ Q (.tuple #[v, u]) w) a w) : Ret P f vs w Q := by
  refine enterG _ hf hb hn hle hF (fun a w ⟨F', g, k, v, u, hF', hl, hld, hm, hlm, hq⟩ => ⟨by rw [hF'.defers, hn]; rfl, _, ?_, hq⟩) h
  have hv := hF'.val t _ hl
  have hu := hF'.val s _ hm
  simp [results, hr, Array.getD_eq_getD_getElem?, hv, hu, asAddr, hld, hlm]
end
end Go.Gam
