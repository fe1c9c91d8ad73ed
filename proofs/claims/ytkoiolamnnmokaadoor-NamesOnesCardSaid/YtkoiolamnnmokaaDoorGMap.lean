/- A map of numbers to true, of a walk's own. No program in sight. -/
import Derived.Test.YtkoiolamnnmokaaDoorGRec
import Derived.MapKept
set_option linter.unusedVariables false
set_option linter.unusedSimpArgs false
set_option linter.unusedSectionVars false
namespace Go.Gam
open Px
open Go.MapKept (run_checkKey run_findKey IsKey)
open Go.RowKit (run_makeMap)

def mesF : List Int → Nat → List MapEntry
  | [], _ => []
  | x :: r, i => { key := .int .i64 x, val := .bool true, born := i } :: mesF r (i + 1)
def mes (l : List Int) : Array MapEntry := (mesF l 0).toArray
theorem mesF_snoc (x : Int) : ∀ (l : List Int) (i : Nat), mesF (l ++ [x]) i = mesF l i ++ [{ key := .int .i64 x, val := .bool true, born := i + l.length }]
  | [], _ => rfl
  | y :: r, i => by
    show _ :: mesF (r ++ [x]) (i + 1) = _
    rw [mesF_snoc x r (i + 1)]
    show _ = _ :: (_ ++ _)
    rw [List.length_cons, show i + 1 + r.length = i + (r.length + 1) by omega]
theorem mes_snoc (x : Int) (l : List Int) : mes (l ++ [x]) = (mes l).push { key := .int .i64 x, val := .bool true, born := l.length } := by
  unfold mes
  rw [mesF_snoc, Nat.zero_add, List.push_toArray]
theorem findNow_mes {kd : IntKind} (k : Int) : ∀ (l : List Int) (b i : Nat), (k ∈ l → ∃ j, Instr.findNow (.int kd) (.int .i64 k) (mesF l b) i = some (some (j, .bool true))) ∧ (k ∉ l → Instr.findNow (.int kd) (.int .i64 k) (mesF l b) i = some none)
  | [], _, _ => ⟨fun h => by simp at h, fun _ => rfl⟩
  | x :: r, b, i => by
    obtain ⟨h1, h2⟩ := findNow_mes (kd := kd) k r (b + 1) (i + 1)
    by_cases e : k = x
    · subst e
      exact ⟨fun _ => ⟨i, by simp [mesF, Instr.findNow, Instr.sameNow]⟩, fun h => by simp at h⟩
    · have eb : (k == x) = false := beq_eq_false_iff_ne.2 e
      refine ⟨fun h => ?_, fun h => ?_⟩
      · obtain ⟨j, hj⟩ := h1 (by simpa [e] using h)
        exact ⟨j, by simp [mesF, Instr.findNow, Instr.sameNow, eb, hj]⟩
      · have := h2 (fun c => h (by simp [c]))
        simp [mesF, Instr.findNow, Instr.sameNow, eb, this]
/-- A map at l of its own: these numbers, each with true. -/
structure MapB (D : FD) (B N : Nat) (w : World) (l : Nat) (ks : List Int) : Prop where
  obj : w.heap[l]? = some (.map (mes ks) ks.length)
  low : N ≤ l
  base : B ≤ l
  priv : Priv D B w l
section
variable {D : FD} {B N l : Nat} {w w' : World} {ks : List Int}
theorem MapB.notT (h : MapB D B N w l ks) : notT D w l := fun c fr e => by rw [h.obj] at e; cases e
theorem MapB.st (h : MapB D B N w l ks) (hs : St D B w w') : MapB D B N w' l ks := ⟨(hs.ext.keep l (heap_lt h.obj) (.inr h.notT)).trans h.obj, h.low, h.base, hs.ext.priv l (heap_lt h.obj) h.priv⟩
theorem MapB.mb {b : Option Nat} (h : MapB D B N w l ks) (hm : Mb D B b w w') (hb : b ≠ some l) : MapB D B N w' l ks := ⟨(hm.keep l (heap_lt h.obj) (Ne.symm hb)).trans h.obj, h.low, h.base, hm.priv h.priv⟩
theorem MapB.le {N' : Nat} (h : MapB D B N w l ks) (hN : N' ≤ N) : MapB D B N' w l ks := ⟨h.obj, Nat.le_trans hN h.low, h.base, h.priv⟩
theorem MapB.ne_own {N' : Nat} {E' : TypeId} {u : Value} {b : Option Nat} {xs : List Value} (h : MapB D B N w l ks) (ho : Own D B N' w E' u b xs) (_ : True) : b ≠ some l := by
  intro e
  obtain ⟨c, e', fr, hk⟩ := ho.isrow l e
  rw [h.obj] at hk; cases hk
theorem Mb.allocM (D : FD) (B : Nat) (w : World) (es : Array MapEntry) (c : Nat) : Mb D B none w (w.alloc (.map es c)) := by
  refine ⟨rfl, rfl, rfl, by simp, fun k hk _ => ?_, fun k hk c' fr' hc => ?_, fun k e => by cases e⟩
  · exact RowKit.Below.heap_alloc w _ k hk
  · have : (w.heap.push (.map es c))[k]? = some (.cells c' D.T fr') := hc
    rw [Array.getElem?_push] at this
    split at this
    · cases this
    · rw [Array.getElem?_eq_none (by omega)] at this; cases this
end
section
variable {P : Program} {ops : Array Oper} {K : Kont} {rest : List Oper} {n : NN} {F : Fs} {T : TypeId} {pp : String} {af : Array Edge} {v : Value} {d : Nat} {a : Act} {w : World} {x y z : Operand} {D : FD} {B : Nat}
/-- A map type from numbers to Bools. -/
def MapT (P : Program) (t : TypeId) : Prop := ∃ kt et i, P.underlying t = some (.map kt et) ∧ P.underlying kt = some (.int .i64) ∧ P.info? et = some i ∧ i.zero = some (.bool false)
theorem mapT_of {P : Program} {t kt et : TypeId} (h : P.underlying t = some (.map kt et)) (hk : P.underlying kt = some (.int .i64)) (hz : (P.info? et).map (fun i => i.zero) = some (some (.bool false))) : MapT P t := by
  cases hi : P.info? et with
  | none => rw [hi] at hz; cases hz
  | some i => rw [hi] at hz; exact ⟨kt, et, i, h, hk, hi, by simpa using hz⟩
theorem s_mkmap {t : TypeId} (hF : Fr n F a) (hI : Inv D B w) (hd : Nat.blt d n.n = true)
    (k : ∀ g w' a, Mb D B none w w' → Inv D B w' → MapB D B w.heap.size w' g [] → Fr n ((d, .map (some g)) :: F) a → WL P ops K rest a w') :
    WL P ops K (⟨some d, .makeMap t none, T, pp, af, none⟩ :: rest) a w := by
  have hm := Mb.allocM D B w #[] 0
  refine s_run (w' := w.alloc (.map #[] 0)) hF (fun ρ h => ?_) hd fun a hF => k _ _ a hm (hm.inv hI) ⟨alloc_new w _, Nat.le_refl _, hI.1, hm.priv (hI.priv_new (Nat.le_refl _))⟩ hF
  have := run_makeMap (P := P) t w
  simp only [execOp]
  simp [this]
theorem v_look {t : TypeId} {N l : Nat} {k : Int} {ks : List Int} (ht : MapT P t) (hx : ev F x = some (.map (some l))) (hy : ev F y = some (.int .i64 k)) (hb : MapB D B N w l ks) : Val P (.lookup t x y false) T F w (.bool (decide (k ∈ ks))) :=
  fun ρ h d p af g => by
    obtain ⟨kt, et, i, h1, h2, h3, h4⟩ := ht
    obtain ⟨f1, f2⟩ := findNow_mes (kd := .i64) k ks 0 0
    have hck : (Instr.checkKey (mes ks).isEmpty 10000 kt (.int .i64 k)).run P w = .ok () w := run_checkKey h2 (k := .int .i64 k) (by simp [IsKey]) _ _
    have hg : (getObj l).run P w = .ok (.map (mes ks) ks.length) w := by simp [getObj, Sem.run, hb.obj]
    by_cases e : k ∈ ks
    · obtain ⟨j, hj⟩ := f1 e
      have hf := run_findKey (P := P) (w := w) h2 (l := (mes ks).toList) (by simpa [mes] using hj)
      simp [execOp, h x _ hx, h y _ hy, Instr.lookup, underlying, h1, program, Sem.run, hg, hck, hf, e]
    · have hf := run_findKey (P := P) (w := w) h2 (l := (mes ks).toList) (by simpa [mes] using f2 e)
      simp [execOp, h x _ hx, h y _ hy, Instr.lookup, underlying, h1, program, Sem.run, hg, hck, hf, e, zeroValue, typeInfo, h3, h4]
theorem s_mapput {t : TypeId} {N l : Nat} {k : Int} {ks : List Int} (hF : Fr n F a) (ht : MapT P t) (hx : ev F x = some (.map (some l))) (hy : ev F y = some (.int .i64 k)) (hz : ev F z = some (.bool true)) (hb : MapB D B N w l ks) (hk : k ∉ ks) (hI : Inv D B w)
    (kk : ∀ w', Mb D B (some l) w w' → Inv D B w' → MapB D B N w' l (ks ++ [k]) → WL P ops K rest a w') :
    WL P ops K (⟨none, .mapUpdate t x y z, T, pp, af, none⟩ :: rest) a w := by
  obtain ⟨kt, et, i, h1, h2, h3, h4⟩ := ht
  have hck : (Instr.checkKey false 10000 kt (.int .i64 k)).run P w = .ok () w := run_checkKey h2 (k := .int .i64 k) (by simp [IsKey]) _ _
  have hg : (getObj l).run P w = .ok (.map (mes ks) ks.length) w := by simp [getObj, Sem.run, hb.obj]
  have hf := run_findKey (P := P) (w := w) h2 (l := (mes ks).toList) (by simpa [mes] using (findNow_mes (kd := .i64) k ks 0 0).2 hk)
  have hst : (setObj l (.map ((mes ks).push { key := .int .i64 k, val := .bool true, born := ks.length }) (ks.length + 1))).run P w = .ok () { w with heap := w.heap.setIfInBounds l (.map ((mes ks).push { key := .int .i64 k, val := .bool true, born := ks.length }) (ks.length + 1)) } := by simp [setObj, Sem.run, hb.obj]
  have hrun : (execOp a.eval ⟨none, .mapUpdate t x y z, T, pp, af, none⟩).run P w = .ok .skip { w with heap := w.heap.setIfInBounds l (.map ((mes ks).push { key := .int .i64 k, val := .bool true, born := ks.length }) (ks.length + 1)) } := by
    simp [execOp, hF.reads x _ hx, hF.reads y _ hy, hF.reads z _ hz, Instr.mapUpdate, underlying, h1, program, Sem.run, hg, hck, hf, hst]
  obtain ⟨hs1, hs2⟩ := Go.MapKept.heap_set (o' := .map ((mes ks).push { key := .int .i64 k, val := .bool true, born := ks.length }) (ks.length + 1)) hb.obj
  have hm : Mb D B (some l) w { w with heap := w.heap.setIfInBounds l (.map ((mes ks).push { key := .int .i64 k, val := .bool true, born := ks.length }) (ks.length + 1)) } := by
    refine ⟨rfl, rfl, rfl, by simp, fun k hk hne => hs2 k (fun e => hne (by rw [e])), fun k hk c fr e => ?_, fun k e => ?_⟩
    · have hk2 : (w.heap.setIfInBounds l (.map ((mes ks).push { key := .int .i64 k, val := .bool true, born := ks.length }) (ks.length + 1))).size ≤ k := by simpa using hk
      rw [show (w.heap.setIfInBounds l (.map ((mes ks).push _) (ks.length + 1)))[k]? = none from Array.getElem?_eq_none (by simpa using hk)] at e
      cases e
    · obtain rfl := Option.some.inj e
      refine ⟨heap_lt hb.obj, hb.base, hb.notT, ?_, hb.priv⟩
      intro c fr e
      have e2 := hs1.symm.trans e
      cases e2
  unfold WL wpList
  rw [if_pos (by simp [Region.wanted])]
  refine .inl ?_
  unfold Oper.wp
  rw [hrun]
  refine kk _ hm (hm.inv hI) ⟨?_, hb.low, hb.base, hm.priv hb.priv⟩
  rw [mes_snoc, List.length_append]
  exact hs1
end
end Go.Gam
