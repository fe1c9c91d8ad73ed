/- Texts of the claim ProfileAny (part 8), put together in the order of their imports. -/
import Derived.Test.YtkoiolamnnmokaaGreatKProfileAny7
import Derived.MapKept
import Derived.Laws.Tables
import Derived.Laws.BytesString
import Derived.Laws.StructEq
/- A map of numbers to true, of a walk's own. No program in sight. -/
set_option linter.unusedVariables false
set_option linter.unusedSimpArgs false
set_option linter.unusedSectionVars false
namespace Go.Gam
open Px
open Go.MapKept (run_checkKey run_findKey IsKey)
open Go.RowKit (run_makeMap)

def mesF : List Int → Nat → List MapEntry
  | [], _ => []
  | x :: r, i => { key := .int .i64 x, val := .bool true, born := i } :: mesF r (i + 1)
def mes (l : List Int) : Array MapEntry := (mesF l 0).toArray
theorem mesF_snoc (x : Int) : ∀ (l : List Int) (i : Nat), mesF (l ++ [x]) i = mesF l i ++ [{ key := .int .i64 x, val := .bool true, born := i + l.length }]
  | [], _ => rfl
  | y :: r, i => by
    show _ :: mesF (r ++ [x]) (i + 1) = _
    rw [mesF_snoc x r (i + 1)]
    show _ = _ :: (_ ++ _)
    rw [List.length_cons, show i + 1 + r.length = i + (r.length + 1) by omega]
theorem mes_snoc (x : Int) (l : List Int) : mes (l ++ [x]) = (mes l).push { key := .int .i64 x, val := .bool true, born := l.length } := by
  unfold mes
  rw [mesF_snoc, Nat.zero_add, List.push_toArray]
theorem findNow_mes {kd : IntKind} (k : Int) : ∀ (l : List Int) (b i : Nat), (k ∈ l → ∃ j, Instr.findNow (.int kd) (.int .i64 k) (mesF l b) i = some (some (j, .bool true))) ∧ (k ∉ l → Instr.findNow (.int kd) (.int .i64 k) (mesF l b) i = some none)
  | [], _, _ => ⟨fun h => by simp at h, fun _ => rfl⟩
  | x :: r, b, i => by
    obtain ⟨h1, h2⟩ := findNow_mes (kd := kd) k r (b + 1) (i + 1)
    by_cases e : k = x
    · subst e
      exact ⟨fun _ => ⟨i, by simp [mesF, Instr.findNow, Instr.sameNow]⟩, fun h => by simp at h⟩
    · have eb : (k == x) = false := beq_eq_false_iff_ne.2 e
      refine ⟨fun h => ?_, fun h => ?_⟩
      · obtain ⟨j, hj⟩ := h1 (by simpa [e] using h)
        exact ⟨j, by simp [mesF, Instr.findNow, Instr.sameNow, eb, hj]⟩
      · have := h2 (fun c => h (by simp [c]))
        simp [mesF, Instr.findNow, Instr.sameNow, eb, this]
/-- A map at l of its own: these numbers, each with true. -/
structure MapB (D : FD) (B N : Nat) (w : World) (l : Nat) (ks : List Int) : Prop where
  obj : w.heap[l]? = some (.map (mes ks) ks.length)
  low : N ≤ l
  base : B ≤ l
  priv : Priv D B w l
section
variable {D : FD} {B N l : Nat} {w w' : World} {ks : List Int}
theorem MapB.notT (h : MapB D B N w l ks) : notT D w l := fun c fr e => by rw [h.obj] at e; cases e
theorem MapB.st (h : MapB D B N w l ks) (hs : St D B w w') : MapB D B N w' l ks := ⟨(hs.ext.keep l (heap_lt h.obj) (.inr h.notT)).trans h.obj, h.low, h.base, hs.ext.priv l (heap_lt h.obj) h.priv⟩
theorem MapB.mb {b : Option Nat} (h : MapB D B N w l ks) (hm : Mb D B b w w') (hb : b ≠ some l) : MapB D B N w' l ks := ⟨(hm.keep l (heap_lt h.obj) (Ne.symm hb)).trans h.obj, h.low, h.base, hm.priv h.priv⟩
theorem MapB.le {N' : Nat} (h : MapB D B N w l ks) (hN : N' ≤ N) : MapB D B N' w l ks := ⟨h.obj, Nat.le_trans hN h.low, h.base, h.priv⟩
theorem MapB.ne_own {N' : Nat} {E' : TypeId} {u : Value} {b : Option Nat} {xs : List Value} (h : MapB D B N w l ks) (ho : Own D B N' w E' u b xs) (_ : True) : b ≠ some l := by
  intro e
  obtain ⟨c, e', fr, hk⟩ := ho.isrow l e
  rw [h.obj] at hk; cases hk
theorem Mb.allocM (D : FD) (B : Nat) (w : World) (es : Array MapEntry) (c : Nat) : Mb D B none w (w.alloc (.map es c)) := by
  refine ⟨rfl, rfl, rfl, by simp, fun k hk _ => ?_, fun k hk c' fr' hc => ?_, fun k e => by cases e⟩
  · exact RowKit.Below.heap_alloc w _ k hk
  · have : (w.heap.push (.map es c))[k]? = some (.cells c' D.T fr') := hc
    rw [Array.getElem?_push] at this
    split at this
    · cases this
    · rw [Array.getElem?_eq_none (by omega)] at this; cases this
end
section
variable {P : Program} {ops : Array Oper} {K : Kont} {rest : List Oper} {n : NN} {F : Fs} {T : TypeId} {pp : String} {af : Array Edge} {v : Value} {d : Nat} {a : Act} {w : World} {x y z : Operand} {D : FD} {B : Nat}
/-- A map type from numbers to Bools. -/
def MapT (P : Program) (t : TypeId) : Prop := ∃ kt et i, P.underlying t = some (.map kt et) ∧ P.underlying kt = some (.int .i64) ∧ P.info? et = some i ∧ i.zero = some (.bool false)
theorem mapT_of {P : Program} {t kt et : TypeId} (h : P.underlying t = some (.map kt et)) (hk : P.underlying kt = some (.int .i64)) (hz : (P.info? et).map (fun i => i.zero) = some (some (.bool false))) : MapT P t := by
  cases hi : P.info? et with
  | none => rw [hi] at hz; cases hz
  | some i => rw [hi] at hz; exact ⟨kt, et, i, h, hk, hi, by simpa using hz⟩
theorem s_mkmap {t : TypeId} (hF : Fr n F a) (hI : Inv D B w) (hd : Nat.blt d n.n = true)
    (k : ∀ g w' a, Mb D B none w w' → Inv D B w' → MapB D B w.heap.size w' g [] → Fr n ((d, .map (some g)) :: F) a → WL P ops K rest a w') :
    WL P ops K (⟨some d, .makeMap t none, T, pp, af, none⟩ :: rest) a w := by
  have hm := Mb.allocM D B w #[] 0
  refine s_run (w' := w.alloc (.map #[] 0)) hF (fun ρ h => ?_) hd fun a hF => k _ _ a hm (hm.inv hI) ⟨alloc_new w _, Nat.le_refl _, hI.1, hm.priv (hI.priv_new (Nat.le_refl _))⟩ hF
  have := run_makeMap (P := P) t w
  simp only [execOp]
  simp [this]
theorem v_look {t : TypeId} {N l : Nat} {k : Int} {ks : List Int} (ht : MapT P t) (hx : ev F x = some (.map (some l))) (hy : ev F y = some (.int .i64 k)) (hb : MapB D B N w l ks) : Val P (.lookup t x y false) T F w (.bool (decide (k ∈ ks))) :=
  fun ρ h d p af g => by
    obtain ⟨kt, et, i, h1, h2, h3, h4⟩ := ht
    obtain ⟨f1, f2⟩ := findNow_mes (kd := .i64) k ks 0 0
    have hck : (Instr.checkKey (mes ks).isEmpty 10000 kt (.int .i64 k)).run P w = .ok () w := run_checkKey h2 (k := .int .i64 k) (by simp [IsKey]) _ _
    have hg : (getObj l).run P w = .ok (.map (mes ks) ks.length) w := by simp [getObj, Sem.run, hb.obj]
    by_cases e : k ∈ ks
    · obtain ⟨j, hj⟩ := f1 e
      have hf := run_findKey (P := P) (w := w) h2 (l := (mes ks).toList) (by simpa [mes] using hj)
      simp [execOp, h x _ hx, h y _ hy, Instr.lookup, underlying, h1, program, Sem.run, hg, hck, hf, e]
    · have hf := run_findKey (P := P) (w := w) h2 (l := (mes ks).toList) (by simpa [mes] using f2 e)
      simp [execOp, h x _ hx, h y _ hy, Instr.lookup, underlying, h1, program, Sem.run, hg, hck, hf, e, zeroValue, typeInfo, h3, h4]
theorem s_mapput {t : TypeId} {N l : Nat} {k : Int} {ks : List Int} (hF : Fr n F a) (ht : MapT P t) (hx : ev F x = some (.map (some l))) (hy : ev F y = some (.int .i64 k)) (hz : ev F z = some (.bool true)) (hb : MapB D B N w l ks) (hk : k ∉ ks) (hI : Inv D B w)
    (kk : ∀ w', Mb D B (some l) w w' → Inv D B w' → MapB D B N w' l (ks ++ [k]) → WL P ops K rest a w') :
    WL P ops K (⟨none, .mapUpdate t x y z, T, pp, af, none⟩ :: rest) a w := by
  obtain ⟨kt, et, i, h1, h2, h3, h4⟩ := ht
  have hck : (Instr.checkKey false 10000 kt (.int .i64 k)).run P w = .ok () w := run_checkKey h2 (k := .int .i64 k) (by simp [IsKey]) _ _
  have hg : (getObj l).run P w = .ok (.map (mes ks) ks.length) w := by simp [getObj, Sem.run, hb.obj]
  have hf := run_findKey (P := P) (w := w) h2 (l := (mes ks).toList) (by simpa [mes] using (findNow_mes (kd := .i64) k ks 0 0).2 hk)
  have hst : (setObj l (.map ((mes ks).push { key := .int .i64 k, val := .bool true, born := ks.length }) (ks.length + 1))).run P w = .ok () { w with heap := w.heap.setIfInBounds l (.map ((mes ks).push { key := .int .i64 k, val := .bool true, born := ks.length }) (ks.length + 1)) } := by simp [setObj, Sem.run, hb.obj]
  have hrun : (execOp a.eval ⟨none, .mapUpdate t x y z, T, pp, af, none⟩).run P w = .ok .skip { w with heap := w.heap.setIfInBounds l (.map ((mes ks).push { key := .int .i64 k, val := .bool true, born := ks.length }) (ks.length + 1)) } := by
    simp [execOp, hF.reads x _ hx, hF.reads y _ hy, hF.reads z _ hz, Instr.mapUpdate, underlying, h1, program, Sem.run, hg, hck, hf, hst]
  obtain ⟨hs1, hs2⟩ := Go.MapKept.heap_set (o' := .map ((mes ks).push { key := .int .i64 k, val := .bool true, born := ks.length }) (ks.length + 1)) hb.obj
  have hm : Mb D B (some l) w { w with heap := w.heap.setIfInBounds l (.map ((mes ks).push { key := .int .i64 k, val := .bool true, born := ks.length }) (ks.length + 1)) } := by
    refine ⟨rfl, rfl, rfl, by simp, fun k hk hne => hs2 k (fun e => hne (by rw [e])), fun k hk c fr e => ?_, fun k e => ?_⟩
    · have hk2 : (w.heap.setIfInBounds l (.map ((mes ks).push { key := .int .i64 k, val := .bool true, born := ks.length }) (ks.length + 1))).size ≤ k := by simpa using hk
      rw [show (w.heap.setIfInBounds l (.map ((mes ks).push _) (ks.length + 1)))[k]? = none from Array.getElem?_eq_none (by simpa using hk)] at e
      cases e
    · obtain rfl := Option.some.inj e
      refine ⟨heap_lt hb.obj, hb.base, hb.notT, ?_, hb.priv⟩
      intro c fr e
      have e2 := hs1.symm.trans e
      cases e2
  unfold WL wpList
  rw [if_pos (by simp [Region.wanted])]
  refine .inl ?_
  unfold Oper.wp
  rw [hrun]
  refine kk _ hm (hm.inv hI) ⟨?_, hb.low, hb.base, hm.priv hb.priv⟩
  rw [mes_snoc, List.length_append]
  exact hs1
end
end Go.Gam

/- The plain laws of layer 7. No program in sight. -/
set_option linter.unusedVariables false
set_option linter.unusedSimpArgs false
set_option linter.unusedSectionVars false
namespace Go.Gam
open Px

theorem fitB_ok {o : Fq} (ho : o.isSome = true) {k m : Nat} (h1 : 1 ≤ k) (h2 : 1 ≤ m) (h3 : k + m ≤ 20) : fitB o (k : Int) (m : Int) = true := fitB_iff.2 ⟨ho, by omega, by omega, by omega, by omega, by omega⟩
section
variable {wb p : Nat} (hp : Prm wb p)
variable {k m : Nat} (hk : 1 ≤ k) (hm : 1 ≤ m) (h20 : k + m ≤ 20)
include hk hm h20
end
end Go.Gam

/- Numbers in a row; minors; rows of inverses. No program in sight. -/
set_option linter.unusedVariables false
set_option linter.unusedSimpArgs false
set_option linter.unusedSectionVars false
namespace Go.Gam
open Px

/-- Numbers from fr on, the first i of them laid. -/
def rnT (fr i : Nat) : Tb := fun _ j => if j < i then fr + j else 0
theorem rn_zero {fr many : Nat} : List.replicate many (Value.int .i64 0) = zints (trow many (rnT fr 0) 0) := by
  apply List.ext_getElem?
  intro j
  by_cases hj : j < many
  · rw [zints_at (trow_at hj)]; simp [hj, rnT]
  · rw [List.getElem?_eq_none (by simp; omega), List.getElem?_eq_none (by simp [zints]; omega)]
theorem rn_step {fr i l : Nat} : rnT fr (i + 1) 0 l = if l = i then fr + i else rnT fr i 0 l := by
  unfold rnT
  by_cases e : l = i
  · rw [if_pos e, if_pos (by omega), e]
  · rw [if_neg e]
    by_cases h : l < i
    · rw [if_pos h, if_pos (by omega)]
    · rw [if_neg h, if_neg (by omega)]
theorem rn_end {fr many : Nat} : zints ((List.range many).map fun j => ((fr + j : Nat) : Int)) = zints (trow many (rnT fr many) 0) := by
  congr 1
  refine List.map_congr_left fun j hj => ?_
  unfold rnT; rw [if_pos (List.mem_range.1 hj)]
/-! ### rows of inverses -/
section
variable {wb p : Nat} (hp : Prm wb p)
def ofB (wb : Nat) (x y : List Int) : Bool := decide (1 ≤ x.length ∧ x.length ≤ 20 ∧ 1 ≤ y.length ∧ y.length ≤ 20) && unl (x ++ y) ((2 ^ wb : Nat) : Int)
def ofT (x y : List Int) : Tb := fun i j => hp.fld.inv ((x.getD i 0).toNat ^^^ (y.getD j 0).toNat)
def ofM (x y : List Int) : Option Mtx := if ofB wb x y = true then some (tab x.length y.length (ofT hp x y)) else none
theorem ofM_no {x y : List Int} (h : ofB wb x y = false) : ofM hp x y = none := by unfold ofM; rw [h]; rfl
theorem ofM_is {x y : List Int} (h : ofB wb x y = true) : ofM hp x y = some (tab x.length y.length (ofT hp x y)) := by unfold ofM; rw [if_pos h]
theorem ofB_len {wb : Nat} {x y : List Int} (h : ¬ (1 ≤ x.length ∧ x.length ≤ 20 ∧ 1 ≤ y.length ∧ y.length ≤ 20)) : ofB wb x y = false := by unfold ofB; rw [decide_eq_false h]; rfl
theorem ofB_bad {wb : Nat} {x y : List Int} {i : Nat} {a : Int} (ha : (x ++ y)[i]? = some a) (h : a < 0 ∨ ((2 ^ wb : Nat) : Int) ≤ a ∨ a ∈ (x ++ y).take i) : ofB wb x y = false := by
  unfold ofB
  rw [unl_no, Bool.and_false]
  rintro ⟨h1, h2⟩
  have := h2 a (List.mem_of_getElem? ha)
  rcases h with h | h | h
  · omega
  · omega
  · obtain ⟨j, hj⟩ := List.getElem?_of_mem h
    rw [List.getElem?_take] at hj
    split at hj
    · exact nodup_no (by assumption) ha hj h1
    · cases hj
theorem ofB_ok {wb : Nat} {x y : List Int} (h : 1 ≤ x.length ∧ x.length ≤ 20 ∧ 1 ≤ y.length ∧ y.length ≤ 20) (h1 : (x ++ y).Nodup) (h2 : ∀ z ∈ x ++ y, 0 ≤ z ∧ z < ((2 ^ wb : Nat) : Int)) : ofB wb x y = true := by
  unfold ofB unl
  rw [decide_eq_true h, decide_eq_true ⟨h1, h2⟩]; rfl
theorem ofT_at {x y : List Int} {i j a b : Nat} (ha : x[i]? = some (a : Int)) (hb : y[j]? = some (b : Int)) : ofT hp x y i j = hp.fld.inv (a ^^^ b) := by
  unfold ofT
  rw [List.getD_eq_getElem?_getD, List.getD_eq_getElem?_getD, ha, hb]; rfl
theorem of_cell {wb : Nat} {x y : List Int} {i j : Nat} (h1 : (x ++ y).Nodup) (h2 : ∀ z ∈ x ++ y, 0 ≤ z ∧ z < ((2 ^ wb : Nat) : Int)) (hi : i < x.length) (hj : j < y.length) :
    ∃ a b : Nat, x[i]? = some (a : Int) ∧ y[j]? = some (b : Int) ∧ a < 2 ^ wb ∧ b < 2 ^ wb ∧ a ^^^ b < 2 ^ wb ∧ a ^^^ b ≠ 0 := by
  have hx := List.getElem?_eq_getElem hi
  have hy := List.getElem?_eq_getElem hj
  have b1 := h2 x[i] (List.mem_append_left _ (List.getElem_mem hi))
  have b2 := h2 y[j] (List.mem_append_right _ (List.getElem_mem hj))
  refine ⟨x[i].toNat, y[j].toNat, by rw [hx, Int.toNat_of_nonneg b1.1], by rw [hy, Int.toNat_of_nonneg b2.1], by omega, by omega, Px.xor_lt (by omega) (by omega), fun e => ?_⟩
  have e2 := Px.xor_eq_zero e
  have e3 : x[i] = y[j] := by omega
  exact (List.nodup_append.1 h1).2.2 x[i] (List.getElem_mem hi) y[j] (List.getElem_mem hj) e3
/-- Numbers in a row, from fr on. -/
def rnL (fr many : Nat) : List Int := (List.range many).map fun j => ((fr + j : Nat) : Int)
theorem rnL_length (fr many : Nat) : (rnL fr many).length = many := by simp [rnL]
def origM (k m : Int) : Option Mtx := if fitB (some (wb, p)) k m = true then ofM hp (rnL 0 m.toNat) (rnL m.toNat k.toNat) else none
def cisaM (k m : Int) : Option Mtx := if fitB (some (wb, p)) k m = true then ofM hp (rnL k.toNat m.toNat) (rnL 0 k.toNat) else none
theorem origM_no {k m : Int} (h : fitB (some (wb, p)) k m = false) : origM hp k m = none := by unfold origM; rw [h]; rfl
theorem cisaM_no {k m : Int} (h : fitB (some (wb, p)) k m = false) : cisaM hp k m = none := by unfold cisaM; rw [h]; rfl
theorem fitB_not {k m : Int} (h : ¬ (1 ≤ k ∧ 1 ≤ m ∧ k + m ≤ 20)) : fitB (some (wb, p)) k m = false := by
  rw [Bool.eq_false_iff, Ne, fitB_iff]; omega
end
end Go.Gam

/- The walks of package cauchy: numbers in a row, minors. -/
set_option linter.unusedVariables false
set_option linter.unusedSimpArgs false
namespace Go.Proofs.YtkoiolamnnmokaaGreat
open Go Go.Gam


namespace FxFCau
theorem on3 : Gam.One Tryz.prog 3 := by unfold Gam.One; kernel_rfl
theorem sl53 : Sl Tryz.prog 53 3 (.int .i64 0) 8 := sl_of Tryz.underlying53 rfl (by kernel_rfl)
end FxFCau
open FxFCau

set_option maxRecDepth 100000 in
set_option maxHeartbeats 1000000 in
theorem cwithin_ok (n : Int) (w : World) : Ret Tryz.prog 52 [.int .i64 n] w fun v w' => v = .bool (decide (1 ≤ n ∧ n ≤ 20)) ∧ w' = w := by
 refine enter 9 [(0, .int .i64 n)] 2 Tryz.func52 rfl rfl rfl rfl rfl ?_; intro a hF
 refine W_sr rfl (fun K hK => ?_)
 refine sv hF (v_assign rfl) rfl ?_; clear hF a; intro a hF
 refine WL_nil (hK _ _ ?_)
 clear hK K
 refine W_sr rfl (fun K hK => ?_)
 refine sv hF (v_move rfl) rfl ?_; clear hF a; intro a hF
 refine sb hF (v_geq rfl rfl) rfl ?_ ?_
 ·
  clear hF a; intro hc1 a hF
  try simp only [dcl] at hc1
  refine sv hF (v_move rfl) rfl ?_; clear hF a; intro a hF
  refine svg hF rfl ?_
  refine sv hF (v_move rfl) rfl ?_; clear hF a; intro a hF
  refine svg hF rfl ?_
  refine sv hF (v_leq rfl rfl) rfl ?_; clear hF a; intro a hF
  refine sv2 hF (v_pickT rfl rfl) (v_assign rfl) rfl rfl ?_; clear hF a; intro a hF
  refine WL_nil (hK _ _ ?_)
  clear hK K
  replace hF := hF.sub _ (c_ 2 rfl (n_))
  refine W_ret ?_
  refine ⟨_, _, hF, rfl, ?_⟩
  refine ⟨congrArg Value.bool ?_, rfl⟩
  first | (symm; rw [decide_eq_false_iff_not]; omega) | (rw [decide_eq_decide]; omega)
 ·
  clear hF a; intro hc1 a hF
  try simp only [dcl] at hc1
  refine sv hF (v_move rfl) rfl ?_; clear hF a; intro a hF
  refine svn hF rfl rfl rfl ?_; clear hF a; intro a hF
  refine svn hF rfl rfl rfl ?_; clear hF a; intro a hF
  refine sv2 hF (v_pickF rfl rfl) (v_assign rfl) rfl rfl ?_; clear hF a; intro a hF
  refine WL_nil (hK _ _ ?_)
  clear hK K
  replace hF := hF.sub _ (c_ 2 rfl (n_))
  refine W_ret ?_
  refine ⟨_, _, hF, rfl, ?_⟩
  refine ⟨congrArg Value.bool ?_, rfl⟩
  first | (symm; rw [decide_eq_false_iff_not]; omega) | (rw [decide_eq_decide]; omega)

set_option maxRecDepth 100000 in
set_option maxHeartbeats 1000000 in
theorem run_ok (B fr many : Nat) (w : World) (hI : Inv FDx B w) (hm : fr ≤ 1000 ∧ many ≤ 1000) : Ret Tryz.prog 54 [.int .i64 (fr : Int), .int .i64 (many : Int)] w fun v w' => ∃ gl, v = .slice (some ⟨gl, 0, none⟩) many many ∧ Gam.Own FDx B w.heap.size w' FDx.E v (some gl) (zints ((List.range many).map fun j => ((fr + j : Nat) : Int))) ∧ St FDx B w w' := by
 refine enter 22 [(0, .int .i64 (fr : Int)), (1, .int .i64 (many : Int))] 4 Tryz.func54 rfl rfl rfl rfl rfl ?_; intro a hF
 have hS := St.refl hI
 refine W_sr rfl (fun K hK => ?_)
 refine sv hF (v_assign rfl) rfl ?_; clear hF a; intro a hF
 refine WL_nil (hK _ _ ?_)
 clear hK K
 refine W_sr rfl (fun K hK => ?_)
 refine sv hF (v_move rfl) rfl ?_; clear hF a; intro a hF
 obtain ⟨gl, hgl⟩ : ∃ g, g = w.heap.size := ⟨_, rfl⟩
 refine s_mk (D := FDx) (B := B) (m := many) hF sl53 rfl rfl (by simp) (by omega) (by simp only [maxLen]; omega) (by decide) hS.inv rfl ?_; clear hF a; intro w' a hm hI' hO hF
 replace hS := hS.mb0 hm
 clear hm hI'
 rw [← hgl] at hO hF
 replace hO := (hO.le (show w.heap.size ≤ gl by omega)).cast (ys := zints (trow many (rnT fr (0)) 0)) rn_zero
 refine sv hF (v_assign rfl) rfl ?_; clear hF a; intro a hF
 refine WL_nil (hK _ _ ?_)
 clear hK K
 replace hF := hF.sub _ (c_ 5 rfl (c_ 4 rfl (c_ 0 rfl (n_))))
 refine W_seq ?_
 refine W_sr rfl (fun K hK => ?_)
 refine sv hF (v_move rfl) rfl ?_; clear hF a; intro a hF
 refine sv hF (v_lenS rfl sl53 rfl) rfl ?_; clear hF a; intro a hF
 refine sv hF (v_move rfl) rfl ?_; clear hF a; intro a hF
 refine WL_nil (hK _ _ ?_)
 clear hK K
 replace hF := hF.sub _ (c_ 11 rfl (c_ 10 rfl (c_ 5 rfl (c_ 4 rfl (c_ 0 rfl (n_))))))
 refine W_block ?_
 refine W_loop (fun q a w1 => ∃ (i : Nat), Fr 22 [(0, .int .i64 (fr : Int)), (5, .slice (some ⟨gl, 0, none⟩) many many), (10, .int .i64 (many : Int)), (11, .int .i64 (i : Int))] a ∧ (St FDx B w w1) ∧ (Gam.Own FDx B w.heap.size w1 FDx.E (.slice (some ⟨gl, 0, none⟩) many many) (some gl) (zints (trow many (rnT fr (i)) 0))) ∧ (i ≤ many) ∧ (q + i = many)) (many) ?_ ?_
 ·
  skip
  exact ⟨0, hF.sub _ (c_ 0 rfl (c_ 5 rfl (c_ 10 rfl (c_ 11 rfl (n_))))), hS, hO, by omega, by omega⟩
 ·
  skip
  clear hF
  clear hS hO
  rintro q a w1 ⟨i, hF, hS, hO, hi, hq⟩
  refine W_sr rfl (fun K hK => ?_)
  refine sv hF (v_lss rfl rfl) rfl ?_; clear hF a; intro a hF
  refine WL_nil (hK _ _ ?_)
  clear hK K
  refine W_seq ?_
  refine W_if hF rfl (fun hc1 => ?_) (fun hc1 => ?_)
  ·
   skip
   try simp only [dcl] at hc1
   have hlt : i < many := by omega
   refine W_skip ?_
   refine W_seq ?_
   refine W_block ?_
   refine W_sr rfl (fun K hK => ?_)
   refine sv2 hF (v_move rfl) (v_assign rfl) rfl rfl ?_; clear hF a; intro a hF
   refine WL_nil (hK _ _ ?_)
   clear hK K
   replace hF := hF.sub _ (c_ 6 rfl (c_ 0 rfl (c_ 5 rfl (c_ 10 rfl (c_ 11 rfl (n_))))))
   refine W_reg rfl (fun K hK => ?_)
   refine sv4 hF (v_move rfl) (v_move rfl) (v_move rfl) (v_move rfl) rfl rfl rfl rfl ?_; clear hF a; intro a hF
   refine sv hF ((v_addI rfl rfl (by omega)).as (show Value.int .i64 ((fr : Int) + (i : Int)) = .int .i64 ((fr + i : Nat) : Int) by simp)) rfl ?_; clear hF a; intro a hF
   refine sv hF (v_ixS sl53 rfl rfl (by omega) (by omega)) rfl ?_; clear hF a; intro a hF
   refine s_set (D := FDx) (B := B) hF on3 rfl (by rw [toNat_c]; simp [zints]; omega) rfl rfl hO (by decide) hS.inv ?_; intro w' hm hI' ho'
   replace hS := hS.mb hm (fun k h => Nat.le_trans (Nat.le_refl _) (hO.lt k h).1)
   replace hO := ho'
   clear hm hI' ho'
   rw [toNat_c, Nat.zero_add, zints_set, trow_set (g := rnT fr (i + 1)) (fun l hl => rn_step)] at hO
   refine WL_nil (hK _ _ ?_)
   clear hK K
   replace hF := hF.sub _ (c_ 0 rfl (c_ 5 rfl (c_ 10 rfl (c_ 11 rfl (n_)))))
   refine W_reg rfl (fun K hK => ?_)
   refine sv hF (v_addI rfl rfl (by omega)) rfl ?_; clear hF a; intro a hF
   refine sv hF (v_move rfl) rfl ?_; clear hF a; intro a hF
   refine WL_nil (hK _ _ ?_)
   clear hK K
   exact ⟨q - 1, by omega, i + 1, hF.sub _ (c_ 0 rfl (c_ 5 rfl (c_ 10 rfl (c_ 11 rfl (n_))))), hS, hO, by omega, by omega⟩
  ·
   skip
   try simp only [dcl] at hc1
   refine W_exit rfl ?_
   refine W_sr rfl (fun K hK => ?_)
   refine sv2 hF (v_move rfl) (v_assign rfl) rfl rfl ?_; clear hF a; intro a hF
   refine WL_nil (hK _ _ ?_)
   clear hK K
   replace hF := hF.sub _ (c_ 4 rfl (c_ 21 rfl (c_ 0 rfl (c_ 5 rfl (c_ 10 rfl (c_ 11 rfl (n_)))))))
   refine W_ret ?_
   refine ⟨_, _, hF, rfl, ?_⟩
   obtain rfl : i = many := by omega
   exact ⟨_, rfl, hO.cast rn_end.symm, hS⟩

end Go.Proofs.YtkoiolamnnmokaaGreat

/- The walk of package cauchy: rows of inverses. -/
set_option linter.unusedVariables false
set_option linter.unusedSimpArgs false
namespace Go.Proofs.YtkoiolamnnmokaaGreat
open Go Go.Gam


namespace FxFCau2
theorem en49 : Ent Tryz.prog 49 := ent Tryz.func49 (by kernel_rfl) (by kernel_rfl)
theorem en52 : Ent Tryz.prog 52 := ent Tryz.func52 (by kernel_rfl) (by kernel_rfl)
theorem en53 : Ent Tryz.prog 53 := ent Tryz.func53 (by kernel_rfl) (by kernel_rfl)
theorem en54 : Ent Tryz.prog 54 := ent Tryz.func54 (by kernel_rfl) (by kernel_rfl)
theorem en75 : Ent Tryz.prog 75 := ent Tryz.func75 (by kernel_rfl) (by kernel_rfl)
theorem en76 : Ent Tryz.prog 76 := ent Tryz.func76 (by kernel_rfl) (by kernel_rfl)
theorem mt126 : MapT Tryz.prog 126 := mapT_of Tryz.underlying126 Tryz.underlying3 (by kernel_rfl)
theorem sc3 : Scalar Tryz.prog 3 := ⟨_, Tryz.underlying3, by simp, by simp⟩
theorem sl35 : Sl Tryz.prog 35 53 (.slice none 0 0) 24 := sl_of Tryz.underlying35 rfl (by kernel_rfl)
theorem sl36 : Sl Tryz.prog 36 53 (.slice none 0 0) 24 := sl_of Tryz.underlying36 rfl (by kernel_rfl)
theorem sl53 : Sl Tryz.prog 53 3 (.int .i64 0) 8 := sl_of Tryz.underlying53 rfl (by kernel_rfl)
end FxFCau2
open FxFCau2

set_option maxRecDepth 100000 in
set_option maxHeartbeats 1000000 in
theorem Of_ok (B M wb p : Nat) (hp : Prm wb p) (fv : Value) (px py : Option Addr) (cx cy : Nat) (x y : List Int) (w : World) (hI : Inv FDx B w) (hM : M ≤ w.heap.size) (hf : Fo FDx B w fv (some (wb, p))) (hx : Row FDx B M w (.slice px x.length cx) (zints x)) (hy : Row FDx B M w (.slice py y.length cy) (zints y)) (hl : x.length ≤ maxLen ∧ y.length ≤ maxLen) : Ret Tryz.prog 53 [fv, .slice px x.length cx, .slice py y.length cy] w fun v w' => ∃ ob u, v = .tuple #[u, .int .i64 (errV (ofM hp x y))] ∧ MOwn FDx B w.heap.size 0 w'.heap.size w' 53 u ob ((ofM hp x y).getD []) ∧ St FDx B w w' := by
 refine enter2 86 [(0, fv), (1, .slice px x.length cx), (2, .slice py y.length cy)] 6 7 Tryz.func53 rfl rfl rfl rfl rfl ?_; intro a hF
 have hS := St.refl hI
 have hl2 := hl
 simp only [maxLen] at hl2
 have h16 : 2 ^ wb ≤ 65536 := by rcases hp.w with h | h <;> rw [h] <;> decide
 refine W_sr rfl (fun K hK => ?_)
 refine sv2 hF (v_assign rfl) (v_assign rfl) rfl rfl ?_; clear hF a; intro a hF
 refine WL_nil (hK _ _ ?_)
 clear hK K
 refine W_seq ?_
 refine W_sr rfl (fun K hK => ?_)
 refine sv hF (v_move rfl) rfl ?_; clear hF a; intro a hF
 refine sv hF (v_lenS rfl sl53 rfl) rfl ?_; clear hF a; intro a hF
 refine sc hF rfl rfl rfl en52 rfl (cwithin_ok _ _) ?_; clear hF a; intro v w' a hv hF
 obtain ⟨rfl, hw⟩ := hv
 obtain rfl := hw.symm
 have hS' := St.refl hS.inv
 replace hf := hf.st hS'
 replace hx := hx.st hS'
 replace hy := hy.st hS'
 replace hS := hS.trans hS'
 clear hS'
 refine sb hF (v_not rfl) rfl ?_ ?_
 ·
  clear hF a; intro hc1 a hF
  try simp only [dcl] at hc1
  refine sv hF (v_move rfl) rfl ?_; clear hF a; intro a hF
  refine svn hF rfl rfl rfl ?_; clear hF a; intro a hF
  refine svn hF rfl rfl rfl ?_; clear hF a; intro a hF
  refine svn hF rfl rfl rfl ?_; clear hF a; intro a hF
  refine svn hF rfl rfl rfl ?_; clear hF a; intro a hF
  refine sv hF (v_pickT rfl rfl) rfl ?_; clear hF a; intro a hF
  refine WL_nil (hK _ _ ?_)
  clear hK K
  replace hF := hF.sub _ (c_ 28 rfl (c_ 7 rfl (c_ 6 rfl (c_ 0 rfl (c_ 1 rfl (c_ 2 rfl (n_)))))))
  refine W_ifT hF rfl ?_
  refine W_sr rfl (fun K hK => ?_)
  refine sv2 hF (v_assign rfl) (v_assign rfl) rfl rfl ?_; clear hF a; intro a hF
  refine WL_nil (hK _ _ ?_)
  clear hK K
  replace hF := hF.sub _ (c_ 7 rfl (c_ 6 rfl (c_ 0 rfl (c_ 1 rfl (c_ 2 rfl (n_))))))
  refine W_ret ?_
  refine ⟨_, _, _, hF, rfl, rfl, ?_⟩
  rw [ofM_no hp (ofB_len (by omega))]
  exact ⟨none, _, rfl, MOwn.nil _ _ _ _ _ _ _ (Nat.zero_le _), hS⟩
 ·
  clear hF a; intro hc1 a hF
  try simp only [dcl] at hc1
  refine sv hF (v_move rfl) rfl ?_; clear hF a; intro a hF
  refine svg hF rfl ?_
  refine sv hF (v_move rfl) rfl ?_; clear hF a; intro a hF
  refine svg hF rfl ?_
  refine sv hF (v_lenS rfl sl53 rfl) rfl ?_; clear hF a; intro a hF
  refine svg hF rfl ?_
  refine sc hF rfl rfl rfl en52 rfl (cwithin_ok _ _) ?_; clear hF a; intro v w' a hv hF
  obtain ⟨rfl, hw⟩ := hv
  obtain rfl := hw.symm
  have hS' := St.refl hS.inv
  replace hf := hf.st hS'
  replace hx := hx.st hS'
  replace hy := hy.st hS'
  replace hS := hS.trans hS'
  clear hS'
  refine svg hF rfl ?_
  refine sv hF (v_not rfl) rfl ?_; clear hF a; intro a hF
  refine sv hF (v_pickF rfl rfl) rfl ?_; clear hF a; intro a hF
  refine WL_nil (hK _ _ ?_)
  clear hK K
  replace hF := hF.sub _ (c_ 28 rfl (c_ 7 rfl (c_ 6 rfl (c_ 0 rfl (c_ 1 rfl (c_ 2 rfl (n_)))))))
  refine W_if hF rfl (fun hc2 => ?_) (fun hc2 => ?_)
  ·
   skip
   try simp only [dcl] at hc2
   refine W_sr rfl (fun K hK => ?_)
   refine sv2 hF (v_assign rfl) (v_assign rfl) rfl rfl ?_; clear hF a; intro a hF
   refine WL_nil (hK _ _ ?_)
   clear hK K
   replace hF := hF.sub _ (c_ 7 rfl (c_ 6 rfl (c_ 0 rfl (c_ 1 rfl (c_ 2 rfl (n_))))))
   refine W_ret ?_
   refine ⟨_, _, _, hF, rfl, rfl, ?_⟩
   rw [ofM_no hp (ofB_len (by omega))]
   exact ⟨none, _, rfl, MOwn.nil _ _ _ _ _ _ _ (Nat.zero_le _), hS⟩
  ·
   skip
   try simp only [dcl] at hc2
   refine W_skip ?_
   have hln : 1 ≤ x.length ∧ x.length ≤ 20 ∧ 1 ≤ y.length ∧ y.length ≤ 20 := by omega
   refine W_sr rfl (fun K hK => ?_)
   have hs0 := hS.ext.size
   refine s_mkmap (D := FDx) (B := B) hF hS.inv rfl ?_; clear hF a; intro gl w' a hm hI' hmp hF
   replace hf := hf.mb hm
   replace hx := hx.mb hm (fun _ h => by cases h)
   replace hy := hy.mb hm (fun _ h => by cases h)
   replace hS := hS.mb0 hm
   clear hm hI'
   replace hmp := hmp.le hs0
   clear hs0
   refine sv hF (v_assign rfl) rfl ?_; clear hF a; intro a hF
   refine WL_nil (hK _ _ ?_)
   clear hK K
   replace hF := hF.sub _ (c_ 8 rfl (c_ 7 rfl (c_ 6 rfl (c_ 0 rfl (c_ 1 rfl (c_ 2 rfl (n_)))))))
   refine W_seq ?_
   refine W_sr rfl (fun K hK => ?_)
   refine sv2 hF (v_move rfl) (v_move rfl) rfl rfl ?_; clear hF a; intro a hF
   refine s_bs (D := FDx) (B := B) hF sl35 rfl rfl (by decide) (by simp [Value.cells]) (by decide) hS.inv rfl ?_; clear hF a; intro w' a hm hI' hL hF
   replace hf := hf.mb hm
   replace hx := hx.mb hm (fun _ h => by cases h)
   replace hy := hy.mb hm (fun _ h => by cases h)
   replace hmp := hmp.mb hm (by simp)
   replace hS := hS.mb0 hm
   clear hm hI'
   refine sc hF rfl rfl rfl en76 rfl (Concat_ok B _ _ _ [x, y] _ hS.inv (Mat.two hL (by decide) (hx.mono (Nat.le_trans hM hS.ext.size)) (hy.mono (Nat.le_trans hM hS.ext.size))) (Nat.le_refl _) (by simp) (by intro r hr; simp at hr; rcases hr with rfl | rfl <;> omega)) ?_; clear hF a; intro v w' a hv hF
   obtain ⟨ob, hC, hS'⟩ := hv
   replace hC := (hC.le hS.ext.size).cast (congrArg zints (show ([x, y] : Mtx).flatten = x ++ y by simp))
   obtain ⟨gL, cL, rfl, rfl⟩ := hC.ptr (by simp; omega)
   rw [zints_length, List.length_append] at hC hF
   clear hL
   replace hf := hf.st hS'
   replace hx := hx.st hS'
   replace hy := hy.st hS'
   replace hmp := hmp.st hS'
   replace hS := hS.trans hS'
   clear hS'
   refine sv hF (v_lenS rfl sl53 rfl) rfl ?_; clear hF a; intro a hF
   refine sv hF (v_move rfl) rfl ?_; clear hF a; intro a hF
   refine WL_nil (hK _ _ ?_)
   clear hK K
   replace hF := hF.sub _ (c_ 35 rfl (c_ 34 rfl (c_ 33 rfl (c_ 8 rfl (c_ 7 rfl (c_ 6 rfl (c_ 0 rfl (c_ 1 rfl (c_ 2 rfl (n_))))))))))
   refine W_block ?_
   refine W_loop (fun q a w1 => ∃ (i : Nat), Fr 86 [(0, fv), (1, .slice px x.length cx), (2, .slice py y.length cy), (8, .map (some gl)), (33, .slice (some ⟨gL, 0, none⟩) (x.length + y.length) cL), (34, .int .i64 ((x.length + y.length : Nat) : Int)), (35, .int .i64 (i : Int))] a ∧ (St FDx B w w1) ∧ (Fo FDx B w1 fv (some (wb, p))) ∧ (Row FDx B M w1 (.slice px x.length cx) (zints x)) ∧ (Row FDx B M w1 (.slice py y.length cy) (zints y)) ∧ (Gam.Own FDx B w.heap.size w1 FDx.E (.slice (some ⟨gL, 0, none⟩) (x.length + y.length) cL) (some gL) (zints (x ++ y))) ∧ (MapB FDx B w.heap.size w1 gl ((x ++ y).take i)) ∧ (((x ++ y).take i).Nodup) ∧ (∀ z ∈ (x ++ y).take i, 0 ≤ z ∧ z < ((2 ^ wb : Nat) : Int)) ∧ (i ≤ x.length + y.length) ∧ (q + i = x.length + y.length)) (x.length + y.length) ?_ ?_
   ·
    skip
    exact ⟨0, hF.sub _ (c_ 0 rfl (c_ 1 rfl (c_ 2 rfl (c_ 8 rfl (c_ 33 rfl (c_ 34 rfl (c_ 35 rfl (n_)))))))), hS, hf, hx, hy, hC, hmp, List.nodup_nil, (fun z hz => by simp at hz), by omega, by omega⟩
   ·
    skip
    clear hF
    clear hS hf hx hy hC hmp
    rintro q a w1 ⟨i, hF, hS, hf, hx, hy, hC, hmp, hnd, hbd, hi, hq⟩
    refine W_sr rfl (fun K hK => ?_)
    refine sv hF (v_lss rfl rfl) rfl ?_; clear hF a; intro a hF
    refine WL_nil (hK _ _ ?_)
    clear hK K
    refine W_seq ?_
    refine W_if hF rfl (fun hc3 => ?_) (fun hc3 => ?_)
    ·
     skip
     try simp only [dcl] at hc3
     have hlt : i < (x ++ y).length := by rw [List.length_append]; omega
     obtain ⟨a_, ha⟩ : ∃ z, (x ++ y)[i]? = some z := ⟨_, List.getElem?_eq_getElem hlt⟩
     refine W_skip ?_
     refine W_seq ?_
     refine W_block ?_
     refine W_sr rfl (fun K hK => ?_)
     refine sv hF (v_ixS sl53 rfl rfl (by omega) (by omega)) rfl ?_; clear hF a; intro a hF
     refine sv hF (v_load sc3 rfl (by rw [toNat_c]; exact (hC.kc (by decide) (zints_at ha)).c)) rfl ?_; clear hF a; intro a hF
     refine sv hF (v_assign rfl) rfl ?_; clear hF a; intro a hF
     refine WL_nil (hK _ _ ?_)
     clear hK K
     replace hF := hF.sub _ (c_ 10 rfl (c_ 0 rfl (c_ 1 rfl (c_ 2 rfl (c_ 8 rfl (c_ 33 rfl (c_ 34 rfl (c_ 35 rfl (n_)))))))))
     refine W_seq ?_
     refine W_sr rfl (fun K hK => ?_)
     refine sv hF (v_move rfl) rfl ?_; clear hF a; intro a hF
     refine sb hF (v_lss rfl rfl) rfl ?_ ?_
     ·
      clear hF a; intro hc4 a hF
      try simp only [dcl] at hc4
      refine sv hF (v_move rfl) rfl ?_; clear hF a; intro a hF
      refine svn hF rfl rfl rfl ?_; clear hF a; intro a hF
      refine svn hF rfl rfl rfl ?_; clear hF a; intro a hF
      refine svn hF rfl rfl rfl ?_; clear hF a; intro a hF
      refine svn hF rfl rfl rfl ?_; clear hF a; intro a hF
      refine sv2 hF (v_pickT rfl rfl) (v_move rfl) rfl rfl ?_; clear hF a; intro a hF
      refine svn hF rfl rfl rfl ?_; clear hF a; intro a hF
      refine svn hF rfl rfl rfl ?_; clear hF a; intro a hF
      refine svn hF rfl rfl rfl ?_; clear hF a; intro a hF
      refine sv hF (v_pickT rfl rfl) rfl ?_; clear hF a; intro a hF
      refine WL_nil (hK _ _ ?_)
      clear hK K
      replace hF := hF.sub _ (c_ 51 rfl (c_ 10 rfl (c_ 0 rfl (c_ 1 rfl (c_ 2 rfl (c_ 8 rfl (c_ 33 rfl (c_ 34 rfl (c_ 35 rfl (n_))))))))))
      refine W_ifT hF rfl ?_
      refine W_sr rfl (fun K hK => ?_)
      refine sv2 hF (v_assign rfl) (v_assign rfl) rfl rfl ?_; clear hF a; intro a hF
      refine WL_nil (hK _ _ ?_)
      clear hK K
      replace hF := hF.sub _ (c_ 7 rfl (c_ 6 rfl (c_ 10 rfl (c_ 0 rfl (c_ 1 rfl (c_ 2 rfl (c_ 8 rfl (c_ 33 rfl (c_ 34 rfl (c_ 35 rfl (n_)))))))))))
      refine W_ret ?_
      refine ⟨_, _, _, hF, rfl, rfl, ?_⟩
      rw [ofM_no hp (ofB_bad ha (by first | (left; omega) | (right; left; omega) | (right; right; assumption)))]
      exact ⟨none, _, rfl, MOwn.nil _ _ _ _ _ _ _ (Nat.zero_le _), hS⟩
     ·
      clear hF a; intro hc4 a hF
      try simp only [dcl] at hc4
      refine sv hF (v_move rfl) rfl ?_; clear hF a; intro a hF
      refine svg hF rfl ?_
      refine sv hF (v_move rfl) rfl ?_; clear hF a; intro a hF
      refine svg hF rfl ?_
      refine sv hF (v_move rfl) rfl ?_; clear hF a; intro a hF
      refine svg hF rfl ?_
      refine sc hF rfl rfl rfl en75 rfl (Size_ok B (some (wb, p)) fv _ hf) ?_; clear hF a; intro v w' a hv hF
      obtain ⟨rfl, hw⟩ := hv
      obtain rfl := hw.symm
      have hS' := St.refl hS.inv
      replace hf := hf.st hS'
      replace hx := hx.st hS'
      replace hy := hy.st hS'
      replace hC := hC.st (by decide) hS'
      replace hmp := hmp.st hS'
      replace hS := hS.trans hS'
      clear hS'
      rw [show ((fsz (some (wb, p)) : Nat) : Int) = ((2 ^ wb : Nat) : Int) from rfl] at hF
      refine svg hF rfl ?_
      refine sb hF (v_geq rfl rfl) rfl ?_ ?_
      ·
       clear hF a; intro hc5 a hF
       try simp only [dcl] at hc5
       refine sv2 hF (v_pickF rfl rfl) (v_move rfl) rfl rfl ?_; clear hF a; intro a hF
       refine svn hF rfl rfl rfl ?_; clear hF a; intro a hF
       refine svn hF rfl rfl rfl ?_; clear hF a; intro a hF
       refine svn hF rfl rfl rfl ?_; clear hF a; intro a hF
       refine sv hF (v_pickT rfl rfl) rfl ?_; clear hF a; intro a hF
       refine WL_nil (hK _ _ ?_)
       clear hK K
       replace hF := hF.sub _ (c_ 51 rfl (c_ 10 rfl (c_ 0 rfl (c_ 1 rfl (c_ 2 rfl (c_ 8 rfl (c_ 33 rfl (c_ 34 rfl (c_ 35 rfl (n_))))))))))
       refine W_ifT hF rfl ?_
       refine W_sr rfl (fun K hK => ?_)
       refine sv2 hF (v_assign rfl) (v_assign rfl) rfl rfl ?_; clear hF a; intro a hF
       refine WL_nil (hK _ _ ?_)
       clear hK K
       replace hF := hF.sub _ (c_ 7 rfl (c_ 6 rfl (c_ 10 rfl (c_ 0 rfl (c_ 1 rfl (c_ 2 rfl (c_ 8 rfl (c_ 33 rfl (c_ 34 rfl (c_ 35 rfl (n_)))))))))))
       refine W_ret ?_
       refine ⟨_, _, _, hF, rfl, rfl, ?_⟩
       rw [ofM_no hp (ofB_bad ha (by first | (left; omega) | (right; left; omega) | (right; right; assumption)))]
       exact ⟨none, _, rfl, MOwn.nil _ _ _ _ _ _ _ (Nat.zero_le _), hS⟩
      ·
       clear hF a; intro hc5 a hF
       try simp only [dcl] at hc5
       refine sv2 hF (v_pickF rfl rfl) (v_move rfl) rfl rfl ?_; clear hF a; intro a hF
       refine svg hF rfl ?_
       refine sv hF (v_move rfl) rfl ?_; clear hF a; intro a hF
       refine svg hF rfl ?_
       refine sv hF (v_move rfl) rfl ?_; clear hF a; intro a hF
       refine svg hF rfl ?_
       refine sv hF (v_look mt126 rfl rfl hmp) rfl ?_; clear hF a; intro a hF
       refine sv hF (v_pickF rfl rfl) rfl ?_; clear hF a; intro a hF
       refine WL_nil (hK _ _ ?_)
       clear hK K
       replace hF := hF.sub _ (c_ 51 rfl (c_ 10 rfl (c_ 0 rfl (c_ 1 rfl (c_ 2 rfl (c_ 8 rfl (c_ 33 rfl (c_ 34 rfl (c_ 35 rfl (n_))))))))))
       refine W_if hF rfl (fun hc6 => ?_) (fun hc6 => ?_)
       ·
        skip
        try simp only [dcl] at hc6
        refine W_sr rfl (fun K hK => ?_)
        refine sv2 hF (v_assign rfl) (v_assign rfl) rfl rfl ?_; clear hF a; intro a hF
        refine WL_nil (hK _ _ ?_)
        clear hK K
        replace hF := hF.sub _ (c_ 7 rfl (c_ 6 rfl (c_ 10 rfl (c_ 0 rfl (c_ 1 rfl (c_ 2 rfl (c_ 8 rfl (c_ 33 rfl (c_ 34 rfl (c_ 35 rfl (n_)))))))))))
        refine W_ret ?_
        refine ⟨_, _, _, hF, rfl, rfl, ?_⟩
        rw [ofM_no hp (ofB_bad ha (by first | (left; omega) | (right; left; omega) | (right; right; assumption)))]
        exact ⟨none, _, rfl, MOwn.nil _ _ _ _ _ _ _ (Nat.zero_le _), hS⟩
       ·
        skip
        try simp only [dcl] at hc6
        have hnin : a_ ∉ (x ++ y).take i := by assumption
        refine W_skip ?_
        refine W_reg rfl (fun K hK => ?_)
        refine sv2 hF (v_move rfl) (v_move rfl) rfl rfl ?_; clear hF a; intro a hF
        refine s_mapput (D := FDx) (B := B) hF mt126 rfl rfl rfl hmp (hnin) hS.inv ?_; intro w' hm hI' hmp'
        replace hf := hf.mb hm
        replace hx := hx.mb hm (fun k h => by cases h; exact Nat.le_trans (hM) hmp.low)
        replace hy := hy.mb hm (fun k h => by cases h; exact Nat.le_trans (hM) hmp.low)
        replace hC := hC.mb hm ((fun k e e2 => hmp.ne_own hC (by decide) (e.trans e2.symm)))
        replace hS := hS.mb hm (fun k h => by cases h; exact hmp.low)
        replace hmp := hmp'
        clear hm hI' hmp'
        refine WL_nil (hK _ _ ?_)
        clear hK K
        replace hF := hF.sub _ (c_ 0 rfl (c_ 1 rfl (c_ 2 rfl (c_ 8 rfl (c_ 33 rfl (c_ 34 rfl (c_ 35 rfl (n_))))))))
        refine W_reg rfl (fun K hK => ?_)
        refine sv hF (v_addI rfl rfl (by omega)) rfl ?_; clear hF a; intro a hF
        refine sv hF (v_move rfl) rfl ?_; clear hF a; intro a hF
        refine WL_nil (hK _ _ ?_)
        clear hK K
        exact ⟨q - 1, by omega, i + 1, hF.sub _ (c_ 0 rfl (c_ 1 rfl (c_ 2 rfl (c_ 8 rfl (c_ 33 rfl (c_ 34 rfl (c_ 35 rfl (n_)))))))), hS, hf, hx, hy, hC, by rw [take_snoc ha]; exact hmp, nodup_snoc hnd ha (fun z hz e => hnin (e ▸ hz)), (fun z hz => by rw [take_snoc ha, List.mem_append, List.mem_singleton] at hz; rcases hz with hz | rfl; exact hbd _ hz; omega), by omega, by omega⟩
    ·
     skip
     try simp only [dcl] at hc3
     have hie : i = (x ++ y).length := by rw [List.length_append]; omega
     rw [hie, List.take_length] at hnd hbd
     clear hC hmp
     refine W_exit rfl ?_
     refine W_sr rfl (fun K hK => ?_)
     refine sv hF (v_assign rfl) rfl ?_; clear hF a; intro a hF
     refine WL_nil (hK _ _ ?_)
     clear hK K
     replace hF := hF.sub _ (c_ 11 rfl (c_ 0 rfl (c_ 1 rfl (c_ 2 rfl (c_ 8 rfl (c_ 33 rfl (c_ 34 rfl (c_ 35 rfl (n_)))))))))
     refine W_seq ?_
     refine W_sr rfl (fun K hK => ?_)
     refine sv hF (v_move rfl) rfl ?_; clear hF a; intro a hF
     refine sv hF (v_lenS rfl sl53 rfl) rfl ?_; clear hF a; intro a hF
     refine sv hF (v_move rfl) rfl ?_; clear hF a; intro a hF
     refine WL_nil (hK _ _ ?_)
     clear hK K
     refine W_block ?_
     refine W_loop (fun q2 a w2 => ∃ (i : Nat) (v11 : Value) (b11 : Option Nat), Fr 86 [(0, fv), (2, .slice py y.length cy), (11, v11), (55, .slice px x.length cx), (56, .int .i64 (x.length : Int)), (57, .int .i64 (i : Int))] a ∧ (St FDx B w w2) ∧ (Fo FDx B w2 fv (some (wb, p))) ∧ (Row FDx B M w2 (.slice px x.length cx) (zints x)) ∧ (Row FDx B M w2 (.slice py y.length cy) (zints y)) ∧ (MOwn FDx B w.heap.size 0 w2.heap.size w2 53 v11 b11 ((List.range i).map (trow y.length (ofT hp x y)))) ∧ (i ≤ x.length) ∧ (q2 + i = x.length)) (x.length) ?_ ?_
     ·
      skip
      exact ⟨0, _, none, hF.sub _ (c_ 0 rfl (c_ 2 rfl (c_ 11 rfl (c_ 55 rfl (c_ 56 rfl (c_ 57 rfl (n_))))))), hS, hf, hx, hy, MOwn.nil _ _ _ _ _ _ _ (Nat.zero_le _), by omega, by omega⟩
     ·
      skip
      clear hF
      clear hS hf hx hy
      rintro q2 a w2 ⟨i, v11, b11, hF, hS, hf, hx, hy, hMO, hi2, hq2⟩
      obtain ⟨KM, hKe⟩ : ∃ K, K = w2.heap.size := ⟨_, rfl⟩
      rw [← hKe] at hMO
      have hKs : KM ≤ w2.heap.size := by omega
      have hNK : w.heap.size ≤ KM := by have := hS.ext.size; omega
      clear hKe
      refine W_sr rfl (fun K hK => ?_)
      refine sv hF (v_lss rfl rfl) rfl ?_; clear hF a; intro a hF
      refine WL_nil (hK _ _ ?_)
      clear hK K
      refine W_seq ?_
      refine W_if hF rfl (fun hc7 => ?_) (fun hc7 => ?_)
      ·
       skip
       try simp only [dcl] at hc7
       have hlt : i < x.length := by omega
       obtain ⟨an, bn_, hxa, -, han, -⟩ := of_cell hnd hbd hlt (show 0 < y.length by omega)
       obtain ⟨ga, oa, hga, hka, -⟩ := hx.kat (zints_at hxa)
       cases hga
       refine W_skip ?_
       refine W_seq ?_
       refine W_block ?_
       refine W_sr rfl (fun K hK => ?_)
       refine sv hF (v_ixS sl53 rfl rfl (by omega) (by omega)) rfl ?_; clear hF a; intro a hF
       refine sv hF (v_load sc3 rfl (by rw [toNat_c]; exact hka.c)) rfl ?_; clear hF a; intro a hF
       refine sv hF (v_assign rfl) rfl ?_; clear hF a; intro a hF
       refine WL_nil (hK _ _ ?_)
       clear hK K
       refine W_sr rfl (fun K hK => ?_)
       refine sv hF (v_assign rfl) rfl ?_; clear hF a; intro a hF
       refine WL_nil (hK _ _ ?_)
       clear hK K
       refine W_seq ?_
       refine W_sr rfl (fun K hK => ?_)
       refine sv hF (v_move rfl) rfl ?_; clear hF a; intro a hF
       refine sv hF (v_lenS rfl sl53 rfl) rfl ?_; clear hF a; intro a hF
       refine sv hF (v_move rfl) rfl ?_; clear hF a; intro a hF
       refine WL_nil (hK _ _ ?_)
       clear hK K
       refine W_block ?_
       refine W_loop (fun q3 a w3 => ∃ (j : Nat) (v14 : Value) (b14 : Option Nat), Fr 86 [(0, fv), (2, .slice py y.length cy), (11, v11), (13, .int .i64 (an : Int)), (14, v14), (55, .slice (some ⟨ga, oa, none⟩) x.length cx), (56, .int .i64 (x.length : Int)), (57, .int .i64 (i : Int)), (61, .slice py y.length cy), (62, .int .i64 (y.length : Int)), (63, .int .i64 (j : Int))] a ∧ (St FDx B w w3) ∧ (Fo FDx B w3 fv (some (wb, p))) ∧ (Row FDx B M w3 (.slice (some ⟨ga, oa, none⟩) x.length cx) (zints x)) ∧ (Row FDx B M w3 (.slice py y.length cy) (zints y)) ∧ (MOwn FDx B w.heap.size 0 KM w3 53 v11 b11 ((List.range i).map (trow y.length (ofT hp x y)))) ∧ (KM ≤ w3.heap.size) ∧ (Gam.Own FDx B KM w3 FDx.E v14 b14 (zints ((List.range j).map fun j => (((ofT hp x y) i j : Nat) : Int)))) ∧ (j ≤ y.length) ∧ (q3 + j = y.length)) (y.length) ?_ ?_
       ·
        skip
        exact ⟨0, _, none, hF.sub _ (c_ 0 rfl (c_ 2 rfl (c_ 11 rfl (c_ 13 rfl (c_ 14 rfl (c_ 55 rfl (c_ 56 rfl (c_ 57 rfl (c_ 61 rfl (c_ 62 rfl (c_ 63 rfl (n_)))))))))))), hS, hf, hx, hy, hMO, hKs, Gam.Own.nil _ _ _ _ _, by omega, by omega⟩
       ·
        skip
        clear hF
        clear hS hf hx hy hMO hKs
        rintro q3 a w3 ⟨j, v14, b14, hF, hS, hf, hx, hy, hMO, hKs, hO, hj, hq3⟩
        refine W_sr rfl (fun K hK => ?_)
        refine sv hF (v_lss rfl rfl) rfl ?_; clear hF a; intro a hF
        refine WL_nil (hK _ _ ?_)
        clear hK K
        refine W_seq ?_
        refine W_if hF rfl (fun hc8 => ?_) (fun hc8 => ?_)
        ·
         skip
         try simp only [dcl] at hc8
         have hlt2 : j < y.length := by omega
         obtain ⟨an2, bn, hxa2, hyb, -, hbn, hxl, hx0⟩ := of_cell hnd hbd hlt hlt2
         obtain rfl : an = an2 := by have e := hxa.symm.trans hxa2; injection e with e; omega
         obtain ⟨gb, ob_, hgb, hkb, -⟩ := hy.kat (zints_at hyb)
         cases hgb
         have hcell := ofT_at hp hxa hyb
         refine W_skip ?_
         refine W_seq ?_
         refine W_block ?_
         refine W_sr rfl (fun K hK => ?_)
         refine sv hF (v_ixS sl53 rfl rfl (by omega) (by omega)) rfl ?_; clear hF a; intro a hF
         refine sv hF (v_load sc3 rfl (by rw [toNat_c]; exact hkb.c)) rfl ?_; clear hF a; intro a hF
         refine sv hF (v_assign rfl) rfl ?_; clear hF a; intro a hF
         refine WL_nil (hK _ _ ?_)
         clear hK K
         refine W_sr rfl (fun K hK => ?_)
         refine sv3 hF (v_move rfl) (v_move rfl) (v_move rfl) rfl rfl rfl ?_; clear hF a; intro a hF
         refine sv hF (v_xorN rfl rfl (fits_i64 (by omega)) (fits_i64 (by omega))) rfl ?_; clear hF a; intro a hF
         refine sc hF rfl rfl rfl en49 rfl (Inv_gf B (some (wb, p)) fv ((an ^^^ bn : Nat) : Int) _ hS.inv hf) ?_; clear hF a; intro v w' a hv hF
         obtain ⟨rfl, hS'⟩ := hv
         replace hf := hf.st hS'
         replace hx := hx.st hS'
         replace hy := hy.st hS'
         replace hMO := hMO.st (by decide) hS'
         replace hKs := Nat.le_trans hKs hS'.ext.size
         replace hO := hO.st (by decide) hS'
         replace hS := hS.trans hS'
         clear hS'
         rw [ginv_fld hp hxl hx0, ← hcell] at hF
         refine sv5 hF (v_move rfl) (v_ext rfl rfl) (v_ext rfl rfl) (v_assign rfl) (v_assign rfl) rfl rfl rfl rfl rfl ?_; clear hF a; intro a hF
         refine WL_nil (hK _ _ ?_)
         clear hK K
         replace hF := hF.sub _ (c_ 17 rfl (c_ 74 rfl (c_ 73 rfl (c_ 67 rfl (c_ 72 rfl (c_ 71 rfl (c_ 70 rfl (c_ 69 rfl (c_ 68 rfl (c_ 16 rfl (c_ 66 rfl (c_ 65 rfl (c_ 64 rfl (c_ 0 rfl (c_ 2 rfl (c_ 11 rfl (c_ 13 rfl (c_ 14 rfl (c_ 55 rfl (c_ 56 rfl (c_ 57 rfl (c_ 61 rfl (c_ 62 rfl (c_ 63 rfl (n_)))))))))))))))))))))))))
         refine W_reg rfl (fun K hK => ?_)
         refine sv2 hF (v_move rfl) (v_move rfl) rfl rfl ?_; clear hF a; intro a hF
         refine s_bs (D := FDx) (B := B) hF sl53 rfl rfl (by decide) (by simp [Value.cells]) (by decide) hS.inv rfl ?_; clear hF a; intro w' a hm hI' hL hF
         replace hf := hf.mb hm
         replace hx := hx.mb hm (fun _ h => by cases h)
         replace hy := hy.mb hm (fun _ h => by cases h)
         replace hMO := hMO.mb0 hm
         replace hKs := Nat.le_trans hKs hm.size
         replace hO := hO.mb hm (fun _ _ => by simp)
         replace hS := hS.mb0 hm
         clear hm hI'
         refine s_app (D := FDx) (B := B) hF rfl sl53 rfl rfl hO (hL.row (by decide)) (by simp [Value.oneCell']) (by simp; omega) (by simp [maxLen]; omega) (hKs) (by decide) hS.inv rfl ?_; clear hF a; intro v' b' w' a ho' hm hI' hb' hF
         replace hf := hf.mb hm
         replace hx := hx.mb hm (fun k h => Nat.le_trans (Nat.le_trans hM hNK) (hO.lt k h).1)
         replace hy := hy.mb hm (fun k h => Nat.le_trans (Nat.le_trans hM hNK) (hO.lt k h).1)
         replace hMO := hMO.mbo hm hO (by decide) (Nat.le_refl _) (Nat.zero_le _)
         replace hKs := Nat.le_trans hKs hm.size
         replace hS := hS.mb hm (fun k h => Nat.le_trans (hNK) (hO.lt k h).1)
         replace hO := ho'
         clear hm hI' ho'
         refine sv hF (v_assign rfl) rfl ?_; clear hF a; intro a hF
         refine WL_nil (hK _ _ ?_)
         clear hK K
         refine W_reg rfl (fun K hK => ?_)
         refine sv hF (v_addI rfl rfl (by omega)) rfl ?_; clear hF a; intro a hF
         refine sv hF (v_move rfl) rfl ?_; clear hF a; intro a hF
         refine WL_nil (hK _ _ ?_)
         clear hK K
         exact ⟨q3 - 1, by omega, j + 1, _, _, hF.sub _ (c_ 0 rfl (c_ 2 rfl (c_ 11 rfl (c_ 13 rfl (c_ 14 rfl (c_ 55 rfl (c_ 56 rfl (c_ 57 rfl (c_ 61 rfl (c_ 62 rfl (c_ 63 rfl (n_)))))))))))), hS, hf, hx, hy, hMO, hKs, hO.cast (by rw [List.range_succ, List.map_append]; simp [zints]), by omega, by omega⟩
        ·
         skip
         try simp only [dcl] at hc8
         have hje : j = y.length := by omega
         rw [hje] at hO
         refine W_exit rfl ?_
         refine W_reg rfl (fun K hK => ?_)
         refine sv2 hF (v_move rfl) (v_move rfl) rfl rfl ?_; clear hF a; intro a hF
         obtain ⟨a_, c_r, rfl⟩ := hO.shape
         refine s_bs (D := FDx) (B := B) hF sl36 rfl rfl (by decide) (by simp [Value.cells]) (by decide) hS.inv rfl ?_; clear hF a; intro w' a hm hI' hL hF
         replace hf := hf.mb hm
         replace hx := hx.mb hm (fun _ h => by cases h)
         replace hy := hy.mb hm (fun _ h => by cases h)
         replace hMO := hMO.mb0 hm
         replace hKs := Nat.le_trans hKs hm.size
         replace hO := hO.mb hm (fun _ _ => by simp)
         replace hS := hS.mb0 hm
         clear hm hI'
         replace hMO := hMO.up hKs
         clear hKs
         refine s_appM (D := FDx) (B := B) hF rfl sl36 rfl rfl hMO hL (.of (r := trow y.length (ofT hp x y) i) hO (Nat.zero_le _)) rfl rfl (by simp; omega) (hS.ext.size) (by decide) (by decide) hS.inv rfl ?_; clear hF a; intro v' b' w' a ho' hm hI' hF
         replace hf := hf.mb hm
         replace hx := hx.mb hm (fun k h => Nat.le_trans (hM) (hMO.lt k h).1)
         replace hy := hy.mb hm (fun k h => Nat.le_trans (hM) (hMO.lt k h).1)
         replace hS := hS.mb hm (fun k h => (hMO.lt k h).1)
         have hKm := hm.size
         replace hMO := ho'
         clear hm hI' ho' hL
         refine sv hF (v_assign rfl) rfl ?_; clear hF a; intro a hF
         refine WL_nil (hK _ _ ?_)
         clear hK K
         refine W_reg rfl (fun K hK => ?_)
         refine sv hF (v_addI rfl rfl (by omega)) rfl ?_; clear hF a; intro a hF
         refine sv hF (v_move rfl) rfl ?_; clear hF a; intro a hF
         refine WL_nil (hK _ _ ?_)
         clear hK K
         exact ⟨q2 - 1, by omega, i + 1, _, _, hF.sub _ (c_ 0 rfl (c_ 2 rfl (c_ 11 rfl (c_ 55 rfl (c_ 56 rfl (c_ 57 rfl (n_))))))), hS, hf, hx, hy, (hMO.up hKm).cast (by rw [List.range_succ, List.map_append]; rfl), by omega, by omega⟩
      ·
       skip
       try simp only [dcl] at hc7
       refine W_exit rfl ?_
       refine W_sr rfl (fun K hK => ?_)
       refine sv3 hF (v_move rfl) (v_assign rfl) (v_assign rfl) rfl rfl rfl ?_; clear hF a; intro a hF
       refine WL_nil (hK _ _ ?_)
       clear hK K
       refine W_ret ?_
       refine ⟨_, _, _, hF, rfl, rfl, ?_⟩
       obtain rfl : i = x.length := by omega
       rw [ofM_is hp (ofB_ok hln hnd hbd)]
       exact ⟨_, _, rfl, (hMO.up hKs).cast rfl, hS⟩

set_option maxRecDepth 100000 in
set_option maxHeartbeats 1000000 in
theorem Orig_ok (B wb p : Nat) (hp : Prm wb p) (fv : Value) (k m : Int) (w : World) (hI : Inv FDx B w) (hf : Fo FDx B w fv (some (wb, p))) : Ret Tryz.prog 27 [fv, .int .i64 k, .int .i64 m] w fun v w' => ∃ ob u, v = .tuple #[u, .int .i64 (errV (origM hp k m))] ∧ MOwn FDx B w.heap.size 0 w'.heap.size w' 53 u ob ((origM hp k m).getD []) ∧ St FDx B w w' := by
 refine enter2 32 [(0, fv), (1, .int .i64 k), (2, .int .i64 m)] 6 7 Tryz.func27 rfl rfl rfl rfl rfl ?_; intro a hF
 have hS := St.refl hI
 refine W_sr rfl (fun K hK => ?_)
 refine sv2 hF (v_assign rfl) (v_assign rfl) rfl rfl ?_; clear hF a; intro a hF
 refine WL_nil (hK _ _ ?_)
 clear hK K
 refine W_seq ?_
 refine W_sr rfl (fun K hK => ?_)
 refine sv hF (v_move rfl) rfl ?_; clear hF a; intro a hF
 refine sc hF rfl rfl rfl en52 rfl (cwithin_ok _ _) ?_; clear hF a; intro v w' a hv hF
 obtain ⟨rfl, hw⟩ := hv
 obtain rfl := hw.symm
 have hS' := St.refl hS.inv
 replace hf := hf.st hS'
 replace hS := hS.trans hS'
 clear hS'
 refine sb hF (v_not rfl) rfl ?_ ?_
 ·
  clear hF a; intro hc1 a hF
  try simp only [dcl] at hc1
  refine sv hF (v_move rfl) rfl ?_; clear hF a; intro a hF
  refine svn hF rfl rfl rfl ?_; clear hF a; intro a hF
  refine svn hF rfl rfl rfl ?_; clear hF a; intro a hF
  refine svn hF rfl rfl rfl ?_; clear hF a; intro a hF
  refine sv2 hF (v_pickT rfl rfl) (v_move rfl) rfl rfl ?_; clear hF a; intro a hF
  refine svn hF rfl rfl rfl ?_; clear hF a; intro a hF
  refine svn hF rfl rfl rfl ?_; clear hF a; intro a hF
  refine svn hF rfl rfl rfl ?_; clear hF a; intro a hF
  refine svn hF rfl rfl rfl ?_; clear hF a; intro a hF
  refine svn hF rfl rfl rfl ?_; clear hF a; intro a hF
  refine sv hF (v_pickT rfl rfl) rfl ?_; clear hF a; intro a hF
  refine WL_nil (hK _ _ ?_)
  clear hK K
  replace hF := hF.sub _ (c_ 22 rfl (c_ 7 rfl (c_ 6 rfl (c_ 0 rfl (c_ 1 rfl (c_ 2 rfl (n_)))))))
  refine W_ifT hF rfl ?_
  refine W_sr rfl (fun K hK => ?_)
  refine sv2 hF (v_assign rfl) (v_assign rfl) rfl rfl ?_; clear hF a; intro a hF
  refine WL_nil (hK _ _ ?_)
  clear hK K
  replace hF := hF.sub _ (c_ 7 rfl (c_ 6 rfl (c_ 0 rfl (c_ 1 rfl (c_ 2 rfl (n_))))))
  refine W_ret ?_
  refine ⟨_, _, _, hF, rfl, rfl, ?_⟩
  rw [origM_no hp (fitB_not (by omega))]
  exact ⟨none, _, rfl, MOwn.nil _ _ _ _ _ _ _ (Nat.zero_le _), hS⟩
 ·
  clear hF a; intro hc1 a hF
  try simp only [dcl] at hc1
  refine sv hF (v_move rfl) rfl ?_; clear hF a; intro a hF
  refine svg hF rfl ?_
  refine sv hF (v_move rfl) rfl ?_; clear hF a; intro a hF
  refine svg hF rfl ?_
  refine sc hF rfl rfl rfl en52 rfl (cwithin_ok _ _) ?_; clear hF a; intro v w' a hv hF
  obtain ⟨rfl, hw⟩ := hv
  obtain rfl := hw.symm
  have hS' := St.refl hS.inv
  replace hf := hf.st hS'
  replace hS := hS.trans hS'
  clear hS'
  refine svg hF rfl ?_
  refine sb hF (v_not rfl) rfl ?_ ?_
  ·
   clear hF a; intro hc2 a hF
   try simp only [dcl] at hc2
   refine sv2 hF (v_pickF rfl rfl) (v_move rfl) rfl rfl ?_; clear hF a; intro a hF
   refine svn hF rfl rfl rfl ?_; clear hF a; intro a hF
   refine svn hF rfl rfl rfl ?_; clear hF a; intro a hF
   refine svn hF rfl rfl rfl ?_; clear hF a; intro a hF
   refine svn hF rfl rfl rfl ?_; clear hF a; intro a hF
   refine svn hF rfl rfl rfl ?_; clear hF a; intro a hF
   refine sv hF (v_pickT rfl rfl) rfl ?_; clear hF a; intro a hF
   refine WL_nil (hK _ _ ?_)
   clear hK K
   replace hF := hF.sub _ (c_ 22 rfl (c_ 7 rfl (c_ 6 rfl (c_ 0 rfl (c_ 1 rfl (c_ 2 rfl (n_)))))))
   refine W_ifT hF rfl ?_
   refine W_sr rfl (fun K hK => ?_)
   refine sv2 hF (v_assign rfl) (v_assign rfl) rfl rfl ?_; clear hF a; intro a hF
   refine WL_nil (hK _ _ ?_)
   clear hK K
   replace hF := hF.sub _ (c_ 7 rfl (c_ 6 rfl (c_ 0 rfl (c_ 1 rfl (c_ 2 rfl (n_))))))
   refine W_ret ?_
   refine ⟨_, _, _, hF, rfl, rfl, ?_⟩
   rw [origM_no hp (fitB_not (by omega))]
   exact ⟨none, _, rfl, MOwn.nil _ _ _ _ _ _ _ (Nat.zero_le _), hS⟩
  ·
   clear hF a; intro hc2 a hF
   try simp only [dcl] at hc2
   refine sv2 hF (v_pickF rfl rfl) (v_move rfl) rfl rfl ?_; clear hF a; intro a hF
   refine svg hF rfl ?_
   refine sv hF (v_move rfl) rfl ?_; clear hF a; intro a hF
   refine svg hF rfl ?_
   refine sv hF (v_move rfl) rfl ?_; clear hF a; intro a hF
   refine svg hF rfl ?_
   refine sv hF (v_addI rfl rfl (by omega)) rfl ?_; clear hF a; intro a hF
   refine svg hF rfl ?_
   refine sc hF rfl rfl rfl en52 rfl (cwithin_ok _ _) ?_; clear hF a; intro v w' a hv hF
   obtain ⟨rfl, hw⟩ := hv
   obtain rfl := hw.symm
   have hS' := St.refl hS.inv
   replace hf := hf.st hS'
   replace hS := hS.trans hS'
   clear hS'
   refine svg hF rfl ?_
   refine sv hF (v_not rfl) rfl ?_; clear hF a; intro a hF
   refine sv hF (v_pickF rfl rfl) rfl ?_; clear hF a; intro a hF
   refine WL_nil (hK _ _ ?_)
   clear hK K
   replace hF := hF.sub _ (c_ 22 rfl (c_ 7 rfl (c_ 6 rfl (c_ 0 rfl (c_ 1 rfl (c_ 2 rfl (n_)))))))
   refine W_if hF rfl (fun hc3 => ?_) (fun hc3 => ?_)
   ·
    skip
    try simp only [dcl] at hc3
    refine W_sr rfl (fun K hK => ?_)
    refine sv2 hF (v_assign rfl) (v_assign rfl) rfl rfl ?_; clear hF a; intro a hF
    refine WL_nil (hK _ _ ?_)
    clear hK K
    replace hF := hF.sub _ (c_ 7 rfl (c_ 6 rfl (c_ 0 rfl (c_ 1 rfl (c_ 2 rfl (n_))))))
    refine W_ret ?_
    refine ⟨_, _, _, hF, rfl, rfl, ?_⟩
    rw [origM_no hp (fitB_not (by omega))]
    exact ⟨none, _, rfl, MOwn.nil _ _ _ _ _ _ _ (Nat.zero_le _), hS⟩
   ·
    skip
    try simp only [dcl] at hc3
    refine W_skip ?_
    have hb : fitB (some (wb, p)) k m = true := fitB_iff.2 ⟨rfl, by omega, by omega, by omega, by omega, by omega⟩
    obtain ⟨kn, rfl⟩ : ∃ n : Nat, k = (n : Int) := ⟨k.toNat, by omega⟩
    obtain ⟨mn, rfl⟩ : ∃ n : Nat, m = (n : Int) := ⟨m.toNat, by omega⟩
    refine W_sr rfl (fun K hK => ?_)
    refine sv2 hF (v_move rfl) (v_move rfl) rfl rfl ?_; clear hF a; intro a hF
    refine sc hF rfl rfl rfl en54 rfl (run_ok B 0 mn _ hS.inv (by omega)) ?_; clear hF a; intro v w' a hv hF
    obtain ⟨gX, rfl, hOX, hS'⟩ := hv
    have hX : Row FDx B _ _ _ (zints (rnL 0 mn)) := hOX.row (by decide)
    clear hOX
    replace hf := hf.st hS'
    replace hS := hS.trans hS'
    clear hS'
    refine sv2 hF (v_move rfl) (v_move rfl) rfl rfl ?_; clear hF a; intro a hF
    refine sc hF rfl rfl rfl en54 rfl (run_ok B mn kn _ hS.inv (by omega)) ?_; clear hF a; intro v w' a hv hF
    obtain ⟨gY, rfl, hOY, hS'⟩ := hv
    have hY : Row FDx B _ _ _ (zints (rnL mn kn)) := hOY.row (by decide)
    clear hOY
    replace hf := hf.st hS'
    replace hX := (hX.st hS').mono hS'.ext.size
    replace hS := hS.trans hS'
    clear hS'
    rw [show (Value.slice (some ⟨gX, 0, none⟩) mn mn) = .slice (some ⟨gX, 0, none⟩) (rnL 0 mn).length mn by rw [rnL_length], show (Value.slice (some ⟨gY, 0, none⟩) kn kn) = .slice (some ⟨gY, 0, none⟩) (rnL mn kn).length kn by rw [rnL_length]] at hF
    refine sc hF rfl rfl rfl en53 rfl (Of_ok B _ wb p hp fv _ _ mn kn (rnL 0 mn) (rnL mn kn) _ hS.inv (Nat.le_refl _) hf (by rw [rnL_length]; exact hX) (by rw [rnL_length]; exact hY) ⟨by rw [rnL_length]; simp only [maxLen]; omega, by rw [rnL_length]; simp only [maxLen]; omega⟩) ?_; clear hF a; intro v w' a hv hF
    obtain ⟨ob, u, rfl, hMO, hS'⟩ := hv
    replace hMO := hMO.le hS.ext.size (Nat.zero_le _)
    replace hS := hS.trans hS'
    clear hS'
    refine sv4 hF (v_ext rfl rfl) (v_ext rfl rfl) (v_assign rfl) (v_assign rfl) rfl rfl rfl rfl ?_; clear hF a; intro a hF
    refine WL_nil (hK _ _ ?_)
    clear hK K
    replace hF := hF.sub _ (c_ 7 rfl (c_ 6 rfl (n_)))
    refine W_ret ?_
    refine ⟨_, _, _, hF, rfl, rfl, ?_⟩
    rw [show origM hp (kn : Int) (mn : Int) = ofM hp (rnL 0 mn) (rnL mn kn) by unfold origM; rw [if_pos hb]; rfl]
    exact ⟨_, _, rfl, hMO, hS⟩

set_option maxRecDepth 100000 in
set_option maxHeartbeats 1000000 in
theorem CIsal_ok (B wb p : Nat) (hp : Prm wb p) (fv : Value) (k m : Int) (w : World) (hI : Inv FDx B w) (hf : Fo FDx B w fv (some (wb, p))) : Ret Tryz.prog 29 [fv, .int .i64 k, .int .i64 m] w fun v w' => ∃ ob u, v = .tuple #[u, .int .i64 (errV (cisaM hp k m))] ∧ MOwn FDx B w.heap.size 0 w'.heap.size w' 53 u ob ((cisaM hp k m).getD []) ∧ St FDx B w w' := by
 refine enter2 32 [(0, fv), (1, .int .i64 k), (2, .int .i64 m)] 6 7 Tryz.func29 rfl rfl rfl rfl rfl ?_; intro a hF
 have hS := St.refl hI
 refine W_sr rfl (fun K hK => ?_)
 refine sv2 hF (v_assign rfl) (v_assign rfl) rfl rfl ?_; clear hF a; intro a hF
 refine WL_nil (hK _ _ ?_)
 clear hK K
 refine W_seq ?_
 refine W_sr rfl (fun K hK => ?_)
 refine sv hF (v_move rfl) rfl ?_; clear hF a; intro a hF
 refine sc hF rfl rfl rfl en52 rfl (cwithin_ok _ _) ?_; clear hF a; intro v w' a hv hF
 obtain ⟨rfl, hw⟩ := hv
 obtain rfl := hw.symm
 have hS' := St.refl hS.inv
 replace hf := hf.st hS'
 replace hS := hS.trans hS'
 clear hS'
 refine sb hF (v_not rfl) rfl ?_ ?_
 ·
  clear hF a; intro hc1 a hF
  try simp only [dcl] at hc1
  refine sv hF (v_move rfl) rfl ?_; clear hF a; intro a hF
  refine svn hF rfl rfl rfl ?_; clear hF a; intro a hF
  refine svn hF rfl rfl rfl ?_; clear hF a; intro a hF
  refine svn hF rfl rfl rfl ?_; clear hF a; intro a hF
  refine sv2 hF (v_pickT rfl rfl) (v_move rfl) rfl rfl ?_; clear hF a; intro a hF
  refine svn hF rfl rfl rfl ?_; clear hF a; intro a hF
  refine svn hF rfl rfl rfl ?_; clear hF a; intro a hF
  refine svn hF rfl rfl rfl ?_; clear hF a; intro a hF
  refine svn hF rfl rfl rfl ?_; clear hF a; intro a hF
  refine svn hF rfl rfl rfl ?_; clear hF a; intro a hF
  refine sv hF (v_pickT rfl rfl) rfl ?_; clear hF a; intro a hF
  refine WL_nil (hK _ _ ?_)
  clear hK K
  replace hF := hF.sub _ (c_ 22 rfl (c_ 7 rfl (c_ 6 rfl (c_ 0 rfl (c_ 1 rfl (c_ 2 rfl (n_)))))))
  refine W_ifT hF rfl ?_
  refine W_sr rfl (fun K hK => ?_)
  refine sv2 hF (v_assign rfl) (v_assign rfl) rfl rfl ?_; clear hF a; intro a hF
  refine WL_nil (hK _ _ ?_)
  clear hK K
  replace hF := hF.sub _ (c_ 7 rfl (c_ 6 rfl (c_ 0 rfl (c_ 1 rfl (c_ 2 rfl (n_))))))
  refine W_ret ?_
  refine ⟨_, _, _, hF, rfl, rfl, ?_⟩
  rw [cisaM_no hp (fitB_not (by omega))]
  exact ⟨none, _, rfl, MOwn.nil _ _ _ _ _ _ _ (Nat.zero_le _), hS⟩
 ·
  clear hF a; intro hc1 a hF
  try simp only [dcl] at hc1
  refine sv hF (v_move rfl) rfl ?_; clear hF a; intro a hF
  refine svg hF rfl ?_
  refine sv hF (v_move rfl) rfl ?_; clear hF a; intro a hF
  refine svg hF rfl ?_
  refine sc hF rfl rfl rfl en52 rfl (cwithin_ok _ _) ?_; clear hF a; intro v w' a hv hF
  obtain ⟨rfl, hw⟩ := hv
  obtain rfl := hw.symm
  have hS' := St.refl hS.inv
  replace hf := hf.st hS'
  replace hS := hS.trans hS'
  clear hS'
  refine svg hF rfl ?_
  refine sb hF (v_not rfl) rfl ?_ ?_
  ·
   clear hF a; intro hc2 a hF
   try simp only [dcl] at hc2
   refine sv2 hF (v_pickF rfl rfl) (v_move rfl) rfl rfl ?_; clear hF a; intro a hF
   refine svn hF rfl rfl rfl ?_; clear hF a; intro a hF
   refine svn hF rfl rfl rfl ?_; clear hF a; intro a hF
   refine svn hF rfl rfl rfl ?_; clear hF a; intro a hF
   refine svn hF rfl rfl rfl ?_; clear hF a; intro a hF
   refine svn hF rfl rfl rfl ?_; clear hF a; intro a hF
   refine sv hF (v_pickT rfl rfl) rfl ?_; clear hF a; intro a hF
   refine WL_nil (hK _ _ ?_)
   clear hK K
   replace hF := hF.sub _ (c_ 22 rfl (c_ 7 rfl (c_ 6 rfl (c_ 0 rfl (c_ 1 rfl (c_ 2 rfl (n_)))))))
   refine W_ifT hF rfl ?_
   refine W_sr rfl (fun K hK => ?_)
   refine sv2 hF (v_assign rfl) (v_assign rfl) rfl rfl ?_; clear hF a; intro a hF
   refine WL_nil (hK _ _ ?_)
   clear hK K
   replace hF := hF.sub _ (c_ 7 rfl (c_ 6 rfl (c_ 0 rfl (c_ 1 rfl (c_ 2 rfl (n_))))))
   refine W_ret ?_
   refine ⟨_, _, _, hF, rfl, rfl, ?_⟩
   rw [cisaM_no hp (fitB_not (by omega))]
   exact ⟨none, _, rfl, MOwn.nil _ _ _ _ _ _ _ (Nat.zero_le _), hS⟩
  ·
   clear hF a; intro hc2 a hF
   try simp only [dcl] at hc2
   refine sv2 hF (v_pickF rfl rfl) (v_move rfl) rfl rfl ?_; clear hF a; intro a hF
   refine svg hF rfl ?_
   refine sv hF (v_move rfl) rfl ?_; clear hF a; intro a hF
   refine svg hF rfl ?_
   refine sv hF (v_move rfl) rfl ?_; clear hF a; intro a hF
   refine svg hF rfl ?_
   refine sv hF (v_addI rfl rfl (by omega)) rfl ?_; clear hF a; intro a hF
   refine svg hF rfl ?_
   refine sc hF rfl rfl rfl en52 rfl (cwithin_ok _ _) ?_; clear hF a; intro v w' a hv hF
   obtain ⟨rfl, hw⟩ := hv
   obtain rfl := hw.symm
   have hS' := St.refl hS.inv
   replace hf := hf.st hS'
   replace hS := hS.trans hS'
   clear hS'
   refine svg hF rfl ?_
   refine sv hF (v_not rfl) rfl ?_; clear hF a; intro a hF
   refine sv hF (v_pickF rfl rfl) rfl ?_; clear hF a; intro a hF
   refine WL_nil (hK _ _ ?_)
   clear hK K
   replace hF := hF.sub _ (c_ 22 rfl (c_ 7 rfl (c_ 6 rfl (c_ 0 rfl (c_ 1 rfl (c_ 2 rfl (n_)))))))
   refine W_if hF rfl (fun hc3 => ?_) (fun hc3 => ?_)
   ·
    skip
    try simp only [dcl] at hc3
    refine W_sr rfl (fun K hK => ?_)
    refine sv2 hF (v_assign rfl) (v_assign rfl) rfl rfl ?_; clear hF a; intro a hF
    refine WL_nil (hK _ _ ?_)
    clear hK K
    replace hF := hF.sub _ (c_ 7 rfl (c_ 6 rfl (c_ 0 rfl (c_ 1 rfl (c_ 2 rfl (n_))))))
    refine W_ret ?_
    refine ⟨_, _, _, hF, rfl, rfl, ?_⟩
    rw [cisaM_no hp (fitB_not (by omega))]
    exact ⟨none, _, rfl, MOwn.nil _ _ _ _ _ _ _ (Nat.zero_le _), hS⟩
   ·
    skip
    try simp only [dcl] at hc3
    refine W_skip ?_
    have hb : fitB (some (wb, p)) k m = true := fitB_iff.2 ⟨rfl, by omega, by omega, by omega, by omega, by omega⟩
    obtain ⟨kn, rfl⟩ : ∃ n : Nat, k = (n : Int) := ⟨k.toNat, by omega⟩
    obtain ⟨mn, rfl⟩ : ∃ n : Nat, m = (n : Int) := ⟨m.toNat, by omega⟩
    refine W_sr rfl (fun K hK => ?_)
    refine sv3 hF (v_move rfl) (v_move rfl) (v_move rfl) rfl rfl rfl ?_; clear hF a; intro a hF
    refine sc hF rfl rfl rfl en54 rfl (run_ok B kn mn _ hS.inv (by omega)) ?_; clear hF a; intro v w' a hv hF
    obtain ⟨gX, rfl, hOX, hS'⟩ := hv
    have hX : Row FDx B _ _ _ (zints (rnL kn mn)) := hOX.row (by decide)
    clear hOX
    replace hf := hf.st hS'
    replace hS := hS.trans hS'
    clear hS'
    refine sv hF (v_move rfl) rfl ?_; clear hF a; intro a hF
    refine sc hF rfl rfl rfl en54 rfl (run_ok B 0 kn _ hS.inv (by omega)) ?_; clear hF a; intro v w' a hv hF
    obtain ⟨gY, rfl, hOY, hS'⟩ := hv
    have hY : Row FDx B _ _ _ (zints (rnL 0 kn)) := hOY.row (by decide)
    clear hOY
    replace hf := hf.st hS'
    replace hX := (hX.st hS').mono hS'.ext.size
    replace hS := hS.trans hS'
    clear hS'
    rw [show (Value.slice (some ⟨gX, 0, none⟩) mn mn) = .slice (some ⟨gX, 0, none⟩) (rnL kn mn).length mn by rw [rnL_length], show (Value.slice (some ⟨gY, 0, none⟩) kn kn) = .slice (some ⟨gY, 0, none⟩) (rnL 0 kn).length kn by rw [rnL_length]] at hF
    refine sc hF rfl rfl rfl en53 rfl (Of_ok B _ wb p hp fv _ _ mn kn (rnL kn mn) (rnL 0 kn) _ hS.inv (Nat.le_refl _) hf (by rw [rnL_length]; exact hX) (by rw [rnL_length]; exact hY) ⟨by rw [rnL_length]; simp only [maxLen]; omega, by rw [rnL_length]; simp only [maxLen]; omega⟩) ?_; clear hF a; intro v w' a hv hF
    obtain ⟨ob, u, rfl, hMO, hS'⟩ := hv
    replace hMO := hMO.le hS.ext.size (Nat.zero_le _)
    replace hS := hS.trans hS'
    clear hS'
    refine sv4 hF (v_ext rfl rfl) (v_ext rfl rfl) (v_assign rfl) (v_assign rfl) rfl rfl rfl rfl ?_; clear hF a; intro a hF
    refine WL_nil (hK _ _ ?_)
    clear hK K
    replace hF := hF.sub _ (c_ 7 rfl (c_ 6 rfl (n_)))
    refine W_ret ?_
    refine ⟨_, _, _, hF, rfl, rfl, ?_⟩
    rw [show cisaM hp (kn : Int) (mn : Int) = ofM hp (rnL kn mn) (rnL 0 kn) by unfold cisaM; rw [if_pos hb]; rfl]
    exact ⟨_, _, rfl, hMO, hS⟩

end Go.Proofs.YtkoiolamnnmokaaGreat

/- The walks of package vander. -/
set_option linter.unusedVariables false
set_option linter.unusedSimpArgs false
namespace Go.Proofs.YtkoiolamnnmokaaGreat
open Go Go.Gam


namespace FxFVan
theorem en23 : Ent Tryz.prog 23 := ent Tryz.func23 (by kernel_rfl) (by kernel_rfl)
theorem en55 : Ent Tryz.prog 55 := ent Tryz.func55 (by kernel_rfl) (by kernel_rfl)
theorem en56 : Ent Tryz.prog 56 := ent Tryz.func56 (by kernel_rfl) (by kernel_rfl)
theorem en58 : Ent Tryz.prog 58 := ent Tryz.func58 (by kernel_rfl) (by kernel_rfl)
theorem en86 : Ent Tryz.prog 86 := ent Tryz.func86 (by kernel_rfl) (by kernel_rfl)
theorem en87 : Ent Tryz.prog 87 := ent Tryz.func87 (by kernel_rfl) (by kernel_rfl)
theorem hmix : Tryz.prog.follows .mixedOrders = true := by kernel_rfl
theorem sc42 : Scalar Tryz.prog 42 := ⟨_, Tryz.underlying42, by simp, by simp⟩
theorem sl36 : Sl Tryz.prog 36 53 (.slice none 0 0) 24 := sl_of Tryz.underlying36 rfl (by kernel_rfl)
theorem sl53 : Sl Tryz.prog 53 3 (.int .i64 0) 8 := sl_of Tryz.underlying53 rfl (by kernel_rfl)
end FxFVan
open FxFVan

theorem Inverse_n (B M wb p : Nat) (hp : Prm wb p) (fv : Value) (pmt : Option Addr) (cmt n : Nat) (mt : Mtx) (w : World) (hI : Inv FDx B w) (hM : M ≤ w.heap.size) (hf : Fo FDx B w fv (some (wb, p))) (hA : Mat FDx B M w pmt cmt mt) (hl : mt.length ≤ maxLen) (hb : ∀ r ∈ mt, r.length ≤ maxLen) (hn : mt.length = n) :
  Ret Tryz.prog 23 [fv, .slice pmt n cmt] w fun v w' => ∃ ob u, v = .tuple #[u, .int .i64 (invR hp mt).1] ∧ MOwn FDx B w.heap.size 0 w'.heap.size w' 53 u ob (invR hp mt).2 ∧ St FDx B w w' := by
 subst hn; exact Inverse_ok B M wb p hp fv pmt cmt mt w hI hM hf hA hl hb

set_option maxRecDepth 100000 in
set_option maxHeartbeats 1000000 in
theorem fits_ok (B : Nat) (o : Fq) (fv : Value) (k m : Int) (w : World) (hf : Fo FDx B w fv o) : Ret Tryz.prog 55 [fv, .int .i64 k, .int .i64 m] w fun v w' => v = .bool (fitB o k m) ∧ w' = w := by
 refine enter 31 [(0, fv), (1, .int .i64 k), (2, .int .i64 m)] 6 Tryz.func55 rfl rfl rfl rfl rfl ?_; intro a hF
 obtain ⟨pa_, rfl, hpa⟩ := hf.ptr
 refine W_sr rfl (fun K hK => ?_)
 refine sv hF (v_assign rfl) rfl ?_; clear hF a; intro a hF
 refine WL_nil (hK _ _ ?_)
 clear hK K
 refine W_sr rfl (fun K hK => ?_)
 refine sv hF (v_move rfl) rfl ?_; clear hF a; intro a hF
 refine sb hF (v_neqNil (by exact Tryz.underlying42) rfl rfl) rfl ?_ ?_
 ·
  clear hF a; intro hc1 a hF
  try simp only [dcl] at hc1
  refine sv hF (v_move rfl) rfl ?_; clear hF a; intro a hF
  refine svg hF rfl ?_
  refine sv hF (v_move rfl) rfl ?_; clear hF a; intro a hF
  refine svg hF rfl ?_
  refine sb hF (v_geq rfl rfl) rfl ?_ ?_
  ·
   clear hF a; intro hc2 a hF
   try simp only [dcl] at hc2
   refine sv2 hF (v_pickT rfl rfl) (v_move rfl) rfl rfl ?_; clear hF a; intro a hF
   refine svg hF rfl ?_
   refine sv hF (v_move rfl) rfl ?_; clear hF a; intro a hF
   refine svg hF rfl ?_
   refine sb hF (v_geq rfl rfl) rfl ?_ ?_
   ·
    clear hF a; intro hc3 a hF
    try simp only [dcl] at hc3
    refine sv2 hF (v_pickT rfl rfl) (v_move rfl) rfl rfl ?_; clear hF a; intro a hF
    refine svg hF rfl ?_
    refine sv hF (v_move rfl) rfl ?_; clear hF a; intro a hF
    refine svg hF rfl ?_
    refine sb hF (v_lss rfl rfl) rfl ?_ ?_
    ·
     clear hF a; intro hc4 a hF
     try simp only [dcl] at hc4
     refine sv2 hF (v_pickT rfl rfl) (v_move rfl) rfl rfl ?_; clear hF a; intro a hF
     refine svg hF rfl ?_
     refine sv hF (v_move rfl) rfl ?_; clear hF a; intro a hF
     refine svg hF rfl ?_
     refine sb hF (v_lss rfl rfl) rfl ?_ ?_
     ·
      clear hF a; intro hc5 a hF
      try simp only [dcl] at hc5
      refine sv2 hF (v_pickT rfl rfl) (v_move rfl) rfl rfl ?_; clear hF a; intro a hF
      refine svg hF rfl ?_
      refine sv hF (v_move rfl) rfl ?_; clear hF a; intro a hF
      refine svg hF rfl ?_
      refine sv hF (v_move rfl) rfl ?_; clear hF a; intro a hF
      refine svg hF rfl ?_
      refine sv hF (v_addI rfl rfl (by omega)) rfl ?_; clear hF a; intro a hF
      refine svg hF rfl ?_
      refine sv hF (v_leq rfl rfl) rfl ?_; clear hF a; intro a hF
      refine sv2 hF (v_pickT rfl rfl) (v_assign rfl) rfl rfl ?_; clear hF a; intro a hF
      refine WL_nil (hK _ _ ?_)
      clear hK K
      replace hF := hF.sub _ (c_ 6 rfl (n_))
      refine W_ret ?_
      refine ⟨_, _, hF, rfl, ?_⟩
      refine ⟨congrArg Value.bool ?_, rfl⟩
      unfold fitB
      rw [← hpa]
      cases pa_ <;> first | (exfalso; simp_all; done) | (simp only [Option.isSome_some, Option.isSome_none, Bool.true_and, Bool.false_and]; done) | (simp only [Option.isSome_some, Bool.true_and]; first | (symm; rw [decide_eq_false_iff_not]; omega) | (rw [decide_eq_decide]; omega))
     ·
      clear hF a; intro hc5 a hF
      try simp only [dcl] at hc5
      refine sv2 hF (v_pickT rfl rfl) (v_move rfl) rfl rfl ?_; clear hF a; intro a hF
      refine svn hF rfl rfl rfl ?_; clear hF a; intro a hF
      refine svn hF rfl rfl rfl ?_; clear hF a; intro a hF
      refine svn hF rfl rfl rfl ?_; clear hF a; intro a hF
      refine svn hF rfl rfl rfl ?_; clear hF a; intro a hF
      refine sv2 hF (v_pickF rfl rfl) (v_assign rfl) rfl rfl ?_; clear hF a; intro a hF
      refine WL_nil (hK _ _ ?_)
      clear hK K
      replace hF := hF.sub _ (c_ 6 rfl (n_))
      refine W_ret ?_
      refine ⟨_, _, hF, rfl, ?_⟩
      refine ⟨congrArg Value.bool ?_, rfl⟩
      unfold fitB
      rw [← hpa]
      cases pa_ <;> first | (exfalso; simp_all; done) | (simp only [Option.isSome_some, Option.isSome_none, Bool.true_and, Bool.false_and]; done) | (simp only [Option.isSome_some, Bool.true_and]; first | (symm; rw [decide_eq_false_iff_not]; omega) | (rw [decide_eq_decide]; omega))
    ·
     clear hF a; intro hc4 a hF
     try simp only [dcl] at hc4
     refine sv2 hF (v_pickT rfl rfl) (v_move rfl) rfl rfl ?_; clear hF a; intro a hF
     refine svn hF rfl rfl rfl ?_; clear hF a; intro a hF
     refine svn hF rfl rfl rfl ?_; clear hF a; intro a hF
     refine sv2 hF (v_pickF rfl rfl) (v_move rfl) rfl rfl ?_; clear hF a; intro a hF
     refine svn hF rfl rfl rfl ?_; clear hF a; intro a hF
     refine svn hF rfl rfl rfl ?_; clear hF a; intro a hF
     refine svn hF rfl rfl rfl ?_; clear hF a; intro a hF
     refine svn hF rfl rfl rfl ?_; clear hF a; intro a hF
     refine sv2 hF (v_pickF rfl rfl) (v_assign rfl) rfl rfl ?_; clear hF a; intro a hF
     refine WL_nil (hK _ _ ?_)
     clear hK K
     replace hF := hF.sub _ (c_ 6 rfl (n_))
     refine W_ret ?_
     refine ⟨_, _, hF, rfl, ?_⟩
     refine ⟨congrArg Value.bool ?_, rfl⟩
     unfold fitB
     rw [← hpa]
     cases pa_ <;> first | (exfalso; simp_all; done) | (simp only [Option.isSome_some, Option.isSome_none, Bool.true_and, Bool.false_and]; done) | (simp only [Option.isSome_some, Bool.true_and]; first | (symm; rw [decide_eq_false_iff_not]; omega) | (rw [decide_eq_decide]; omega))
   ·
    clear hF a; intro hc3 a hF
    try simp only [dcl] at hc3
    refine sv2 hF (v_pickT rfl rfl) (v_move rfl) rfl rfl ?_; clear hF a; intro a hF
    refine svn hF rfl rfl rfl ?_; clear hF a; intro a hF
    refine svn hF rfl rfl rfl ?_; clear hF a; intro a hF
    refine sv2 hF (v_pickF rfl rfl) (v_move rfl) rfl rfl ?_; clear hF a; intro a hF
    refine svn hF rfl rfl rfl ?_; clear hF a; intro a hF
    refine svn hF rfl rfl rfl ?_; clear hF a; intro a hF
    refine sv2 hF (v_pickF rfl rfl) (v_move rfl) rfl rfl ?_; clear hF a; intro a hF
    refine svn hF rfl rfl rfl ?_; clear hF a; intro a hF
    refine svn hF rfl rfl rfl ?_; clear hF a; intro a hF
    refine svn hF rfl rfl rfl ?_; clear hF a; intro a hF
    refine svn hF rfl rfl rfl ?_; clear hF a; intro a hF
    refine sv2 hF (v_pickF rfl rfl) (v_assign rfl) rfl rfl ?_; clear hF a; intro a hF
    refine WL_nil (hK _ _ ?_)
    clear hK K
    replace hF := hF.sub _ (c_ 6 rfl (n_))
    refine W_ret ?_
    refine ⟨_, _, hF, rfl, ?_⟩
    refine ⟨congrArg Value.bool ?_, rfl⟩
    unfold fitB
    rw [← hpa]
    cases pa_ <;> first | (exfalso; simp_all; done) | (simp only [Option.isSome_some, Option.isSome_none, Bool.true_and, Bool.false_and]; done) | (simp only [Option.isSome_some, Bool.true_and]; first | (symm; rw [decide_eq_false_iff_not]; omega) | (rw [decide_eq_decide]; omega))
  ·
   clear hF a; intro hc2 a hF
   try simp only [dcl] at hc2
   refine sv2 hF (v_pickT rfl rfl) (v_move rfl) rfl rfl ?_; clear hF a; intro a hF
   refine svn hF rfl rfl rfl ?_; clear hF a; intro a hF
   refine svn hF rfl rfl rfl ?_; clear hF a; intro a hF
   refine sv2 hF (v_pickF rfl rfl) (v_move rfl) rfl rfl ?_; clear hF a; intro a hF
   refine svn hF rfl rfl rfl ?_; clear hF a; intro a hF
   refine svn hF rfl rfl rfl ?_; clear hF a; intro a hF
   refine sv2 hF (v_pickF rfl rfl) (v_move rfl) rfl rfl ?_; clear hF a; intro a hF
   refine svn hF rfl rfl rfl ?_; clear hF a; intro a hF
   refine svn hF rfl rfl rfl ?_; clear hF a; intro a hF
   refine sv2 hF (v_pickF rfl rfl) (v_move rfl) rfl rfl ?_; clear hF a; intro a hF
   refine svn hF rfl rfl rfl ?_; clear hF a; intro a hF
   refine svn hF rfl rfl rfl ?_; clear hF a; intro a hF
   refine svn hF rfl rfl rfl ?_; clear hF a; intro a hF
   refine svn hF rfl rfl rfl ?_; clear hF a; intro a hF
   refine sv2 hF (v_pickF rfl rfl) (v_assign rfl) rfl rfl ?_; clear hF a; intro a hF
   refine WL_nil (hK _ _ ?_)
   clear hK K
   replace hF := hF.sub _ (c_ 6 rfl (n_))
   refine W_ret ?_
   refine ⟨_, _, hF, rfl, ?_⟩
   refine ⟨congrArg Value.bool ?_, rfl⟩
   unfold fitB
   rw [← hpa]
   cases pa_ <;> first | (exfalso; simp_all; done) | (simp only [Option.isSome_some, Option.isSome_none, Bool.true_and, Bool.false_and]; done) | (simp only [Option.isSome_some, Bool.true_and]; first | (symm; rw [decide_eq_false_iff_not]; omega) | (rw [decide_eq_decide]; omega))
 ·
  clear hF a; intro hc1 a hF
  try simp only [dcl] at hc1
  refine sv hF (v_move rfl) rfl ?_; clear hF a; intro a hF
  refine svn hF rfl rfl rfl ?_; clear hF a; intro a hF
  refine svn hF rfl rfl rfl ?_; clear hF a; intro a hF
  refine sv2 hF (v_pickF rfl rfl) (v_move rfl) rfl rfl ?_; clear hF a; intro a hF
  refine svn hF rfl rfl rfl ?_; clear hF a; intro a hF
  refine svn hF rfl rfl rfl ?_; clear hF a; intro a hF
  refine sv2 hF (v_pickF rfl rfl) (v_move rfl) rfl rfl ?_; clear hF a; intro a hF
  refine svn hF rfl rfl rfl ?_; clear hF a; intro a hF
  refine svn hF rfl rfl rfl ?_; clear hF a; intro a hF
  refine sv2 hF (v_pickF rfl rfl) (v_move rfl) rfl rfl ?_; clear hF a; intro a hF
  refine svn hF rfl rfl rfl ?_; clear hF a; intro a hF
  refine svn hF rfl rfl rfl ?_; clear hF a; intro a hF
  refine sv2 hF (v_pickF rfl rfl) (v_move rfl) rfl rfl ?_; clear hF a; intro a hF
  refine svn hF rfl rfl rfl ?_; clear hF a; intro a hF
  refine svn hF rfl rfl rfl ?_; clear hF a; intro a hF
  refine svn hF rfl rfl rfl ?_; clear hF a; intro a hF
  refine svn hF rfl rfl rfl ?_; clear hF a; intro a hF
  refine sv2 hF (v_pickF rfl rfl) (v_assign rfl) rfl rfl ?_; clear hF a; intro a hF
  refine WL_nil (hK _ _ ?_)
  clear hK K
  replace hF := hF.sub _ (c_ 6 rfl (n_))
  refine W_ret ?_
  refine ⟨_, _, hF, rfl, ?_⟩
  refine ⟨congrArg Value.bool ?_, rfl⟩
  unfold fitB
  rw [← hpa]
  cases pa_ <;> first | (exfalso; simp_all; done) | (simp only [Option.isSome_some, Option.isSome_none, Bool.true_and, Bool.false_and]; done) | (simp only [Option.isSome_some, Bool.true_and]; first | (symm; rw [decide_eq_false_iff_not]; omega) | (rw [decide_eq_decide]; omega))

set_option maxRecDepth 100000 in
set_option maxHeartbeats 1000000 in
theorem made_ok (B n m : Nat) (g : FuncId) (lb : List Value) (f : Tb) (w : World) (hI : Inv FDx B w) (hn : n ≤ 100 ∧ m ≤ 100) (eg : Ent Tryz.prog g) (hc : ∀ i j, i < n → j < m → ∀ w1, St FDx B w w1 → Ret Tryz.prog g (.int .i64 (i : Int) :: .int .i64 (j : Int) :: lb) w1 fun v w' => v = .int .i64 (f i j : Int) ∧ St FDx B w1 w') : Ret Tryz.prog 56 [.int .i64 (n : Int), .int .i64 (m : Int), .func (.func g) ([] : List Value).toArray (lb : List Value).toArray] w fun v w' => ∃ ob, MOwn FDx B w.heap.size 0 w'.heap.size w' 53 v ob (tab n m f) ∧ St FDx B w w' := by
 refine enter 33 [(0, .int .i64 (n : Int)), (1, .int .i64 (m : Int)), (2, .func (.func g) ([] : List Value).toArray (lb : List Value).toArray)] 6 Tryz.func56 rfl rfl rfl rfl rfl ?_; intro a hF
 have hS := St.refl hI
 refine W_sr rfl (fun K hK => ?_)
 refine sv hF (v_assign rfl) rfl ?_; clear hF a; intro a hF
 refine WL_nil (hK _ _ ?_)
 clear hK K
 refine W_sr rfl (fun K hK => ?_)
 refine sv hF (v_assign rfl) rfl ?_; clear hF a; intro a hF
 refine WL_nil (hK _ _ ?_)
 clear hK K
 refine W_seq ?_
 refine W_sr rfl (fun K hK => ?_)
 refine sv2 hF (v_move rfl) (v_move rfl) rfl rfl ?_; clear hF a; intro a hF
 refine WL_nil (hK _ _ ?_)
 clear hK K
 replace hF := hF.sub _ (c_ 12 rfl (c_ 11 rfl (c_ 7 rfl (c_ 6 rfl (c_ 1 rfl (c_ 2 rfl (n_)))))))
 refine W_block ?_
 refine W_loop (fun q a w1 => ∃ (i : Nat) (v7 : Value) (b7 : Option Nat), Fr 33 [(1, .int .i64 (m : Int)), (2, .func (.func g) ([] : List Value).toArray (lb : List Value).toArray), (7, v7), (11, .int .i64 (n : Int)), (12, .int .i64 (i : Int))] a ∧ (St FDx B w w1) ∧ (MOwn FDx B w.heap.size 0 w1.heap.size w1 53 v7 b7 ((List.range i).map (trow m f))) ∧ (i ≤ n) ∧ (q + i = n)) (n) ?_ ?_
 ·
  skip
  exact ⟨0, _, none, hF.sub _ (c_ 1 rfl (c_ 2 rfl (c_ 7 rfl (c_ 11 rfl (c_ 12 rfl (n_)))))), hS, MOwn.nil _ _ _ _ _ _ _ (Nat.zero_le _), by omega, by omega⟩
 ·
  skip
  clear hF
  clear hS
  rintro q a w1 ⟨i, v7, b7, hF, hS, hMO, hi, hq⟩
  obtain ⟨KM, hKe⟩ : ∃ KM, KM = w1.heap.size := ⟨_, rfl⟩
  rw [← hKe] at hMO
  have hKs : KM ≤ w1.heap.size := by omega
  have hNK : w.heap.size ≤ KM := by have := hS.ext.size; omega
  clear hKe
  refine W_sr rfl (fun K hK => ?_)
  refine sv hF (v_lss rfl rfl) rfl ?_; clear hF a; intro a hF
  refine WL_nil (hK _ _ ?_)
  clear hK K
  refine W_seq ?_
  refine W_if hF rfl (fun hc1 => ?_) (fun hc1 => ?_)
  ·
   skip
   try simp only [dcl] at hc1
   have hlt : i < n := by omega
   refine W_skip ?_
   refine W_seq ?_
   refine W_block ?_
   refine W_sr rfl (fun K hK => ?_)
   refine sv2 hF (v_move rfl) (v_assign rfl) rfl rfl ?_; clear hF a; intro a hF
   refine WL_nil (hK _ _ ?_)
   clear hK K
   replace hF := hF.sub _ (c_ 8 rfl (c_ 1 rfl (c_ 2 rfl (c_ 7 rfl (c_ 11 rfl (c_ 12 rfl (n_)))))))
   refine W_sr rfl (fun K hK => ?_)
   refine sv hF (v_assign rfl) rfl ?_; clear hF a; intro a hF
   refine WL_nil (hK _ _ ?_)
   clear hK K
   refine W_seq ?_
   refine W_sr rfl (fun K hK => ?_)
   refine sv2 hF (v_move rfl) (v_move rfl) rfl rfl ?_; clear hF a; intro a hF
   refine WL_nil (hK _ _ ?_)
   clear hK K
   refine W_block ?_
   refine W_loop (fun q2 a w2 => ∃ (j : Nat) (v9 : Value) (b9 : Option Nat), Fr 33 [(1, .int .i64 (m : Int)), (2, .func (.func g) ([] : List Value).toArray (lb : List Value).toArray), (7, v7), (8, .int .i64 (i : Int)), (9, v9), (11, .int .i64 (n : Int)), (12, .int .i64 (i : Int)), (15, .int .i64 (m : Int)), (16, .int .i64 (j : Int))] a ∧ (St FDx B w w2) ∧ (MOwn FDx B w.heap.size 0 KM w2 53 v7 b7 ((List.range i).map (trow m f))) ∧ (KM ≤ w2.heap.size) ∧ (Gam.Own FDx B KM w2 FDx.E v9 b9 (zints ((List.range j).map fun j => (f i j : Int)))) ∧ (j ≤ m) ∧ (q2 + j = m)) (m) ?_ ?_
   ·
    skip
    exact ⟨0, _, none, hF.sub _ (c_ 1 rfl (c_ 2 rfl (c_ 7 rfl (c_ 8 rfl (c_ 9 rfl (c_ 11 rfl (c_ 12 rfl (c_ 15 rfl (c_ 16 rfl (n_)))))))))), hS, hMO, hKs, Gam.Own.nil _ _ _ _ _, by omega, by omega⟩
   ·
    skip
    clear hF
    clear hS hMO hKs
    rintro q2 a w2 ⟨j, v9, b9, hF, hS, hMO, hKs, hO, hj, hq2⟩
    refine W_sr rfl (fun K hK => ?_)
    refine sv hF (v_lss rfl rfl) rfl ?_; clear hF a; intro a hF
    refine WL_nil (hK _ _ ?_)
    clear hK K
    refine W_seq ?_
    refine W_if hF rfl (fun hc2 => ?_) (fun hc2 => ?_)
    ·
     skip
     try simp only [dcl] at hc2
     have hlt2 : j < m := by omega
     refine W_skip ?_
     refine W_seq ?_
     refine W_block ?_
     refine W_sr rfl (fun K hK => ?_)
     refine sv2 hF (v_move rfl) (v_assign rfl) rfl rfl ?_; clear hF a; intro a hF
     refine WL_nil (hK _ _ ?_)
     clear hK K
     replace hF := hF.sub _ (c_ 10 rfl (c_ 1 rfl (c_ 2 rfl (c_ 7 rfl (c_ 8 rfl (c_ 9 rfl (c_ 11 rfl (c_ 12 rfl (c_ 15 rfl (c_ 16 rfl (n_)))))))))))
     refine W_reg rfl (fun K hK => ?_)
     refine sv4 hF (v_move rfl) (v_move rfl) (v_move rfl) (v_move rfl) rfl rfl rfl rfl ?_; clear hF a; intro a hF
     refine sc hF rfl rfl rfl eg rfl (hc i j hlt hlt2 _ hS) ?_; clear hF a; intro v w' a hv hF
     obtain ⟨rfl, hS'⟩ := hv
     replace hMO := hMO.st (by decide) hS'
     replace hKs := Nat.le_trans hKs hS'.ext.size
     replace hO := hO.st (by decide) hS'
     replace hS := hS.trans hS'
     clear hS'
     refine s_bs (D := FDx) (B := B) hF sl53 rfl rfl (by decide) (by simp [Value.cells]) (by decide) hS.inv rfl ?_; clear hF a; intro w' a hm hI' hL hF
     replace hMO := hMO.mb0 hm
     replace hKs := Nat.le_trans hKs hm.size
     replace hO := hO.mb hm (fun _ _ => by simp)
     replace hS := hS.mb0 hm
     clear hm hI'
     refine s_app (D := FDx) (B := B) hF rfl sl53 rfl rfl hO (hL.row (by decide)) (by simp [Value.oneCell']) (by simp; omega) (by simp [maxLen]; omega) (hKs) (by decide) hS.inv rfl ?_; clear hF a; intro v' b' w' a ho' hm hI' hb' hF
     replace hMO := hMO.mbo hm hO (by decide) (Nat.le_refl _) (Nat.zero_le _)
     replace hKs := Nat.le_trans hKs hm.size
     replace hS := hS.mb hm (fun k h => Nat.le_trans (hNK) (hO.lt k h).1)
     replace hO := ho'
     clear hm hI' ho'
     refine sv hF (v_assign rfl) rfl ?_; clear hF a; intro a hF
     refine WL_nil (hK _ _ ?_)
     clear hK K
     replace hF := hF.sub _ (c_ 9 rfl (c_ 1 rfl (c_ 2 rfl (c_ 7 rfl (c_ 8 rfl (c_ 11 rfl (c_ 12 rfl (c_ 15 rfl (c_ 16 rfl (n_))))))))))
     refine W_reg rfl (fun K hK => ?_)
     refine sv hF (v_addI rfl rfl (by omega)) rfl ?_; clear hF a; intro a hF
     refine sv hF (v_move rfl) rfl ?_; clear hF a; intro a hF
     refine WL_nil (hK _ _ ?_)
     clear hK K
     exact ⟨q2 - 1, by omega, j + 1, _, _, hF.sub _ (c_ 1 rfl (c_ 2 rfl (c_ 7 rfl (c_ 8 rfl (c_ 9 rfl (c_ 11 rfl (c_ 12 rfl (c_ 15 rfl (c_ 16 rfl (n_)))))))))), hS, hMO, hKs, hO.cast (by rw [List.range_succ, List.map_append]; simp [zints]), by omega, by omega⟩
    ·
     skip
     try simp only [dcl] at hc2
     have hjm : j = m := by omega
     rw [hjm] at hO
     refine W_exit rfl ?_
     refine W_reg rfl (fun K hK => ?_)
     refine sv2 hF (v_move rfl) (v_move rfl) rfl rfl ?_; clear hF a; intro a hF
     obtain ⟨a_, c_r, rfl⟩ := hO.shape
     refine s_bs (D := FDx) (B := B) hF sl36 rfl rfl (by decide) (by simp [Value.cells]) (by decide) hS.inv rfl ?_; clear hF a; intro w' a hm hI' hL hF
     replace hMO := hMO.mb0 hm
     replace hKs := Nat.le_trans hKs hm.size
     replace hO := hO.mb hm (fun _ _ => by simp)
     replace hS := hS.mb0 hm
     clear hm hI'
     replace hMO := hMO.up hKs
     clear hKs
     refine s_appM (D := FDx) (B := B) hF rfl sl36 rfl rfl hMO hL (.of (r := trow m f i) hO (Nat.zero_le _)) rfl rfl (by simp; omega) (hS.ext.size) (by decide) (by decide) hS.inv rfl ?_; clear hF a; intro v' b' w' a ho' hm hI' hF
     replace hS := hS.mb hm (fun k h => (hMO.lt k h).1)
     have hKm := hm.size
     replace hMO := ho'
     clear hm hI' ho' hL
     refine sv hF (v_assign rfl) rfl ?_; clear hF a; intro a hF
     refine WL_nil (hK _ _ ?_)
     clear hK K
     replace hF := hF.sub _ (c_ 7 rfl (c_ 30 rfl (c_ 29 rfl (c_ 28 rfl (c_ 27 rfl (c_ 1 rfl (c_ 2 rfl (c_ 8 rfl (c_ 9 rfl (c_ 11 rfl (c_ 12 rfl (c_ 15 rfl (c_ 16 rfl (n_))))))))))))))
     refine W_reg rfl (fun K hK => ?_)
     refine sv hF (v_addI rfl rfl (by omega)) rfl ?_; clear hF a; intro a hF
     refine sv hF (v_move rfl) rfl ?_; clear hF a; intro a hF
     refine WL_nil (hK _ _ ?_)
     clear hK K
     exact ⟨q - 1, by omega, i + 1, _, _, hF.sub _ (c_ 1 rfl (c_ 2 rfl (c_ 7 rfl (c_ 11 rfl (c_ 12 rfl (n_)))))), hS, (hMO.up hKm).cast (by rw [List.range_succ, List.map_append]; rfl), by omega, by omega⟩
  ·
   skip
   try simp only [dcl] at hc1
   refine W_exit rfl ?_
   refine W_sr rfl (fun K hK => ?_)
   refine sv2 hF (v_move rfl) (v_assign rfl) rfl rfl ?_; clear hF a; intro a hF
   refine WL_nil (hK _ _ ?_)
   clear hK K
   replace hF := hF.sub _ (c_ 6 rfl (c_ 32 rfl (c_ 1 rfl (c_ 2 rfl (c_ 7 rfl (c_ 11 rfl (c_ 12 rfl (n_))))))))
   refine W_ret ?_
   refine ⟨_, _, hF, rfl, ?_⟩
   obtain rfl : i = n := by omega
   exact ⟨_, (hMO.up hKs).cast rfl, hS⟩

set_option maxRecDepth 100000 in
set_option maxHeartbeats 1000000 in
theorem Raw1_ok (B : Nat) (o : Fq) (fv : Value) (pf i j : Nat) (w : World) (hI : Inv FDx B w) (hf : Fo FDx B w fv o) (hkf : KC FDx B w ⟨pf, 0, none⟩ fv) (hij : i ≤ 100 ∧ j ≤ 100) : Ret Tryz.prog 106 [.int .i64 (i : Int), .int .i64 (j : Int), .pointer (some ⟨pf, 0, none⟩)] w fun v w' => v = .int .i64 (pwT o i j : Int) ∧ St FDx B w w' := by
 refine enter 10 [(0, .int .i64 (i : Int)), (1, .int .i64 (j : Int)), (2, .pointer (some ⟨pf, 0, none⟩))] 5 Tryz.func106 rfl rfl rfl rfl rfl ?_; intro a hF
 have hS := St.refl hI
 refine W_sr rfl (fun K hK => ?_)
 refine sv hF (v_assign rfl) rfl ?_; clear hF a; intro a hF
 refine WL_nil (hK _ _ ?_)
 clear hK K
 refine W_sr rfl (fun K hK => ?_)
 refine sv hF (v_load sc42 rfl hkf.c) rfl ?_; clear hF a; intro a hF
 refine sv2 hF (v_move rfl) (v_move rfl) rfl rfl ?_; clear hF a; intro a hF
 refine sc hF rfl rfl rfl en58 rfl (Pow_gf B o fv (i : Int) (j : Int) _ hS.inv hf (by omega)) ?_; clear hF a; intro v w' a hv hF
 obtain ⟨rfl, hS'⟩ := hv
 replace hS := hS.trans hS'
 clear hS'
 refine sv hF (v_assign rfl) rfl ?_; clear hF a; intro a hF
 refine WL_nil (hK _ _ ?_)
 clear hK K
 replace hF := hF.sub _ (c_ 5 rfl (n_))
 refine W_ret ?_
 refine ⟨_, _, hF, rfl, ?_⟩
 exact ⟨congrArg _ (pwT_nn hf.prms _ _).symm, hS⟩

set_option maxRecDepth 100000 in
set_option maxHeartbeats 1000000 in
theorem Isal1_ok (B : Nat) (o : Fq) (fv : Value) (pf i j : Nat) (w : World) (hI : Inv FDx B w) (hf : Fo FDx B w fv o) (hkf : KC FDx B w ⟨pf, 0, none⟩ fv) (hij : i ≤ 100 ∧ j ≤ 100) : Ret Tryz.prog 57 [.int .i64 (i : Int), .int .i64 (j : Int), .pointer (some ⟨pf, 0, none⟩)] w fun v w' => v = .int .i64 (isT o i j : Int) ∧ St FDx B w w' := by
 refine enter 12 [(0, .int .i64 (i : Int)), (1, .int .i64 (j : Int)), (2, .pointer (some ⟨pf, 0, none⟩))] 5 Tryz.func57 rfl rfl rfl rfl rfl ?_; intro a hF
 have hS := St.refl hI
 refine W_sr rfl (fun K hK => ?_)
 refine sv hF (v_assign rfl) rfl ?_; clear hF a; intro a hF
 refine WL_nil (hK _ _ ?_)
 clear hK K
 refine W_sd (m := 7) rfl hmix hS.inv (fun K hK w1 hS' hh => ?_)
 replace hf := hf.st hS'
 replace hkf := hkf.st hS'
 replace hS := hS.trans hS'
 clear hS'
 clear hh
 refine a_v (i := 0) rfl (by kernel_rfl) hF (fun w2 hx => v_load sc42 rfl (hkf.ld hx)) rfl ?_; clear hF a; intro a hF
 refine a_v (i := 1) rfl (by kernel_rfl) hF (fun w2 hx => v_load sc42 rfl (hkf.ld hx)) rfl ?_; clear hF a; intro a hF
 refine a_v (i := 2) rfl (by kernel_rfl) hF (fun w2 hx => v_move rfl) rfl ?_; clear hF a; intro a hF
 refine a_v (i := 4) rfl (by kernel_rfl) hF (fun w2 hx => v_move rfl) rfl ?_; clear hF a; intro a hF
 refine a_e (i := 3) rfl (by kernel_rfl) ?_
 refine sc hF rfl rfl rfl en58 rfl (Pow_gf B o fv 2 (i : Int) _ hS.inv hf (by omega)) ?_; clear hF a; intro v w' a hv hF
 obtain ⟨rfl, hS'⟩ := hv
 refine WL_nil ⟨hS'.ext, ?_⟩
 replace hf := hf.st hS'
 replace hkf := hkf.st hS'
 replace hS := hS.trans hS'
 clear hS'
 refine a_e (i := 5) rfl (by kernel_rfl) ?_
 refine sc hF rfl rfl rfl en58 rfl (Pow_gf B o fv (gpow o 2 (i : Int)) (j : Int) _ hS.inv hf (by omega)) ?_; clear hF a; intro v w' a hv hF
 obtain ⟨rfl, hS'⟩ := hv
 refine WL_nil ⟨hS'.ext, ?_⟩
 replace hf := hf.st hS'
 replace hkf := hkf.st hS'
 replace hS := hS.trans hS'
 clear hS'
 refine a_v (i := 6) rfl (by kernel_rfl) hF (fun w2 hx => v_assign rfl) rfl ?_; clear hF a; intro a hF
 refine a_done (by kernel_rfl) (hK _ _ ?_)
 clear hK K
 replace hF := hF.sub _ (c_ 5 rfl (n_))
 refine W_ret ?_
 refine ⟨_, _, hF, rfl, ?_⟩
 exact ⟨congrArg _ (pwT_nn hf.prms _ _).symm, hS⟩

set_option maxRecDepth 100000 in
set_option maxHeartbeats 1000000 in
theorem Raw_ok (B : Nat) (o : Fq) (fv : Value) (k m : Int) (w : World) (hI : Inv FDx B w) (hf : Fo FDx B w fv o) : Ret Tryz.prog 86 [fv, .int .i64 k, .int .i64 m] w fun v w' => ∃ ob u, v = .tuple #[u, .int .i64 (errV (rawM o k m))] ∧ MOwn FDx B w.heap.size 0 w'.heap.size w' 53 u ob ((rawM o k m).getD []) ∧ St FDx B w w' := by
 refine enter2 30 [(0, fv), (1, .int .i64 k), (2, .int .i64 m)] 6 7 Tryz.func86 rfl rfl rfl rfl rfl ?_; intro a hF
 have hS := St.refl hI
 obtain ⟨pa_, rfl, hpa⟩ := hf.ptr
 refine W_sr rfl (fun K hK => ?_)
 obtain ⟨pf, hpf⟩ : ∃ pf, pf = w.heap.size := ⟨_, rfl⟩
 refine s_boxN (D := FDx) (B := B) hF rfl (hf.cells1) (by decide) hS.inv rfl ?_; clear hF a; intro w' a hm hI' hbf hsz hF
 replace hf := hf.mb hm
 replace hS := hS.mb0 hm
 clear hm hI' hsz
 rw [← hpf] at hbf hF
 have hkf := hbf.kc
 clear hbf
 refine sv2 hF (v_assign rfl) (v_assign rfl) rfl rfl ?_; clear hF a; intro a hF
 refine WL_nil (hK _ _ ?_)
 clear hK K
 replace hF := hF.sub _ (c_ 7 rfl (c_ 6 rfl (c_ 3 rfl (c_ 1 rfl (c_ 2 rfl (n_))))))
 refine W_seq ?_
 refine W_sr rfl (fun K hK => ?_)
 refine sv hF (v_load sc42 rfl hkf.c) rfl ?_; clear hF a; intro a hF
 refine sb hF (v_eqlNil (by exact Tryz.underlying42) rfl rfl) rfl ?_ ?_
 ·
  clear hF a; intro hc1 a hF
  try simp only [dcl] at hc1
  refine sv hF (v_move rfl) rfl ?_; clear hF a; intro a hF
  refine svn hF rfl rfl rfl ?_; clear hF a; intro a hF
  refine svn hF rfl rfl rfl ?_; clear hF a; intro a hF
  refine sv2 hF (v_pickT rfl rfl) (v_move rfl) rfl rfl ?_; clear hF a; intro a hF
  refine svn hF rfl rfl rfl ?_; clear hF a; intro a hF
  refine svn hF rfl rfl rfl ?_; clear hF a; intro a hF
  refine sv2 hF (v_pickT rfl rfl) (v_move rfl) rfl rfl ?_; clear hF a; intro a hF
  refine svn hF rfl rfl rfl ?_; clear hF a; intro a hF
  refine svn hF rfl rfl rfl ?_; clear hF a; intro a hF
  refine sv2 hF (v_pickT rfl rfl) (v_move rfl) rfl rfl ?_; clear hF a; intro a hF
  refine svn hF rfl rfl rfl ?_; clear hF a; intro a hF
  refine svn hF rfl rfl rfl ?_; clear hF a; intro a hF
  refine sv hF (v_pickT rfl rfl) rfl ?_; clear hF a; intro a hF
  refine WL_nil (hK _ _ ?_)
  clear hK K
  replace hF := hF.sub _ (c_ 25 rfl (c_ 7 rfl (c_ 6 rfl (c_ 3 rfl (c_ 1 rfl (c_ 2 rfl (n_)))))))
  refine W_ifT hF rfl ?_
  refine W_sr rfl (fun K hK => ?_)
  refine sv2 hF (v_assign rfl) (v_assign rfl) rfl rfl ?_; clear hF a; intro a hF
  refine WL_nil (hK _ _ ?_)
  clear hK K
  replace hF := hF.sub _ (c_ 7 rfl (c_ 6 rfl (c_ 3 rfl (c_ 1 rfl (c_ 2 rfl (n_))))))
  refine W_ret ?_
  refine ⟨_, _, _, hF, rfl, rfl, ?_⟩
  have hb : rawB o k m = false := by unfold rawB; rw [← hpa]; cases pa_ <;> first | (exfalso; simp_all; done) | rfl | (rw [decide_eq_false (by omega)]; rfl)
  rw [rawM_no hb]
  exact ⟨none, _, rfl, MOwn.nil _ _ _ _ _ _ _ (Nat.zero_le _), hS⟩
 ·
  clear hF a; intro hc1 a hF
  try simp only [dcl] at hc1
  refine sv hF (v_move rfl) rfl ?_; clear hF a; intro a hF
  refine svg hF rfl ?_
  refine sv hF (v_move rfl) rfl ?_; clear hF a; intro a hF
  refine svg hF rfl ?_
  refine sb hF (v_lss rfl rfl) rfl ?_ ?_
  ·
   clear hF a; intro hc2 a hF
   try simp only [dcl] at hc2
   refine sv2 hF (v_pickF rfl rfl) (v_move rfl) rfl rfl ?_; clear hF a; intro a hF
   refine svn hF rfl rfl rfl ?_; clear hF a; intro a hF
   refine svn hF rfl rfl rfl ?_; clear hF a; intro a hF
   refine sv2 hF (v_pickT rfl rfl) (v_move rfl) rfl rfl ?_; clear hF a; intro a hF
   refine svn hF rfl rfl rfl ?_; clear hF a; intro a hF
   refine svn hF rfl rfl rfl ?_; clear hF a; intro a hF
   refine sv2 hF (v_pickT rfl rfl) (v_move rfl) rfl rfl ?_; clear hF a; intro a hF
   refine svn hF rfl rfl rfl ?_; clear hF a; intro a hF
   refine svn hF rfl rfl rfl ?_; clear hF a; intro a hF
   refine sv hF (v_pickT rfl rfl) rfl ?_; clear hF a; intro a hF
   refine WL_nil (hK _ _ ?_)
   clear hK K
   replace hF := hF.sub _ (c_ 25 rfl (c_ 7 rfl (c_ 6 rfl (c_ 3 rfl (c_ 1 rfl (c_ 2 rfl (n_)))))))
   refine W_ifT hF rfl ?_
   refine W_sr rfl (fun K hK => ?_)
   refine sv2 hF (v_assign rfl) (v_assign rfl) rfl rfl ?_; clear hF a; intro a hF
   refine WL_nil (hK _ _ ?_)
   clear hK K
   replace hF := hF.sub _ (c_ 7 rfl (c_ 6 rfl (c_ 3 rfl (c_ 1 rfl (c_ 2 rfl (n_))))))
   refine W_ret ?_
   refine ⟨_, _, _, hF, rfl, rfl, ?_⟩
   have hb : rawB o k m = false := by unfold rawB; rw [← hpa]; cases pa_ <;> first | (exfalso; simp_all; done) | rfl | (rw [decide_eq_false (by omega)]; rfl)
   rw [rawM_no hb]
   exact ⟨none, _, rfl, MOwn.nil _ _ _ _ _ _ _ (Nat.zero_le _), hS⟩
  ·
   clear hF a; intro hc2 a hF
   try simp only [dcl] at hc2
   refine sv2 hF (v_pickF rfl rfl) (v_move rfl) rfl rfl ?_; clear hF a; intro a hF
   refine svg hF rfl ?_
   refine sv hF (v_move rfl) rfl ?_; clear hF a; intro a hF
   refine svg hF rfl ?_
   refine sb hF (v_gtr rfl rfl) rfl ?_ ?_
   ·
    clear hF a; intro hc3 a hF
    try simp only [dcl] at hc3
    refine sv2 hF (v_pickF rfl rfl) (v_move rfl) rfl rfl ?_; clear hF a; intro a hF
    refine svn hF rfl rfl rfl ?_; clear hF a; intro a hF
    refine svn hF rfl rfl rfl ?_; clear hF a; intro a hF
    refine sv2 hF (v_pickT rfl rfl) (v_move rfl) rfl rfl ?_; clear hF a; intro a hF
    refine svn hF rfl rfl rfl ?_; clear hF a; intro a hF
    refine svn hF rfl rfl rfl ?_; clear hF a; intro a hF
    refine sv hF (v_pickT rfl rfl) rfl ?_; clear hF a; intro a hF
    refine WL_nil (hK _ _ ?_)
    clear hK K
    replace hF := hF.sub _ (c_ 25 rfl (c_ 7 rfl (c_ 6 rfl (c_ 3 rfl (c_ 1 rfl (c_ 2 rfl (n_)))))))
    refine W_ifT hF rfl ?_
    refine W_sr rfl (fun K hK => ?_)
    refine sv2 hF (v_assign rfl) (v_assign rfl) rfl rfl ?_; clear hF a; intro a hF
    refine WL_nil (hK _ _ ?_)
    clear hK K
    replace hF := hF.sub _ (c_ 7 rfl (c_ 6 rfl (c_ 3 rfl (c_ 1 rfl (c_ 2 rfl (n_))))))
    refine W_ret ?_
    refine ⟨_, _, _, hF, rfl, rfl, ?_⟩
    have hb : rawB o k m = false := by unfold rawB; rw [← hpa]; cases pa_ <;> first | (exfalso; simp_all; done) | rfl | (rw [decide_eq_false (by omega)]; rfl)
    rw [rawM_no hb]
    exact ⟨none, _, rfl, MOwn.nil _ _ _ _ _ _ _ (Nat.zero_le _), hS⟩
   ·
    clear hF a; intro hc3 a hF
    try simp only [dcl] at hc3
    refine sv2 hF (v_pickF rfl rfl) (v_move rfl) rfl rfl ?_; clear hF a; intro a hF
    refine svg hF rfl ?_
    refine sv hF (v_move rfl) rfl ?_; clear hF a; intro a hF
    refine svg hF rfl ?_
    refine sb hF (v_lss rfl rfl) rfl ?_ ?_
    ·
     clear hF a; intro hc4 a hF
     try simp only [dcl] at hc4
     refine sv2 hF (v_pickF rfl rfl) (v_move rfl) rfl rfl ?_; clear hF a; intro a hF
     refine svn hF rfl rfl rfl ?_; clear hF a; intro a hF
     refine svn hF rfl rfl rfl ?_; clear hF a; intro a hF
     refine sv hF (v_pickT rfl rfl) rfl ?_; clear hF a; intro a hF
     refine WL_nil (hK _ _ ?_)
     clear hK K
     replace hF := hF.sub _ (c_ 25 rfl (c_ 7 rfl (c_ 6 rfl (c_ 3 rfl (c_ 1 rfl (c_ 2 rfl (n_)))))))
     refine W_ifT hF rfl ?_
     refine W_sr rfl (fun K hK => ?_)
     refine sv2 hF (v_assign rfl) (v_assign rfl) rfl rfl ?_; clear hF a; intro a hF
     refine WL_nil (hK _ _ ?_)
     clear hK K
     replace hF := hF.sub _ (c_ 7 rfl (c_ 6 rfl (c_ 3 rfl (c_ 1 rfl (c_ 2 rfl (n_))))))
     refine W_ret ?_
     refine ⟨_, _, _, hF, rfl, rfl, ?_⟩
     have hb : rawB o k m = false := by unfold rawB; rw [← hpa]; cases pa_ <;> first | (exfalso; simp_all; done) | rfl | (rw [decide_eq_false (by omega)]; rfl)
     rw [rawM_no hb]
     exact ⟨none, _, rfl, MOwn.nil _ _ _ _ _ _ _ (Nat.zero_le _), hS⟩
    ·
     clear hF a; intro hc4 a hF
     try simp only [dcl] at hc4
     refine sv2 hF (v_pickF rfl rfl) (v_move rfl) rfl rfl ?_; clear hF a; intro a hF
     refine svg hF rfl ?_
     refine sv hF (v_move rfl) rfl ?_; clear hF a; intro a hF
     refine svg hF rfl ?_
     refine sv hF (v_gtr rfl rfl) rfl ?_; clear hF a; intro a hF
     refine sv hF (v_pickF rfl rfl) rfl ?_; clear hF a; intro a hF
     refine WL_nil (hK _ _ ?_)
     clear hK K
     replace hF := hF.sub _ (c_ 25 rfl (c_ 7 rfl (c_ 6 rfl (c_ 3 rfl (c_ 1 rfl (c_ 2 rfl (n_)))))))
     refine W_if hF rfl (fun hc5 => ?_) (fun hc5 => ?_)
     ·
      skip
      try simp only [dcl] at hc5
      refine W_sr rfl (fun K hK => ?_)
      refine sv2 hF (v_assign rfl) (v_assign rfl) rfl rfl ?_; clear hF a; intro a hF
      refine WL_nil (hK _ _ ?_)
      clear hK K
      replace hF := hF.sub _ (c_ 7 rfl (c_ 6 rfl (c_ 3 rfl (c_ 1 rfl (c_ 2 rfl (n_))))))
      refine W_ret ?_
      refine ⟨_, _, _, hF, rfl, rfl, ?_⟩
      have hb : rawB o k m = false := by unfold rawB; rw [← hpa]; cases pa_ <;> first | (exfalso; simp_all; done) | rfl | (rw [decide_eq_false (by omega)]; rfl)
      rw [rawM_no hb]
      exact ⟨none, _, rfl, MOwn.nil _ _ _ _ _ _ _ (Nat.zero_le _), hS⟩
     ·
      skip
      try simp only [dcl] at hc5
      have hb : rawB o k m = true := by unfold rawB; rw [← hpa]; cases pa_ <;> first | (exfalso; simp_all; done) | (rw [decide_eq_true (by omega)]; rfl)
      obtain ⟨kn, rfl⟩ : ∃ n : Nat, k = (n : Int) := ⟨k.toNat, by omega⟩
      obtain ⟨mn, rfl⟩ : ∃ n : Nat, m = (n : Int) := ⟨m.toNat, by omega⟩
      refine W_skip ?_
      refine W_sr rfl (fun K hK => ?_)
      refine sv2 hF (v_move rfl) (v_move rfl) rfl rfl ?_; clear hF a; intro a hF
      refine sv hF (v_mkf (cs := [.tmp 3]) (vs := [.pointer (some ⟨pf, 0, none⟩)]) rfl) rfl ?_; clear hF a; intro a hF
      refine sc hF rfl rfl rfl en56 rfl (made_ok B kn mn 106 [.pointer (some ⟨pf, 0, none⟩)] (pwT o) _ hS.inv (by omega) (ent Tryz.func106 (by kernel_rfl) (by kernel_rfl)) (fun i j hi hj w1 hs => Raw1_ok B o _ pf i j w1 hs.inv (hf.st hs) (hkf.st hs) (by omega))) ?_; clear hF a; intro v w' a hv hF
      obtain ⟨ob, hMO, hS'⟩ := hv
      replace hMO := hMO.le hS.ext.size (Nat.zero_le _)
      replace hf := hf.st hS'
      replace hkf := hkf.st hS'
      replace hS := hS.trans hS'
      clear hS'
      refine sv2 hF (v_assign rfl) (v_assign rfl) rfl rfl ?_; clear hF a; intro a hF
      refine WL_nil (hK _ _ ?_)
      clear hK K
      replace hF := hF.sub _ (c_ 7 rfl (c_ 6 rfl (n_)))
      refine W_ret ?_
      refine ⟨_, _, _, hF, rfl, rfl, ?_⟩
      rw [show rawM o (kn : Int) (mn : Int) = some (tab kn mn (pwT o)) by unfold rawM; rw [if_pos hb]; rfl]
      exact ⟨_, _, rfl, hMO, hS⟩

set_option maxRecDepth 100000 in
set_option maxHeartbeats 1000000 in
theorem Isal_ok (B : Nat) (o : Fq) (fv : Value) (k m : Int) (w : World) (hI : Inv FDx B w) (hf : Fo FDx B w fv o) : Ret Tryz.prog 28 [fv, .int .i64 k, .int .i64 m] w fun v w' => ∃ ob u, v = .tuple #[u, .int .i64 (errV (isalM o k m))] ∧ MOwn FDx B w.heap.size 0 w'.heap.size w' 53 u ob ((isalM o k m).getD []) ∧ St FDx B w w' := by
 refine enter2 17 [(0, fv), (1, .int .i64 k), (2, .int .i64 m)] 6 7 Tryz.func28 rfl rfl rfl rfl rfl ?_; intro a hF
 have hS := St.refl hI
 refine W_sr rfl (fun K hK => ?_)
 obtain ⟨pf, hpf⟩ : ∃ pf, pf = w.heap.size := ⟨_, rfl⟩
 refine s_boxN (D := FDx) (B := B) hF rfl (hf.cells1) (by decide) hS.inv rfl ?_; clear hF a; intro w' a hm hI' hbf hsz hF
 replace hf := hf.mb hm
 replace hS := hS.mb0 hm
 clear hm hI' hsz
 rw [← hpf] at hbf hF
 have hkf := hbf.kc
 clear hbf
 refine sv2 hF (v_assign rfl) (v_assign rfl) rfl rfl ?_; clear hF a; intro a hF
 refine WL_nil (hK _ _ ?_)
 clear hK K
 replace hF := hF.sub _ (c_ 7 rfl (c_ 6 rfl (c_ 3 rfl (c_ 1 rfl (c_ 2 rfl (n_))))))
 refine W_seq ?_
 refine W_sr rfl (fun K hK => ?_)
 refine sv hF (v_load sc42 rfl hkf.c) rfl ?_; clear hF a; intro a hF
 refine sv2 hF (v_move rfl) (v_move rfl) rfl rfl ?_; clear hF a; intro a hF
 refine sc hF rfl rfl rfl en55 rfl (fits_ok B o fv k m _ hf) ?_; clear hF a; intro v w' a hv hF
 obtain ⟨rfl, hw⟩ := hv
 obtain rfl := hw.symm
 have hS' := St.refl hS.inv
 replace hf := hf.st hS'
 replace hkf := hkf.st hS'
 replace hS := hS.trans hS'
 clear hS'
 refine sv hF (v_not rfl) rfl ?_; clear hF a; intro a hF
 refine WL_nil (hK _ _ ?_)
 clear hK K
 replace hF := hF.sub _ (c_ 12 rfl (c_ 7 rfl (c_ 6 rfl (c_ 3 rfl (c_ 1 rfl (c_ 2 rfl (n_)))))))
 refine W_if hF rfl (fun hc1 => ?_) (fun hc1 => ?_)
 ·
  skip
  try simp only [dcl] at hc1
  refine W_sr rfl (fun K hK => ?_)
  refine sv2 hF (v_assign rfl) (v_assign rfl) rfl rfl ?_; clear hF a; intro a hF
  refine WL_nil (hK _ _ ?_)
  clear hK K
  replace hF := hF.sub _ (c_ 7 rfl (c_ 6 rfl (c_ 3 rfl (c_ 1 rfl (c_ 2 rfl (n_))))))
  refine W_ret ?_
  refine ⟨_, _, _, hF, rfl, rfl, ?_⟩
  rw [isalM_no (by simpa using hc1)]
  exact ⟨none, _, rfl, MOwn.nil _ _ _ _ _ _ _ (Nat.zero_le _), hS⟩
 ·
  skip
  try simp only [dcl] at hc1
  refine W_skip ?_
  have hb : fitB o k m = true := by simpa using hc1
  obtain ⟨-, hb2⟩ := fitB_iff.1 hb
  obtain ⟨kn, rfl⟩ : ∃ n : Nat, k = (n : Int) := ⟨k.toNat, by omega⟩
  obtain ⟨mn, rfl⟩ : ∃ n : Nat, m = (n : Int) := ⟨m.toNat, by omega⟩
  refine W_sr rfl (fun K hK => ?_)
  refine sv2 hF (v_move rfl) (v_move rfl) rfl rfl ?_; clear hF a; intro a hF
  refine sv hF (v_mkf (cs := [.tmp 3]) (vs := [.pointer (some ⟨pf, 0, none⟩)]) rfl) rfl ?_; clear hF a; intro a hF
  refine sc hF rfl rfl rfl en56 rfl (made_ok B mn kn 57 [.pointer (some ⟨pf, 0, none⟩)] (isT o) _ hS.inv (by omega) (ent Tryz.func57 (by kernel_rfl) (by kernel_rfl)) (fun i j hi hj w1 hs => Isal1_ok B o _ pf i j w1 hs.inv (hf.st hs) (hkf.st hs) (by omega))) ?_; clear hF a; intro v w' a hv hF
  obtain ⟨ob, hMO, hS'⟩ := hv
  replace hMO := hMO.le hS.ext.size (Nat.zero_le _)
  replace hf := hf.st hS'
  replace hkf := hkf.st hS'
  replace hS := hS.trans hS'
  clear hS'
  refine sv2 hF (v_assign rfl) (v_assign rfl) rfl rfl ?_; clear hF a; intro a hF
  refine WL_nil (hK _ _ ?_)
  clear hK K
  replace hF := hF.sub _ (c_ 7 rfl (c_ 6 rfl (n_)))
  refine W_ret ?_
  refine ⟨_, _, _, hF, rfl, rfl, ?_⟩
  rw [show isalM o (kn : Int) (mn : Int) = some (tab mn kn (isT o)) by unfold isalM; rw [if_pos hb]; rfl]
  exact ⟨_, _, rfl, hMO, hS⟩

set_option maxRecDepth 100000 in
set_option maxHeartbeats 1000000 in
theorem System_ok (B wb p : Nat) (hp : Prm wb p) (fv : Value) (k m : Int) (w : World) (hI : Inv FDx B w) (hf : Fo FDx B w fv (some (wb, p))) : Ret Tryz.prog 59 [fv, .int .i64 k, .int .i64 m] w fun v w' => ∃ ob u, v = .tuple #[u, .int .i64 (errV (sysM hp k m))] ∧ MOwn FDx B w.heap.size 0 w'.heap.size w' 53 u ob ((sysM hp k m).getD []) ∧ St FDx B w w' := by
 refine enter2 43 [(0, fv), (1, .int .i64 k), (2, .int .i64 m)] 6 7 Tryz.func59 rfl rfl rfl rfl rfl ?_; intro a hF
 have hS := St.refl hI
 refine W_sr rfl (fun K hK => ?_)
 refine sv2 hF (v_assign rfl) (v_assign rfl) rfl rfl ?_; clear hF a; intro a hF
 refine WL_nil (hK _ _ ?_)
 clear hK K
 refine W_seq ?_
 refine W_sr rfl (fun K hK => ?_)
 refine sv3 hF (v_move rfl) (v_move rfl) (v_move rfl) rfl rfl rfl ?_; clear hF a; intro a hF
 refine sc hF rfl rfl rfl en55 rfl (fits_ok B (some (wb, p)) fv k m _ hf) ?_; clear hF a; intro v w' a hv hF
 obtain ⟨rfl, hw⟩ := hv
 obtain rfl := hw.symm
 have hS' := St.refl hS.inv
 replace hf := hf.st hS'
 replace hS := hS.trans hS'
 clear hS'
 refine sv hF (v_not rfl) rfl ?_; clear hF a; intro a hF
 refine WL_nil (hK _ _ ?_)
 clear hK K
 replace hF := hF.sub _ (c_ 16 rfl (c_ 7 rfl (c_ 6 rfl (c_ 0 rfl (c_ 1 rfl (c_ 2 rfl (n_)))))))
 refine W_if hF rfl (fun hc1 => ?_) (fun hc1 => ?_)
 ·
  skip
  try simp only [dcl] at hc1
  refine W_sr rfl (fun K hK => ?_)
  refine sv2 hF (v_assign rfl) (v_assign rfl) rfl rfl ?_; clear hF a; intro a hF
  refine WL_nil (hK _ _ ?_)
  clear hK K
  replace hF := hF.sub _ (c_ 7 rfl (c_ 6 rfl (c_ 0 rfl (c_ 1 rfl (c_ 2 rfl (n_))))))
  refine W_ret ?_
  refine ⟨_, _, _, hF, rfl, rfl, ?_⟩
  rw [show sysM hp k m = none by unfold sysM; rw [if_neg (by simpa using hc1)]]
  exact ⟨none, _, rfl, MOwn.nil _ _ _ _ _ _ _ (Nat.zero_le _), hS⟩
 ·
  skip
  try simp only [dcl] at hc1
  refine W_skip ?_
  have hb : fitB (some (wb, p)) k m = true := by simpa using hc1
  obtain ⟨-, hb2⟩ := fitB_iff.1 hb
  obtain ⟨kn, rfl⟩ : ∃ n : Nat, k = (n : Int) := ⟨k.toNat, by omega⟩
  obtain ⟨mn, rfl⟩ : ∃ n : Nat, m = (n : Int) := ⟨m.toNat, by omega⟩
  have hraw : rawM (some (wb, p)) ((kn + mn : Nat) : Int) (kn : Int) = some (tab (kn + mn) kn (pwT (some (wb, p)))) := by unfold rawM rawB; rw [if_pos (by rw [decide_eq_true (by omega)]; rfl)]; rfl
  have hinv := raw_inv hp (k := kn) (by omega) (by omega)
  have hmul := sys_mul hp (k := kn) (m := mn) (by omega) (by omega) (by omega)
  refine W_sr rfl (fun K hK => ?_)
  refine sv3 hF (v_move rfl) (v_move rfl) (v_move rfl) rfl rfl rfl ?_; clear hF a; intro a hF
  refine sv hF ((v_addI rfl rfl (by omega)).as (show Value.int .i64 ((kn : Int) + (mn : Int)) = .int .i64 ((kn + mn : Nat) : Int) by simp)) rfl ?_; clear hF a; intro a hF
  refine sv hF (v_move rfl) rfl ?_; clear hF a; intro a hF
  refine sc hF rfl rfl rfl en86 rfl (Raw_ok B (some (wb, p)) fv ((kn + mn : Nat) : Int) (kn : Int) _ hS.inv hf) ?_; clear hF a; intro v w' a hv hF
  obtain ⟨obX, uX, rfl, hoX, hS'⟩ := hv
  rw [hraw] at hoX hF
  try simp only [Option.getD_some, Option.getD_none] at hoX
  obtain ⟨sX, cX, rfl, hX⟩ := hoX.mat (by decide) (Nat.zero_le _)
  clear hoX
  replace hf := hf.st hS'
  replace hS := hS.trans hS'
  clear hS'
  refine sv5 hF (v_move rfl) (v_ext rfl rfl) (v_ext rfl rfl) (v_assign rfl) (v_assign rfl) rfl rfl rfl rfl rfl ?_; clear hF a; intro a hF
  refine WL_nil (hK _ _ ?_)
  clear hK K
  replace hF := hF.sub _ (c_ 8 rfl (c_ 7 rfl (c_ 6 rfl (c_ 0 rfl (c_ 1 rfl (n_))))))
  have hcap := hX.capd
  have hxl : (tab (kn + mn) kn (pwT (some (wb, p)))).length = kn + mn := tab_length _ _ _
  rw [hxl] at hcap
  have hX1 := hX.to (b := tab kn kn (pwT (some (wb, p)))) (hi := kn) (by omega) (tab_take (by omega)).symm
  have hl1 : ∀ n, n ≤ 20 → (tab n kn (pwT (some (wb, p)))).length ≤ maxLen ∧ ∀ r ∈ tab n kn (pwT (some (wb, p))), r.length ≤ maxLen := fun n hn => len20 ⟨by rw [tab_length]; exact hn, fun r hr => by obtain ⟨i, _, rfl⟩ := List.mem_map.1 hr; simp; omega⟩
  refine W_sr rfl (fun K hK => ?_)
  refine sv3 hF (v_move rfl) (v_move rfl) (v_move rfl) rfl rfl rfl ?_; clear hF a; intro a hF
  refine sv hF (v_slHi sl36 rfl rfl (by omega) (by omega)) rfl ?_; clear hF a; intro a hF
  refine sc hF rfl rfl rfl en23 rfl (Inverse_n B _ wb p hp fv _ _ kn (tab kn kn (pwT (some (wb, p)))) _ hS.inv (Nat.le_refl _) hf hX1 (hl1 _ (by omega)).1 (hl1 _ (by omega)).2 (tab_length _ _ _)) ?_; clear hF a; intro v w' a hv hF
  obtain ⟨obY, uY, rfl, hoY, hS'⟩ := hv
  rw [hinv] at hoY hF
  dsimp only at hoY hF
  obtain ⟨sY, cY, rfl, hY⟩ := hoY.mat (by decide) (Nat.zero_le _)
  clear hoY
  replace hf := hf.st hS'
  replace hX := (hX.st hS').mono hS'.ext.size
  replace hS := hS.trans hS'
  clear hS'
  clear hX1
  refine sv5 hF (v_move rfl) (v_ext rfl rfl) (v_ext rfl rfl) (v_assign rfl) (v_assign rfl) rfl rfl rfl rfl rfl ?_; clear hF a; intro a hF
  refine WL_nil (hK _ _ ?_)
  clear hK K
  replace hF := hF.sub _ (c_ 11 rfl (c_ 10 rfl (c_ 8 rfl (c_ 7 rfl (c_ 6 rfl (c_ 0 rfl (n_)))))))
  refine W_seq ?_
  refine W_sr rfl (fun K hK => ?_)
  refine sv hF (v_move rfl) rfl ?_; clear hF a; intro a hF
  refine sv hF ((v_neq rfl rfl).as (congrArg Value.bool (decide_eq_false (by decide)))) rfl ?_; clear hF a; intro a hF
  refine WL_nil (hK _ _ ?_)
  clear hK K
  replace hF := hF.sub _ (c_ 35 rfl (c_ 11 rfl (c_ 10 rfl (c_ 8 rfl (c_ 7 rfl (c_ 6 rfl (c_ 0 rfl (n_))))))))
  refine W_ifF hF rfl ?_
  refine W_skip ?_
  have hl2 : (tab kn kn (vinv hp kn)).length ≤ maxLen ∧ ∀ r ∈ tab kn kn (vinv hp kn), r.length ≤ maxLen := len20 ⟨by rw [tab_length]; omega, fun r hr => by obtain ⟨i, _, rfl⟩ := List.mem_map.1 hr; simp; omega⟩
  refine W_sr rfl (fun K hK => ?_)
  refine sv3 hF (v_move rfl) (v_move rfl) (v_move rfl) rfl rfl rfl ?_; clear hF a; intro a hF
  refine sc hF rfl rfl rfl en87 rfl (MulM_ok B _ (some (wb, p)) fv _ _ (tab (kn + mn) kn (pwT (some (wb, p)))) _ _ (tab kn kn (vinv hp kn)) _ hS.inv (Nat.le_refl _) hf hX (hl1 _ (by omega)).1 (hl1 _ (by omega)).2 hY (hl2).1 (hl2).2) ?_; clear hF a; intro v w' a hv hF
  obtain ⟨ob, u, rfl, hMO, hS'⟩ := hv
  rw [hmul] at hMO hF
  simp only [Option.getD_some] at hMO
  replace hMO := hMO.le hS.ext.size (Nat.zero_le _)
  replace hf := hf.st hS'
  replace hX := (hX.st hS').mono hS'.ext.size
  replace hY := (hY.st hS').mono hS'.ext.size
  replace hS := hS.trans hS'
  clear hS'
  refine sv4 hF (v_ext rfl rfl) (v_ext rfl rfl) (v_assign rfl) (v_assign rfl) rfl rfl rfl rfl ?_; clear hF a; intro a hF
  refine WL_nil (hK _ _ ?_)
  clear hK K
  replace hF := hF.sub _ (c_ 7 rfl (c_ 6 rfl (n_)))
  refine W_ret ?_
  refine ⟨_, _, _, hF, rfl, rfl, ?_⟩
  rw [show sysM hp (kn : Int) (mn : Int) = some (tab (kn + mn) kn (sysT hp kn)) by unfold sysM; rw [if_pos hb]; rfl]
  exact ⟨_, _, rfl, hMO, hS⟩

end Go.Proofs.YtkoiolamnnmokaaGreat

/- Records and rows of records: values that are built, blocks of a walk's own. No program in sight. -/
set_option linter.unusedVariables false
set_option linter.unusedSimpArgs false
set_option linter.unusedSectionVars false
namespace Go.Gam
open Px

/-- The parts of a value that is built. -/
def evP (F : Fs) : List (Nat × Operand) → Option (List (Nat × Value))
  | [] => some []
  | (i, x) :: r => match ev F x with
    | none => none
    | some v => match evP F r with
      | none => none
      | some l => some ((i, v) :: l)
theorem evP_reads {F : Fs} {ρ : Operand → Value} (h : Reads F ρ) : ∀ (ps : List (Nat × Operand)) (vs : List (Nat × Value)), evP F ps = some vs → ps.map (fun x => (x.1, ρ x.2)) = vs
  | [], vs, e => by simp [evP] at e; simp [e]
  | (i, x) :: r, vs, e => by
    unfold evP at e
    cases hx : ev F x with
    | none => rw [hx] at e; cases e
    | some v =>
      rw [hx] at e
      dsimp only at e
      cases hr : evP F r with
      | none => rw [hr] at e; cases e
      | some l =>
        rw [hr] at e
        obtain rfl := Option.some.inj e
        rw [List.map_cons, evP_reads h r l hr, h x v hx]
/-- A record of a walk's own, in a block of its own. -/
structure RecB (D : FD) (B N : Nat) (w : World) (g : Nat) (E : TypeId) (cs : List Value) : Prop where
  blk : Blk w g E cs
  low : N ≤ g
  base : B ≤ g
  priv : Priv D B w g
  ty : E ≠ D.T
section
variable {D : FD} {B N g : Nat} {w w' : World} {E : TypeId} {cs : List Value}
theorem RecB.st (h : RecB D B N w g E cs) (hs : St D B w w') : RecB D B N w' g E cs := ⟨h.blk.st h.ty hs, h.low, h.base, hs.ext.priv g (heap_lt h.blk) h.priv, h.ty⟩
theorem RecB.mb {b : Option Nat} (h : RecB D B N w g E cs) (hm : Mb D B b w w') (hb : b ≠ some g) : RecB D B N w' g E cs := ⟨h.blk.mb hm hb, h.low, h.base, hm.priv h.priv, h.ty⟩
theorem RecB.kc (h : RecB D B N w g E cs) (i : Nat) {v : Value} (hv : nth cs i = some v) : KC D B w ⟨g, i, none⟩ v := h.blk.kc h.ty i hv
theorem RecB.le {N' : Nat} (h : RecB D B N w g E cs) (hN : N' ≤ N) : RecB D B N' w g E cs := ⟨h.blk, Nat.le_trans hN h.low, h.base, h.priv, h.ty⟩
end
section
variable {P : Program} {ops : Array Oper} {K : Kont} {rest : List Oper} {n : NN} {F : Fs} {T : TypeId} {pp : String} {af : Array Edge} {v : Value} {d : Nat} {a : Act} {w : World} {x y : Operand} {D : FD} {B : Nat}
theorem v_build {t : TypeId} {ps : List (Nat × Operand)} {vs : List (Nat × Value)} {cs : Array Value} (hv : evP F ps = some vs) (h : P.built t vs = some cs) : Val P (.build t ps.toArray) T F w (.agg cs) :=
  fun ρ hr d p af g => by
    have e := evP_reads hr ps vs hv
    have := run_build (P := P) w t vs.toArray cs (by simpa using h)
    simp only [execOp, List.map_toArray, e]
    simp [this]
theorem v_loadN {t E : TypeId} {g : Nat} {cs : List Value} {d' : TypeDesc} (hu : P.underlying t = some d') (hd : (match d' with | .struct _ | .array _ _ => true | _ => false) = true) (hi : (P.info? t).map (fun i => i.size) = some cs.length) (hx : ev F x = some (.pointer (some ⟨g, 0, none⟩))) (hb : Blk w g E cs) : Val P (.load t x) T F w (.agg cs.toArray) :=
  fun ρ h d p af g' => by
    have := run_loadVar_row (P := P) w g E t cs.toArray (0, 0) _ hb hu hd (by simpa using hi)
    simp only [execOp, h x _ hx, Instr.loadAt, Instr.sureAddr]
    simp [this]
theorem s_allocN {e : TypeId} {z : Value} (hF : Fr n F a) (hz : (P.info? e).map (fun i => i.zero) = some (some z)) (he : e ≠ D.T) (hI : Inv D B w) (hd : Nat.blt d n.n = true)
    (k : ∀ g w' a, Mb D B none w w' → Inv D B w' → RecB D B w.heap.size w' g e z.cells.toList → Fr n ((d, .pointer (some ⟨g, 0, none⟩)) :: F) a → WL P ops K rest a w') :
    WL P ops K (⟨some d, .alloc e, T, pp, af, none⟩ :: rest) a w := by
  cases hi : P.info? e with
  | none => rw [hi] at hz; cases hz
  | some i =>
    rw [hi] at hz
    have hz2 : i.zero = some z := by simpa using hz
    have hm := Mb.alloc D B w z.cells e (0, 0) he
    refine s_run (w' := w.alloc (.cells z.cells e)) hF (fun ρ h => ?_) hd fun a hF => k _ _ a hm (hm.inv hI) ⟨by unfold Blk; rw [Array.toArray_toList]; exact alloc_new w _, Nat.le_refl _, hI.1, hm.priv (hI.priv_new (Nat.le_refl _)), he⟩ hF
    simp [execOp, Instr.alloc, zeroValue, typeInfo, hi, hz2, newVar, newRow, newObj, Sem.run]
theorem s_storeN {t E : TypeId} {g N : Nat} {old : List Value} {cs : Array Value} (hF : Fr n F a) (hi : (P.info? t).map (fun i => i.size) = some cs.size) (hx : ev F x = some (.pointer (some ⟨g, 0, none⟩))) (hy : ev F y = some (.agg cs)) (h1 : cs.toList.all (·.oneCell') = true) (hl : old.length = cs.size) (hb : RecB D B N w g E old) (hI : Inv D B w)
    (k : ∀ w', Mb D B (some g) w w' → Inv D B w' → RecB D B N w' g E cs.toList → WL P ops K rest a w') : WL P ops K (⟨none, .store t x y, T, pp, af, none⟩ :: rest) a w := by
  have hg : w.heap[g]? = some (.cells old.toArray E (0, 0)) := hb.blk
  have hst := run_storeVar_row (P := P) w g E t old.toArray cs hg hi (by simpa using hl) (by simpa using h1)
  have hrun : (execOp a.eval ⟨none, .store t x y, T, pp, af, none⟩).run P w = .ok .skip (w.setRow g cs) := by
    simp only [execOp, hF.reads x _ hx, hF.reads y _ hy, Instr.storeAt, Instr.sureAddr]
    simp [hst]
  have hm := Mb.setRow (D := D) (B := B) (cs := cs) hg hb.ty hb.base hb.priv
  unfold WL wpList
  rw [if_pos (by simp [Region.wanted])]
  refine .inl ?_
  unfold Oper.wp
  rw [hrun]
  exact k _ hm (hm.inv hI) ⟨by unfold Blk; rw [Array.toArray_toList]; exact setRow_heap w g _ cs E _ hg, hb.low, hb.base, hm.priv hb.priv, hb.ty⟩
/-- A store into one field of a record. -/
theorem s_storeF {t E g N i : Nat} {cs : List Value} {u : Value} (hF : Fr n F a) (ht : One P t) (hx : ev F x = some (.pointer (some ⟨g, i, none⟩))) (hy : ev F y = some u) (hu : u.oneCell' = true) (hi : i < cs.length) (hb : RecB D B N w g E cs) (hI : Inv D B w)
    (k : ∀ w', Mb D B (some g) w w' → Inv D B w' → RecB D B N w' g E (cs.set i u) → WL P ops K rest a w') : WL P ops K (⟨none, .store t x y, T, pp, af, none⟩ :: rest) a w := by
  have hc : u.cells = #[u] := by cases u <;> first | rfl | simp [Value.oneCell'] at hu
  have hg : w.heap[g]? = some (.cells cs.toArray E (0, 0)) := hb.blk
  have hst := run_storeCells_at P g i E [u] 0 cs.toArray w hg (by simp; omega) (by simpa using hu)
  have hset : (cs.toArray.toList.take (i + 0) ++ [u] ++ cs.toArray.toList.drop (i + 0 + [u].length)).toArray = (cs.set i u).toArray := by
    apply Array.toList_inj.1
    simp only [List.toList_toArray]
    rw [List.set_eq_take_append_cons_drop, if_pos hi]
    simp
  rw [hset] at hst
  have hrun : (execOp a.eval ⟨none, .store t x y, T, pp, af, none⟩).run P w = .ok .skip (w.setRow g (cs.set i u).toArray) := by
    simp only [execOp, hF.reads x _ hx, hF.reads y _ hy, Instr.storeAt, Instr.sureAddr, storeVar, hc]
    simp [run_size1 ht, hst]
  have hm := Mb.setRow (D := D) (B := B) (cs := (cs.set i u).toArray) hg hb.ty hb.base hb.priv
  unfold WL wpList
  rw [if_pos (by simp [Region.wanted])]
  refine .inl ?_
  unfold Oper.wp
  rw [hrun]
  exact k _ hm (hm.inv hI) ⟨by unfold Blk; exact setRow_heap w g _ _ E _ hg, hb.low, hb.base, hm.priv hb.priv, hb.ty⟩
/-- A record of a row of records. -/
theorem v_indexR {t e s m : Nat} {i : Operand} {kd : IntKind} {I : Int} {cs : Array Value} {ds : TypeDesc} (ht : P.underlying t = some (.array m e)) (hs : (P.info? e).map (fun i => i.size) = some s) (hu : P.underlying e = some ds) (hd : (match ds with | .struct _ | .array _ _ => true | _ => false) = true)
    (hx : ev F x = some (.agg cs)) (hi : ev F i = some (.int kd I)) (h0 : 0 ≤ I) (hl : I < m) : Val P (.index t x i) T F w (.agg (cs.extract (I.toNat * s) (I.toNat * s + s))) :=
  fun ρ h d p af g => by
    cases hinf : P.info? e with
    | none => rw [hinf] at hs; cases hs
    | some inf =>
      rw [hinf] at hs
      have hs2 : inf.size = s := by simpa using hs
      have hagg : (isAgg e).run P w = .ok true w := by
        unfold isAgg
        rw [Sem.run_bind, run_underlying hu w]
        cases ds <;> simp_all
      simp [execOp, h x _ hx, h i _ hi, Instr.index, asIntOf, run_underlying ht, h0, hl, part, hagg, sizeOf, typeInfo, hinf, hs2]
end
/-! ### results that are read from cells -/
section
variable {P : Program}
theorem ld_rec {D : FD} {B N g : Nat} {w : World} {t E : TypeId} {cs : List Value} {d' : TypeDesc} (hu : P.underlying t = some d') (hd : (match d' with | .struct _ | .array _ _ => true | _ => false) = true) (hi : (P.info? t).map (fun i => i.size) = some cs.length) (hb : RecB D B N w g E cs) : (loadVar t ⟨g, 0, none⟩).run P w = .ok (.agg cs.toArray) w :=
  run_loadVar_row (P := P) w g E t cs.toArray (0, 0) _ hb.blk hu hd (by simpa using hi)
theorem enterC {w : World} {f : FuncId} {fn : Func} {c : Code} {vs : List Value} {Q : Value → World → Prop} (n : NN) (F : Fs) (t ty : Nat) (hf : P.funcs[f]? = some fn) (hb : fn.body = some c) (hn : n = ⟨fn.ntmps, []⟩) (hr : fn.results = #[.cell t ty]) (hle : Nat.ble vs.length n.n = true) (hF : F = idx vs 0)
    (h : ∀ a, Fr n F a → W P c (fun a w => ∃ F' g v, Fr n F' a ∧ look F' t = some (.pointer (some g)) ∧ (loadVar ty g).run P w = .ok v w ∧ Q v w) [] (fun a w => ∃ F' g v, Fr n F' a ∧ look F' t = some (.pointer (some g)) ∧ (loadVar ty g).run P w = .ok v w ∧ Q v w) a w) : Ret P f vs w Q := by
  refine enterG _ hf hb hn hle hF (fun a w ⟨F', g, v, hF', hl, hld, hq⟩ => ⟨by rw [hF'.defers, hn]; rfl, v, ?_, hq⟩) h
  have hv := hF'.val t _ hl
  simp [results, hr, Array.getD_eq_getD_getElem?, hv, asAddr, hld]
theorem enterCT {w : World} {f : FuncId} {fn : Func} {c : Code} {vs : List Value} {Q : Value → World → Prop} (n : NN) (F : Fs) (t ty s : Nat) (hf : P.funcs[f]? = some fn) (hb : fn.body = some c) (hn : n = ⟨fn.ntmps, []⟩) (hr : fn.results = #[.cell t ty, .tmp s]) (hle : Nat.ble vs.length n.n = true) (hF : F = idx vs 0)
    (h : ∀ a, Fr n F a → W P c (fun a w => ∃ F' g v u, Fr n F' a ∧ look F' t = some (.pointer (some g)) ∧ (loadVar ty g).run P w = .ok v w ∧ look F' s = some u ∧ Q (.tuple #[v, u]) w) [] (fun a w => ∃ F' g v u, Fr n F' a ∧ look F' t = some (.pointer (some g)) ∧ (loadVar ty g).run P w = .ok v w ∧ look F' s = some u ∧ Q (.tuple #[v, u]) w) a w) : Ret P f vs w Q := by
  refine enterG _ hf hb hn hle hF (fun a w ⟨F', g, v, u, hF', hl, hld, hm, hq⟩ => ⟨by rw [hF'.defers, hn]; rfl, _, ?_, hq⟩) h
  have hv := hF'.val t _ hl
  have hu := hF'.val s u hm
  simp [results, hr, Array.getD_eq_getD_getElem?, hv, hu, asAddr, hld]
end
end Go.Gam

/- The table of profiles. No program in sight. -/
set_option linter.unusedVariables false
set_option linter.unusedSimpArgs false
set_option linter.unusedSectionVars false
namespace Go.Gam

/-- A profile, cell by cell. -/
def prf (a b : UInt8) (bits poly : Int) (l : Int) (m : Int) : List Value := [.string ⟨#[a, b]⟩, .int .i64 bits, .int .u32 poly, .int .u8 l, .int .i64 m]
def prz : List Value := [.string ⟨#[]⟩, .int .i64 0, .int .u32 0, .int .u8 0, .int .i64 0]
def prN : Nat → List Value
  | 0 => prf 106 118 8 285 106 4
  | 1 => prf 106 99 16 69643 106 4
  | 2 => prf 105 114 8 285 105 3
  | 3 => prf 105 99 8 285 105 4
  | 4 => prf 98 98 8 285 98 4
  | _ => prf 107 112 8 285 112 4
def prAll : List Value := prN 0 ++ (prN 1 ++ (prN 2 ++ (prN 3 ++ (prN 4 ++ prN 5))))
def prOf (p : Int) : List Value := if 1 ≤ p ∧ p ≤ 6 then prN (p - 1).toNat else prz
theorem prN_len (i : Nat) : (prN i).length = 5 := by unfold prN; split <;> rfl
theorem prOf_len (p : Int) : (prOf p).length = 5 := by unfold prOf; split; exact prN_len _; rfl
theorem prOf_one (p : Int) : (prOf p).toArray.toList.all (·.oneCell') = true := by
  unfold prOf prN
  split
  · split <;> rfl
  · rfl
theorem prOf_ext {p : Int} (h1 : 1 ≤ p) (h2 : p ≤ 6) : prAll.toArray.extract ((p - 1).toNat * 5) ((p - 1).toNat * 5 + 5) = (prOf p).toArray := by
  have : p = 1 ∨ p = 2 ∨ p = 3 ∨ p = 4 ∨ p = 5 ∨ p = 6 := by omega
  rcases this with rfl | rfl | rfl | rfl | rfl | rfl <;> rfl
theorem prOf_no {p : Int} (h : ¬ (1 ≤ p ∧ p ≤ 6)) : prOf p = prz := if_neg h
def tagS : Nat → ByteArray
  | 0 => ⟨#[106, 118]⟩
  | 1 => ⟨#[106, 99]⟩
  | 2 => ⟨#[105, 114]⟩
  | 3 => ⟨#[105, 99]⟩
  | 4 => ⟨#[98, 98]⟩
  | _ => ⟨#[107, 112]⟩
/-- The first tag from i on that is s. -/
def tagR (s : ByteArray) : Nat → Nat → Int × Bool
  | _, 0 => (0, false)
  | i, d + 1 => if tagS i = s then (((i + 1 : Nat) : Int), true) else tagR s (i + 1) d
def maxM (p : Int) : Int := if p = 3 then 3 else 4
theorem prOf_max {p : Int} (h1 : 1 ≤ p) (h2 : p ≤ 6) : nth (prOf p).toArray.toList 4 = some (.int .i64 (maxM p)) := by
  have : p = 1 ∨ p = 2 ∨ p = 3 ∨ p = 4 ∨ p = 5 ∨ p = 6 := by omega
  rcases this with rfl | rfl | rfl | rfl | rfl | rfl <;> rfl
def mayP (p k m : Int) : Bool := decide (1 ≤ p ∧ p ≤ 6 ∧ 1 ≤ k ∧ k ≤ 8 ∧ 1 ≤ m ∧ m ≤ maxM p)
/-- A profile's field. -/
def pfl (p : Int) : Nat × Nat := if p = 2 then (16, 69643) else (8, 285)
theorem prOf_bits {p : Int} (h1 : 1 ≤ p) (h2 : p ≤ 6) : nth (prOf p).toArray.toList 1 = some (.int .i64 (((pfl p).1 : Nat) : Int)) := by
  have : p = 1 ∨ p = 2 ∨ p = 3 ∨ p = 4 ∨ p = 5 ∨ p = 6 := by omega
  rcases this with rfl | rfl | rfl | rfl | rfl | rfl <;> rfl
theorem prOf_poly {p : Int} (h1 : 1 ≤ p) (h2 : p ≤ 6) : nth (prOf p).toArray.toList 2 = some (.int .u32 (((pfl p).2 : Nat) : Int)) := by
  have : p = 1 ∨ p = 2 ∨ p = 3 ∨ p = 4 ∨ p = 5 ∨ p = 6 := by omega
  rcases this with rfl | rfl | rfl | rfl | rfl | rfl <;> rfl
theorem pfl_new (p : Int) : newF ((pfl p).1 : Int) (pfl p).2 = some (pfl p) := by
  unfold pfl
  split
  · exact newF_p prm_69643
  · exact newF_p prm_285
theorem pfl_lt (p : Int) : (pfl p).1 ≤ 16 ∧ (pfl p).2 < 4294967296 := by unfold pfl; split <;> decide
section
variable {wb q : Nat} (hp : Prm wb q)
def behM (k m : Int) : Option Mtx := if fitB (some (wb, q)) k m = true then some (tab m.toNat k.toNat fun i j => sysT hp k.toNat (k.toNat + i) j) else none
end

/-! ### parity rows of a profile -/
theorem rnL_nodup (fr n : Nat) : (rnL fr n).Nodup := by
  unfold rnL
  rw [List.nodup_iff_pairwise_ne, List.pairwise_map]
  exact List.nodup_range.imp fun h e => h (by omega)
theorem rnL_mem {fr n : Nat} {z : Int} : z ∈ rnL fr n ↔ ∃ j, j < n ∧ z = ((fr + j : Nat) : Int) := by
  unfold rnL
  simp only [List.mem_map, List.mem_range]
  exact ⟨fun ⟨j, h, e⟩ => ⟨j, h, e.symm⟩, fun ⟨j, h, e⟩ => ⟨j, h, e.symm⟩⟩
theorem rn_ok {wb a n b m : Nat} (hw : wb = 8 ∨ wb = 16) (h1 : 1 ≤ n) (h2 : 1 ≤ m) (h3 : n + m ≤ 20) (hd : a + n = b ∧ a = 0 ∨ b + m = a ∧ b = 0) : ofB wb (rnL a n) (rnL b m) = true := by
  have hs : 2 ^ wb ≥ 256 := by rcases hw with h | h <;> rw [h] <;> decide
  refine ofB_ok (by rw [rnL_length, rnL_length]; omega) (List.nodup_append.2 ⟨rnL_nodup _ _, rnL_nodup _ _, fun x hx y hy e => ?_⟩) fun z hz => ?_
  · obtain ⟨i, hi, rfl⟩ := rnL_mem.1 hx
    obtain ⟨j, hj, rfl⟩ := rnL_mem.1 hy
    omega
  · rcases List.mem_append.1 hz with hz | hz <;> obtain ⟨i, hi, rfl⟩ := rnL_mem.1 hz <;> constructor <;> omega
section
variable {wb q : Nat} (hp : Prm wb q)
theorem origM_is {k m : Nat} (h1 : 1 ≤ k) (h2 : 1 ≤ m) (h3 : k + m ≤ 20) : origM hp (k : Int) (m : Int) = some (tab m k (ofT hp (rnL 0 m) (rnL m k))) := by
  unfold origM
  rw [if_pos (fitB_ok rfl h1 h2 h3), Int.toNat_natCast, Int.toNat_natCast, ofM_is hp (rn_ok hp.w (by omega) (by omega) (by omega) (by omega)), rnL_length, rnL_length]
theorem cisaM_is {k m : Nat} (h1 : 1 ≤ k) (h2 : 1 ≤ m) (h3 : k + m ≤ 20) : cisaM hp (k : Int) (m : Int) = some (tab m k (ofT hp (rnL k m) (rnL 0 k))) := by
  unfold cisaM
  rw [if_pos (fitB_ok rfl h1 h2 h3), Int.toNat_natCast, Int.toNat_natCast, ofM_is hp (rn_ok hp.w (by omega) (by omega) (by omega) (by omega)), rnL_length, rnL_length]
end
def prT (p : Int) (k m : Nat) : Tb :=
  if p = 1 then parT prm_285 k m else if p = 2 then ofT prm_69643 (rnL 0 m) (rnL m k) else if p = 3 then isT (some (8, 285)) else if p = 4 then ofT prm_285 (rnL k m) (rnL 0 k) else fun i j => sysT prm_285 k (k + i) j
theorem mayP_of {p k m : Int} (h : mayP p k m = true) : 1 ≤ p ∧ p ≤ 6 ∧ ∃ kn mn : Nat, k = (kn : Int) ∧ m = (mn : Int) ∧ 1 ≤ kn ∧ kn ≤ 8 ∧ 1 ≤ mn ∧ mn ≤ 4 ∧ (p = 3 → mn ≤ 3) := by
  unfold mayP maxM at h
  have h := of_decide_eq_true h
  refine ⟨h.1, h.2.1, k.toNat, m.toNat, ?_⟩
  split at h <;> omega
theorem mayP_is {p : Int} {kn mn : Nat} (h1 : 1 ≤ p ∧ p ≤ 6) (h2 : 1 ≤ kn ∧ kn ≤ 8) (h3 : 1 ≤ mn ∧ mn ≤ 4) (h4 : p = 3 → mn ≤ 3) : mayP p (kn : Int) (mn : Int) = true := by
  unfold mayP maxM
  refine decide_eq_true ?_
  split <;> omega
/-! ### plain laws of layer 9 -/
theorem aw9_par : tab 2 2 (prT 3 2 2) = [[1, 1], [1, 2]] := by
  have h1 := isalM_is (o := some (8, 285)) rfl (k := 2) (m := 2) (by decide) (by decide) (by decide)
  have e : prT 3 2 2 = isT (some (8, 285)) := by unfold prT; simp
  rw [e]
  exact Option.some.inj (h1.symm.trans aw6_isal)
def fns (a b c d e f : FuncId) : List Value := [.func (.func a) #[] #[], .func (.func b) #[] #[], .func (.func c) #[] #[], .func (.func d) #[] #[], .func (.func e) #[] #[], .func (.func f) #[] #[]]
end Go.Gam

/- Rows of bytes as strings. No program in sight. -/
set_option linter.unusedVariables false
set_option linter.unusedSimpArgs false
namespace Go.Gam

def bstr (l : List Nat) : ByteArray := ⟨(l.map UInt8.ofNat).toArray⟩

section
variable {P : Program} {F : Fs} {T : TypeId} {w : World} {x y : Operand} {D : FD} {B : Nat}
theorem v_eqlS {a b : ByteArray} {t s : TypeId} (hx : ev F x = some (.string a)) (hy : ev F y = some (.string b)) : Val P (.binOp .eql t x y s) T F w (.bool (a == b)) :=
  fun ρ h d p af g => by
    simp only [execOp, h x _ hx, h y _ hy, eqGuard, binOp]
    simp [Op.stringOp, beq_toListBytes]
end
end Go.Gam
