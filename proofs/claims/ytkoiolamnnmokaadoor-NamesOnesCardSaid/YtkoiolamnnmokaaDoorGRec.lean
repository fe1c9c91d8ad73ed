/- Records of two fields of one cell each; rows that are a walk's own, as they are gathered. No program in sight. -/
import Derived.Test.YtkoiolamnnmokaaDoorGJvan
import Derived.Deep.WholeRow
set_option linter.unusedVariables false
set_option linter.unusedSimpArgs false
set_option linter.unusedSectionVars false
namespace Go.Gam
open Px

theorem agg_cells (cs : Array Value) : (Value.agg cs).cells = cs := rfl
/-- A record type of two fields of one cell each, z1 and z2 at first. -/
def Rec2 (P : Program) (t : TypeId) (z1 z2 : Value) : Prop :=
  ∃ f0 f1 i0 i1 i, P.underlying t = some (.struct #[f0, f1]) ∧ P.info? f0.type = some i0 ∧ i0.size = 1 ∧ f0.offset = 0 ∧ P.info? f1.type = some i1 ∧ i1.size = 1 ∧ f1.offset = 1 ∧ P.info? t = some i ∧ i.size = 2 ∧ i.zero = some (.agg #[z1, z2])
theorem rec2_of {P : Program} {t : TypeId} {z1 z2 : Value} {f0 f1 : Field} (h : P.underlying t = some (.struct #[f0, f1])) (h0 : (P.info? f0.type).map (fun i => (i.size, f0.offset)) = some (1, 0)) (h1 : (P.info? f1.type).map (fun i => (i.size, f1.offset)) = some (1, 1))
    (hz : (P.info? t).map (fun i => (i.size, i.zero)) = some (2, some (.agg #[z1, z2]))) : Rec2 P t z1 z2 := by
  cases e0 : P.info? f0.type with
  | none => rw [e0] at h0; cases h0
  | some i0 =>
    cases e1 : P.info? f1.type with
    | none => rw [e1] at h1; cases h1
    | some i1 =>
      cases e : P.info? t with
      | none => rw [e] at hz; cases hz
      | some i =>
        rw [e0] at h0; rw [e1] at h1; rw [e] at hz
        simp only [Option.map_some, Option.some.injEq, Prod.mk.injEq] at h0 h1 hz
        exact ⟨f0, f1, i0, i1, i, h, e0, h0.1, h0.2, e1, h1.1, h1.2, e, hz.1, hz.2⟩
section
variable {P : Program} {ops : Array Oper} {K : Kont} {rest : List Oper} {n : NN} {F : Fs} {T : TypeId} {pp : String} {af : Array Edge} {v : Value} {d : Nat} {a : Act} {w : World} {x y : Operand} {D : FD} {B : Nat} {z1 z2 : Value}
theorem v_loadR {t E g : Nat} {u v : Value} (ht : Rec2 P t z1 z2) (hx : ev F x = some (.pointer (some ⟨g, 0, none⟩))) (hb : Blk w g E [u, v]) : Val P (.load t x) T F w (.agg #[u, v]) :=
  fun ρ h d p af g' => by
    obtain ⟨f0, f1, i0, i1, i, h1, h2, h3, h4, h5, h6, h7, h8, h9, h10⟩ := ht
    have := run_loadVar_row (P := P) w g E t #[u, v] (0, 0) _ hb h1 rfl (by rw [h8]; simp [h9])
    simp only [execOp, h x _ hx, Instr.loadAt, Instr.sureAddr]
    simp [this]
theorem v_buildR {t : Nat} {u v : Value} (ht : Rec2 P t z1 z2) (hx : ev F x = some u) (hy : ev F y = some v) (hu : u.cells = #[u]) (hv : v.cells = #[v]) : Val P (.build t #[(0, x), (1, y)]) T F w (.agg #[u, v]) :=
  fun ρ h d p af g' => by
    obtain ⟨f0, f1, i0, i1, i, h1, h2, h3, h4, h5, h6, h7, h8, h9, h10⟩ := ht
    simp [execOp, h x _ hx, h y _ hy, Instr.build, zeroValue, typeInfo, h8, h10, underlying, h1, sizeOf, h2, h3, h4, h5, h6, h7, program, Sem.run, Instr.fill, hu, hv, agg_cells]
theorem v_mkfF {fn : Fn} {cs : List Operand} {vs : List Value} (hc : evs F cs = some vs) : Val P (.makeFunc fn cs.toArray #[]) T F w (.func fn vs.toArray ([] : List Value).toArray) :=
  fun ρ h d p af g => by
    have := h.list cs vs hc
    simp [execOp, Instr.makeFunc, this]
/-- A new variable that a record is stored into at once. -/
theorem s_newR {t : Nat} {u v : Value} {T' : TypeId} {pp' : String} {af' : Array Edge} (hF : Fr n F a) (ht : Rec2 P t z1 z2) (he : t ≠ D.T) (hy : ∀ q, ev ((d, q) :: F) y = some (.agg #[u, v])) (hu : u.oneCell' = true) (hv : v.oneCell' = true) (hd : Nat.blt d n.n = true)
    (k : ∀ w' a, Mb D B none w w' → Blk w' w.heap.size t [u, v] → w'.heap.size = w.heap.size + 1 → Fr n ((d, .pointer (some ⟨w.heap.size, 0, none⟩)) :: F) a → WL P ops K rest a w') :
    WL P ops K (⟨some d, .alloc t, T, pp, af, none⟩ :: ⟨none, .store t (.tmp d) y, T', pp', af', none⟩ :: rest) a w := by
  obtain ⟨f0, f1, i0, i1, i, h1, h2, h3, h4, h5, h6, h7, h8, h9, h10⟩ := ht
  refine s_run (v := .pointer (some ⟨w.heap.size, 0, none⟩)) (w' := w.alloc (.cells #[z1, z2] t)) hF (fun ρ h => ?_) hd fun a hF => ?_
  · simp [execOp, Instr.alloc, zeroValue, typeInfo, h8, h10, newVar, newRow, newObj, Sem.run, Value.cells]
  · have hst := run_storeCells_new (P := P) w t #[z1, z2] #[u, v] (by rw [h8]; simp [h9]) rfl (by simp [hu, hv])
    have hrun : (execOp a.eval ⟨none, .store t (.tmp d) y, T', pp', af', none⟩).run P (w.alloc (.cells #[z1, z2] t)) = .ok .skip (w.alloc (.cells #[u, v] t)) := by
      have hd' : ev ((d, Value.pointer (some ⟨w.heap.size, 0, none⟩)) :: F) (.tmp d) = some (.pointer (some ⟨w.heap.size, 0, none⟩)) := by simp [ev, look_cons]
      simp only [execOp, hF.reads y _ (hy _), hF.reads (.tmp d) _ hd', Instr.storeAt, Instr.sureAddr, storeVar]
      simp [sizeOf, typeInfo, h8, h9, agg_cells, hst]
    unfold WL wpList
    rw [if_pos (by simp [Region.wanted])]
    refine .inl ?_
    unfold Oper.wp
    rw [hrun]
    exact k _ a (Mb.alloc D B w _ t (0, 0) he) (alloc_new w _) (by simp) hF
end
theorem Wr.mown {D : FD} {B N K n m : Nat} {w : World} {bs rc : Nat → Nat} {f : Tb} {E2 : TypeId} {b : Option Nat} {v : Value} (h : Wr D B N K w n m bs rc f) (ho : Own D B N w E2 v b (vls n m bs rc)) : MOwn D B N 0 w.heap.size w E2 v b (tab n m f) := by
  refine ⟨⟨vls n m bs rc, by rw [vls_length, tab_length], ho, fun j u r hu hr => ?_⟩, Nat.zero_le _⟩
  have hj : j < n := by simpa using (List.getElem?_eq_some_iff.1 hu).1
  rw [vls_at hj] at hu
  rw [tab_at hj] at hr
  obtain rfl := Option.some.inj hu
  obtain rfl := Option.some.inj hr
  exact .of (h.row j hj) (Nat.zero_le _)
theorem slA_of {g lo cap : Nat} (h : lo < cap) : slA (some ⟨g, 0, none⟩) lo cap = some ⟨g, 0 + lo, none⟩ := by unfold slA; rw [if_neg (by omega)]; simp [Addr.add_eq]

section
variable {P : Program} {D : FD} {B : Nat} {a : Act} {w : World} {ops : Array Oper} {K : Kont} {fuel : Nat} {L : Array Bool}
theorem of_WLe {R : Act → World → Prop} {i : Nat} {o : Oper} (hi : nth ops.toList i = some o) (h : WL P ops (fun a' w' => Ext D B w w' ∧ R a' w') [o] a w) :
    wpOp P ops (Qof K [] (fun _ _ => False)) i (fun a' w' => Ext D B w w' ∧ R a' w') a w := by
  rw [nth_eq, Array.getElem?_toList] at hi
  unfold wpOp
  simp only [hi]
  have hno : ∀ K' : Kont, ¬ LetsOut (Qof K' [] (fun _ _ => False)) := fun K' ⟨a, w, h⟩ => h
  unfold WL wpList at h
  split
  · rename_i hw
    rw [if_pos hw] at h
    rcases h with h | ⟨_, h⟩
    · refine .inl ?_
      exact Oper.wp_mono (K := wpList P ops (Qof (fun a' w' => Ext D B w w' ∧ R a' w') [] (fun _ _ => False)) []) (fun a' w' hk => hk) (upon_congr (fun _ _ _ h => h) (fun h => absurd h (hno _)) h)
    · exact absurd h (hno _)
  · rename_i hw
    rw [if_neg hw] at h
    exact h
/-- Two may come. -/
theorem a_e2 {i i' : Nat} {o o' : Oper} (hi : nth ops.toList i = some o) (hi' : nth ops.toList i' = some o') (hr : Region.ready .any ops L = [i, i']) (h : WL P ops (fun a' w' => Ext D B w w' ∧ WA P D B ops K fuel (L.setIfInBounds i true) a' w') [o] a w)
    (h' : WL P ops (fun a' w' => Ext D B w w' ∧ WA P D B ops K fuel (L.setIfInBounds i' true) a' w') [o'] a w) : WA P D B ops K (fuel + 1) L a w := by
  have strong : ∀ w1, Ext D B w w1 → ∀ (m : Nat) (L : Array Bool) (a : Act) (w2 : World), wpAnyH P .any ops (Qof K [] (fun _ _ => False)) (fun w' => Ext D B w1 w') m L a w2 →
      wpAnyH P .any ops (Qof K [] (fun _ _ => False)) (fun w' => Ext D B w w') m L a w2 := by
    intro w1 h1 m
    induction m with
    | zero => intro L a w2 h; exact h
    | succ m ih => intro L a w2 h; exact ⟨h.1, fun i hi => wpOp_mono (fun a' w' h' => ⟨h1.trans h'.1, ih _ _ _ h'.2⟩) (h.2 i hi)⟩
  refine wpAnyH_all hr (by simp) fun j hj => ?_
  have hj2 : j = i ∨ j = i' := by simpa using hj
  rcases hj2 with rfl | rfl
  · exact wpOp_mono (fun a' w' h => ⟨h.1, strong w' h.1 fuel _ a' w' h.2⟩) (of_WLe hi h)
  · exact wpOp_mono (fun a' w' h => ⟨h.1, strong w' h.1 fuel _ a' w' h.2⟩) (of_WLe hi' h')
end
theorem Blk.ne_own {D : FD} {B N' : Nat} {w : World} {g : Nat} {E E' : TypeId} {cs : List Value} {u : Value} {b : Option Nat} {xs : List Value} (h : Blk w g E cs) (ho : Own D B N' w E' u b xs) (hE : E ≠ E') : b ≠ some g := by
  intro e
  rcases ho with ⟨_, h', _⟩ | ⟨g', cap', cur, rfl, hb, h1, hB, h2, h3⟩
  · rw [h'] at e; cases e
  · rw [hb] at e; obtain rfl := Option.some.inj e
    have hk : w.heap[g']? = _ := h
    rw [h2] at hk
    exact hE (Obj.cells.inj (Option.some.inj hk)).2.1.symm
theorem StZ.cut {D : FD} {B : Nat} {Z : Nat → Prop} {w w' : World} (h : StZ D B (fun k => Z k ∨ w.heap.size ≤ k) w w') : StZ D B Z w w' :=
  ⟨⟨h.ext.os, h.ext.tape, h.ext.output, h.ext.size, fun k hk hz hc => h.ext.keep k hk (fun e => e.elim hz (by omega)) hc, h.ext.oth, h.ext.fld, h.ext.priv, h.ext.made⟩, h.inv⟩
/-- A step that changes a block that is newer. -/
theorem StZ.mbn {D : FD} {B : Nat} {Z : Nat → Prop} {b : Option Nat} {w0 w w' : World} (hs : StZ D B Z w0 w) (h : Mb D B b w w') (hb : ∀ k, b = some k → w0.heap.size ≤ k ∧ ∃ c e fr, w.heap[k]? = some (.cells c e fr)) : StZ D B Z w0 w' :=
  ((hs.weak (Z' := fun k => Z k ∨ w0.heap.size ≤ k) fun k z => .inl z).mb h (fun k e => ⟨.inr (hb k e).1, (hb k e).2⟩)).cut
/-! ### steps of the tables -/
theorem ext_cell {o : Fq} (hprm : ∀ wb p, o = some (wb, p) → Prm wb p) {k m i j : Nat} (h : i < k + m - 1) : ((extT o k m i j : Nat) : Int) = gpow o (i : Int) (j : Int) := by
  unfold extT; rw [if_neg (by omega)]; exact pwT_nn hprm _ _
theorem ext_last {o : Fq} {k m : Nat} (hk : 1 ≤ k) : (List.replicate k (Value.int .i64 0)).set (k - 1) (.int .i64 1) = zints (trow k (extT o k m) (k + m - 1)) := by
  apply List.ext_getElem?
  intro j
  by_cases hj : j < k
  · rw [zints_at (trow_at hj)]
    unfold extT
    rw [if_pos rfl]
    by_cases e : k - 1 = j
    · rw [← e, List.getElem?_set_self (by simpa using by omega), if_pos rfl]; rfl
    · rw [List.getElem?_set_ne e, if_neg (Ne.symm e)]; simp [hj]
  · rw [List.getElem?_eq_none (by simp; omega), List.getElem?_eq_none (by simp [zints]; omega)]
namespace Fld
variable (F : Fld)
theorem scC_at {fr j c x l : Nat} {f : Tb} (h : fr ≤ x) : F.scC fr j c (x + 1) f x l = if l = j then F.mul (F.scC fr j c x f x j) c else F.scC fr j c x f x l := by
  unfold scC
  rw [if_neg (show ¬ (fr ≤ x ∧ x < x ∧ j = j) by omega), if_neg (show ¬ (fr ≤ x ∧ x < x ∧ l = j) by omega)]
  by_cases e : l = j
  · rw [if_pos e, if_pos ⟨h, by omega, e⟩, e]
  · rw [if_neg e, if_neg (fun c => e c.2.2)]
theorem scC_ne {fr j c x a l : Nat} {f : Tb} (h : a ≠ x) : F.scC fr j c (x + 1) f a l = F.scC fr j c x f a l := by
  unfold scC
  by_cases e : fr ≤ a ∧ a < x ∧ l = j
  · rw [if_pos e, if_pos ⟨e.1, by omega, e.2.2⟩]
  · rw [if_neg e, if_neg (fun c => e ⟨c.1, by omega, c.2.2⟩)]
theorem scC_zero {fr j c a l : Nat} {f : Tb} : F.scC fr j c fr f a l = f a l := by unfold scC; rw [if_neg (by omega)]
theorem clC_at {i j x l : Nat} {f : Tb} (h : j ≠ i) : F.clC i j (x + 1) f x l = if l = j then F.clC i j x f x j ^^^ F.mul (F.clC i j x f x i) (f i j) else F.clC i j x f x l := by
  unfold clC
  rw [if_neg (show ¬ (j ≠ i ∧ (j < j ∨ j = j ∧ x < x)) by omega), if_neg (show ¬ (i ≠ i ∧ (i < j ∨ i = j ∧ x < x)) by omega)]
  by_cases e : l = j
  · rw [if_pos e, if_pos ⟨by omega, .inr ⟨e, by omega⟩⟩, e]
  · rw [if_neg e]
    by_cases e2 : l ≠ i ∧ l < j
    · rw [if_pos ⟨e2.1, .inl e2.2⟩, if_pos ⟨e2.1, .inl e2.2⟩]
    · rw [if_neg (by omega), if_neg (by omega)]
theorem clC_ne {i j x a l : Nat} {f : Tb} (h : a ≠ x) : F.clC i j (x + 1) f a l = F.clC i j x f a l := by
  unfold clC
  by_cases e : l ≠ i ∧ (l < j ∨ l = j ∧ a < x)
  · rw [if_pos e, if_pos (by omega)]
  · rw [if_neg e, if_neg (by omega)]
theorem clC_skip {i x a l : Nat} {f : Tb} : F.clC i i (x + 1) f a l = F.clC i i x f a l := by
  unfold clC
  by_cases e : l ≠ i ∧ (l < i ∨ l = i ∧ a < x)
  · rw [if_pos e, if_pos (by omega)]
  · rw [if_neg e, if_neg (by omega)]
theorem clC_next {i j n a l : Nat} {f : Tb} (h : a < n) : F.clC i j n f a l = F.clC i (j + 1) 0 f a l := by
  unfold clC
  by_cases e : l ≠ i ∧ (l < j ∨ l = j ∧ a < n)
  · rw [if_pos e, if_pos (by omega)]
  · rw [if_neg e, if_neg (by omega)]
theorem clC_self {i j x a : Nat} {f : Tb} : F.clC i j x f a i = f a i := by unfold clC; rw [if_neg (by omega)]
theorem clC_zero {i a l : Nat} {f : Tb} : F.clC i 0 0 f a l = f a l := by unfold clC; rw [if_neg (by omega)]
end Fld
/-- The two stores of a swap. -/
def colH (i q x : Nat) (f : Tb) : Tb := fun r l => if r = x ∧ l = i then f x q else colS i q x f r l
theorem colH_at {i q x l : Nat} {f : Tb} : colH i q x f x l = if l = i then f x q else colS i q x f x l := by
  unfold colH
  by_cases e : l = i
  · rw [if_pos ⟨rfl, e⟩, if_pos e]
  · rw [if_neg (fun c => e c.2), if_neg e]
theorem colH_ne {i q x a l : Nat} {f : Tb} (h : a ≠ x) : colH i q x f a l = colS i q x f a l := by unfold colH; rw [if_neg (fun c => h c.1)]
theorem colS_at {i q x l : Nat} {f : Tb} : colS i q (x + 1) f x l = if l = q then f x i else colH i q x f x l := by
  rw [colH_at]
  unfold colS Fld.sw
  rw [if_pos (show x < x + 1 by omega), if_neg (show ¬ x < x by omega)]
  by_cases e : l = q
  · by_cases e2 : l = i
    · subst e; subst e2; simp
    · rw [if_neg e2, if_pos e, if_pos e]
  · by_cases e2 : l = i
    · rw [if_pos e2, if_neg e, if_pos e2]
    · rw [if_neg e2, if_neg e, if_neg e, if_neg e2]
theorem colS_ne {i q x a l : Nat} {f : Tb} (h : a ≠ x) : colS i q (x + 1) f a l = colH i q x f a l := by
  rw [colH_ne h]
  unfold colS
  by_cases e : a < x
  · rw [if_pos e, if_pos (by omega)]
  · rw [if_neg e, if_neg (by omega)]
theorem colS_old {i q x l : Nat} {f : Tb} : colS i q x f x l = f x l := by unfold colS; rw [if_neg (by omega)]
theorem colS_zero {i q a l : Nat} {f : Tb} : colS i q 0 f a l = f a l := by unfold colS; rw [if_neg (by omega)]
/-! ### parity rows, as they are made -/
section
variable {wb p : Nat} (hp : Prm wb p) {k m : Nat}
def colI (k m j : Nat) : Tb := fun r l => if k ≤ r ∧ l < j then jC hp k m (r - k) l else redC hp k m k r l
def rowI (k m x j : Nat) : Tb := fun r l => if k < r ∧ (r < k + 1 + x ∨ r = k + 1 + x ∧ l < j) then parT hp k m (r - k) l else colI hp k m k r l
theorem redC_jG {r l : Nat} (h : k ≤ r) : redC hp k m k r l = jG hp k m (r - k) l := by unfold jG; rw [show k + (r - k) = r by omega]
theorem colI_zero {a b : Nat} : colI hp k m 0 a b = redC hp k m k a b := by unfold colI; rw [if_neg (by omega)]
theorem colI_at {j : Nat} : colI hp k m j k j = jG hp k m 0 j := by unfold colI; rw [if_neg (by omega), redC_jG hp (Nat.le_refl _), Nat.sub_self]
theorem colI_bd {j : Nat} : hp.fld.Bd (colI hp k m j) := fun a b => by unfold colI; split; exact jC_bd hp k m _ _; exact redC_bd hp k m k _ _
theorem colI_step {j n a b : Nat} (ha : a < n) : hp.fld.scC k j (hp.fld.inv (jG hp k m 0 j)) n (colI hp k m j) a b = colI hp k m (j + 1) a b := by
  unfold Fld.scC
  by_cases e : k ≤ a ∧ a < n ∧ b = j
  · obtain ⟨e1, e2, rfl⟩ := e
    rw [if_pos ⟨e1, e2, rfl⟩]
    unfold colI
    rw [if_neg (by omega), if_pos ⟨e1, by omega⟩, redC_jG hp e1]
    rfl
  · rw [if_neg e]
    unfold colI
    by_cases e2 : k ≤ a ∧ b < j
    · rw [if_pos e2, if_pos (by omega)]
    · rw [if_neg e2, if_neg (by omega)]
theorem rowI_zero {a b : Nat} : rowI hp k m 0 0 a b = colI hp k m k a b := by unfold rowI; rw [if_neg (by omega)]
theorem rowI_at {x j l : Nat} (hl : ¬ l < j := by omega) (hk : l < k := by omega) : rowI hp k m x j (k + 1 + x) l = jC hp k m (x + 1) l := by
  unfold rowI colI
  rw [if_neg (by omega), if_pos ⟨by omega, hk⟩, show k + 1 + x - k = x + 1 by omega]
theorem rowI_ne {x j a l : Nat} (h : a ≠ k + 1 + x) : rowI hp k m x (j + 1) a l = rowI hp k m x j a l := by
  unfold rowI
  by_cases e : k < a ∧ (a < k + 1 + x ∨ a = k + 1 + x ∧ l < j)
  · rw [if_pos e, if_pos (by omega)]
  · rw [if_neg e, if_neg (by omega)]
theorem rowI_col {x j l : Nat} : rowI hp k m x (j + 1) (k + 1 + x) l = if l = j then hp.fld.mul (jC hp k m (x + 1) j) (hp.fld.inv (jC hp k m (x + 1) 0)) else rowI hp k m x j (k + 1 + x) l := by
  by_cases e : l = j
  · rw [if_pos e]
    unfold rowI
    rw [if_pos (by omega), show k + 1 + x - k = x + 1 by omega, parT_pos hp (by omega), e]
  · rw [if_neg e]
    unfold rowI
    by_cases e2 : l < j
    · rw [if_pos (by omega), if_pos (by omega)]
    · rw [if_neg (by omega), if_neg (by omega)]
theorem rowI_next {x a b : Nat} (hb : b < k) : rowI hp k m x k a b = rowI hp k m (x + 1) 0 a b := by
  unfold rowI
  by_cases e : k < a ∧ (a < k + 1 + x ∨ a = k + 1 + x ∧ b < k)
  · rw [if_pos e, if_pos (by omega)]
  · rw [if_neg e, if_neg (by omega)]
theorem rowI_end (hm : 1 ≤ m) : tab m k (parT hp k m) = (tab (k + m) k (rowI hp k m (m - 1) 0)).drop k := by
  rw [tab_drop (by omega), show k + m - k = m by omega]
  refine tab_congr fun i j hi hj => ?_
  unfold rowI
  by_cases e : i = 0
  · subst e
    rw [if_neg (by omega)]
    unfold colI
    rw [if_pos ⟨by omega, hj⟩, show k + 0 - k = 0 by omega]
    exact parT_zero hp
  · rw [if_pos (by omega), show k + i - k = i by omega]
end
end Go.Gam
