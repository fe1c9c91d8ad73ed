/- Rows in memory that a walk writes: each in a block of its own; scopes; what one step of the reduction is. No program in sight. -/
import Derived.Test.YtkoiolamnnmokaaDoorGInv
import Derived.Test.YtkoiolamnnmokaaDoorGGh
import Derived.Scope
set_option linter.unusedVariables false
set_option linter.unusedSimpArgs false
namespace Go.Gam
open Px

theorem W_scope {P : Program} {N R : Kont} {X : List (Nat × Kont)} {a : Act} {w : World} {c : Code} (h : W P c N X R a w) : W P (.scope c) N X R a w :=
  wp_scope_straight (wp_mono h fun e a w hq => by cases e <;> exact hq)
theorem W_label {P : Program} {N R : Kont} {X : List (Nat × Kont)} {a : Act} {w : World} {l : Nat} (h : N a w) : W P (.label l) N X R a w := wp_label h

section
variable {P : Program} {ops : Array Oper} {K : Kont} {rest : List Oper} {n : NN} {F : Fs} {T : TypeId} {pp : String} {af : Array Edge} {v : Value} {d : Nat} {a : Act} {w : World} {x y : Operand} {D : FD} {B : Nat}
theorem v_capS {t e by_ : Nat} {z : Value} {ats : Array TypeId} {a : Option Addr} {n c : Nat} (hat : ats = #[t]) (ht : Sl P t e z by_) (hx : ev F x = some (.slice a n c)) : Val P (.call ⟨.builtin .cap, #[x], ats⟩) T F w (.int .i64 (c : Int)) :=
  fun ρ h d p af g => by
    subst hat
    simp [execOp, resolve, invoke, builtin, Builtin.cap_, h x _ hx, underlying, ht.1, program, Sem.run, goInt]
theorem zeroCells_one (z : Value) (k : Nat) : Builtin.zeroCells #[z] k = (List.replicate k z).toArray := by
  apply Array.ext
  · simp [Builtin.zeroCells]
  · intro i h1 h2
    simp [Builtin.zeroCells, Nat.mod_one]
/-- So many zeros, appended to nothing. -/
theorem s_appZ {t tx e by_ m : Nat} {ats : Array TypeId} {z : Value} {k1 : IntKind} {X : Int} (hF : Fr n F a) (hat : ats = #[t, tx]) (ht : Sl P t e z by_) (htx : P.underlying tx = some (.int k1)) (hx : ev F x = some (.slice none 0 0)) (hy : ev F y = some (.int .i64 X))
    (hX : X = (m : Int)) (h0 : 0 < m) (hm : m * by_ ≤ 8388608 ∧ m ≤ 1048576) (he : e ≠ D.T) (hI : Inv D B w) (hd : Nat.blt d n.n = true)
    (k : ∀ w' a c, Mb D B none w w' → Inv D B w' → Own D B w.heap.size w' e (.slice (some ⟨w.heap.size, 0, none⟩) m c) (some w.heap.size) (List.replicate m z) → Fr n ((d, .slice (some ⟨w.heap.size, 0, none⟩) m c) :: F) a → WL P ops K rest a w') :
    WL P ops K (⟨some d, .call ⟨.builtin .append, #[x, y], ats⟩, T, pp, af, none⟩ :: rest) a w := by
  subst hat
  subst hX
  obtain ⟨t1, tz, i, t2, t3, t4, t5⟩ := ht
  subst t5
  have hml : m ≤ maxLen := Nat.le_trans hm.2 (by decide)
  have hge := grownCap_ge w m 0 e
  have hcm := grownCap_le_maxLen w m 0 e hml
  have hpn : Priv D B w w.heap.size := hI.priv_new (Nat.le_refl _)
  have hmn : m ≠ 0 := by omega
  have h63 : ¬ (9223372036854775807 < (m : Int)) := by omega
  have h48 : ¬ (281474976710656 < Builtin.nextslicecap m 0 * i.bytes) := by rw [nextslicecap_zero h0]; omega
  have h48' : ¬ (281474976710656 < (m : Int) * (i.bytes : Int)) := by
    have e1 : (m : Int) * (i.bytes : Int) = ((m * i.bytes : Nat) : Int) := by simp
    rw [e1]; omega
  have hw : IntKind.i64.wrap (m : Int) = (m : Int) := wrap_i64 _ (by omega)
  have hm0 : ¬ ((m : Int) < 0) := by omega
  have hz : ∀ k, Builtin.zeroCells z.cells k = (List.replicate k z).toArray := fun k => by rw [tz]; exact zeroCells_one z k
  obtain ⟨c, hc⟩ : ∃ c, c = grownCap w m 0 e := ⟨_, rfl⟩
  have hrun : (Builtin.append_ #[t, tx] T #[.slice none 0 0, .int .i64 (m : Int)]).run P w = .ok (.slice (some ⟨w.heap.size, 0, none⟩) m c) (w.drew.alloc (.cells (List.replicate m z ++ List.replicate (c - m) z).toArray e)) := by
    simp [Builtin.append_, run_underlying t1, run_underlying htx, sizeOf, typeInfo, zeroValue, t2, t3, t4, asInt, asIntOf, hw, hm0, hmn, h63, h48, h48', Question.forced, run_firstCells_none, newRow, hz, hc, grownCap]
  rw [← hc] at hge hcm
  have ho : Own D B w.heap.size (w.drew.alloc (.cells (List.replicate m z ++ List.replicate (c - m) z).toArray e)) e (.slice (some ⟨w.heap.size, 0, none⟩) m c) (some w.heap.size) (List.replicate m z) :=
    .inr ⟨w.heap.size, c, _, by simp, rfl, Nat.le_refl _, hI.1, alloc_new w.drew _, by simpa using hge, hcm, by simp; omega, by simp, (Mb.drew_alloc _ e he).priv hpn⟩
  refine s_run (w' := w.drew.alloc (.cells (List.replicate m z ++ List.replicate (c - m) z).toArray e)) hF (fun ρ h => ?_) hd fun a hF => k _ a c (Mb.drew_alloc _ e he) ((Mb.drew_alloc _ e he).inv hI) ho hF
  simp [execOp, resolve, invoke, builtin, h x _ hx, h y _ hy, hrun]
end
theorem Own.to {D : FD} {B N E g l cap hi : Nat} {w : World} {b : Option Nat} {xs : List Value} (h : Own D B N w E (.slice (some ⟨g, 0, none⟩) l cap) b xs) (h1 : hi ≤ xs.length) : Own D B N w E (.slice (some ⟨g, 0, none⟩) hi cap) b (xs.take hi) := by
  rcases h with ⟨h, _⟩ | ⟨g', cap', cur, e, h0, h1', hB, h2, h3, h4, h5, h6, h7⟩
  · cases h
  · obtain ⟨e1, e2, rfl⟩ := Value.slice.inj e
    injection e1 with e1; injection e1 with e1
    subst e1
    have hl : (xs.take hi).length = hi := by simp; omega
    refine .inr ⟨g, cap, cur, by rw [hl], h0, h1', hB, h2, by omega, h4, h5, ?_, h7⟩
    rw [hl, ← h6, List.take_take, Nat.min_eq_left h1]
/-! ### sums of rows -/
theorem flat_snoc {mt : Mtx} {i : Nat} {r : List Int} (h : mt[i]? = some r) : (mt.take (i + 1)).flatten = (mt.take i).flatten ++ r := by rw [take_snoc h, List.flatten_append]; simp
theorem flat_le {mt : Mtx} {c : Nat} (h : ∀ r ∈ mt, r.length ≤ c) : ∀ i, (mt.take i).flatten.length ≤ i * c
  | 0 => by simp
  | i + 1 => by
    have ih := flat_le h i
    cases hi : mt[i]? with
    | none => rw [List.take_add_one, hi]; simp only [Option.toList_none, List.append_nil]; rw [Nat.add_mul]; omega
    | some r => rw [flat_snoc hi, List.length_append, Nat.add_mul]; have := h r (List.mem_of_getElem? hi); omega

/-! ### rows of a table -/
def trow (m : Nat) (f : Tb) (i : Nat) : List Int := (List.range m).map fun j => (f i j : Int)
theorem tab_rows (n m : Nat) (f : Tb) : tab n m f = (List.range n).map (trow m f) := rfl
@[simp] theorem trow_length (m : Nat) (f : Tb) (i : Nat) : (trow m f i).length = m := by simp [trow]
theorem trow_at {m i j : Nat} {f : Tb} (h : j < m) : (trow m f i)[j]? = some (f i j : Int) := by simp [trow, h]
theorem trow_congr {m i k : Nat} {f g : Tb} (h : ∀ j, j < m → f i j = g k j) : trow m f i = trow m g k := List.map_congr_left fun j hj => by rw [h j (List.mem_range.1 hj)]
theorem trow_set {m i j y : Nat} {f g : Tb} (h : ∀ l, l < m → g i l = if l = j then y else f i l) : (trow m f i).set j (y : Int) = trow m g i := by
  apply List.ext_getElem?
  intro l
  by_cases hl : l < m
  · rw [trow_at hl, h l hl, List.getElem?_set]
    by_cases e : j = l
    · subst e; rw [if_pos rfl, if_pos (by simpa using hl), if_pos rfl]
    · rw [if_neg e, trow_at hl, if_neg (Ne.symm e)]
  · rw [List.getElem?_eq_none (by simp; omega), List.getElem?_eq_none (by simp; omega)]
def vls (n m : Nat) (bs rc : Nat → Nat) : List Value := (List.range n).map fun i => .slice (some ⟨bs i, 0, none⟩) m (rc i)
@[simp] theorem vls_length (n m : Nat) (bs rc : Nat → Nat) : (vls n m bs rc).length = n := by simp [vls]
theorem vls_at {n m i : Nat} {bs rc : Nat → Nat} (h : i < n) : (vls n m bs rc)[i]? = some (.slice (some ⟨bs i, 0, none⟩) m (rc i)) := by simp [vls, h]
theorem vls_one {n m : Nat} {bs rc : Nat → Nat} : ∀ u ∈ vls n m bs rc, u.oneCell' = true := by
  intro u hu
  obtain ⟨i, _, rfl⟩ := List.mem_map.1 hu
  rfl
theorem vls_sw {n m t k : Nat} {bs rc : Nat → Nat} (ht : t < n) (hk : k < n) :
    ((vls n m bs rc).set t (.slice (some ⟨bs k, 0, none⟩) m (rc k))).set k (.slice (some ⟨bs t, 0, none⟩) m (rc t)) = vls n m (fun i => bs (Fld.sw t k i)) (fun i => rc (Fld.sw t k i)) := by
  apply List.ext_getElem?
  intro l
  by_cases hl : l < n
  · rw [vls_at hl, List.getElem?_set]
    by_cases e : k = l
    · subst e
      rw [if_pos rfl, if_pos (by simpa using hl)]
      unfold Fld.sw
      by_cases e2 : k = t
      · subst e2; simp
      · simp [e2]
    · rw [if_neg e, List.getElem?_set]
      by_cases e2 : t = l
      · subst e2
        rw [if_pos rfl, if_pos (by simpa using hl)]
        unfold Fld.sw; simp
      · rw [if_neg e2, vls_at hl]
        unfold Fld.sw
        rw [if_neg (Ne.symm e2), if_neg (Ne.symm e)]
  · rw [List.getElem?_eq_none (by simp; omega), List.getElem?_eq_none (by simp; omega)]
theorem Own.kc {D : FD} {B N E g l cap i : Nat} {w : World} {b : Option Nat} {xs : List Value} {u : Value} (h : Own D B N w E (.slice (some ⟨g, 0, none⟩) l cap) b xs) (hE : E ≠ D.T) (hi : xs[i]? = some u) : KC D B w ⟨g, 0 + i, none⟩ u := by
  obtain ⟨g', o, e, hk, -⟩ := (h.row hE).kat hi
  injection e with e; injection e with e1 e2
  subst e1; subst e2
  exact hk
theorem Own.stz {D : FD} {B N E : Nat} {Z : Nat → Prop} {w w' : World} {v : Value} {b : Option Nat} {xs : List Value} (h : Own D B N w E v b xs) (hE : E ≠ D.T) (hs : StZ D B Z w w') (hz : ∀ k, b = some k → ¬ Z k) : Own D B N w' E v b xs := by
  rcases h with h | ⟨g, cap, cur, rfl, rfl, h1, hB, h2, h3, h4, h5, h6, h7⟩
  · exact .inl h
  · refine .inr ⟨g, cap, cur, rfl, rfl, h1, hB, ?_, h3, h4, h5, h6, hs.ext.priv g (heap_lt h2) h7⟩
    rw [hs.ext.keep g (heap_lt h2) (hz g rfl) (.inr fun c fr e => by rw [h2] at e; exact hE (Obj.cells.inj (Option.some.inj e)).2.1)]
    exact h2

/-- n rows of m numbers, the table f, each in a block of its own (bs, below K), that nobody else knows. -/
structure Wr (D : FD) (B N K : Nat) (w : World) (n m : Nat) (bs rc : Nat → Nat) (f : Tb) : Prop where
  row : ∀ i, i < n → Own D B N w D.E (.slice (some ⟨bs i, 0, none⟩) m (rc i)) (some (bs i)) (zints (trow m f i))
  inj : ∀ i j, i < n → j < n → bs i = bs j → i = j
  lt : ∀ i, i < n → bs i < K
section
variable {D : FD} {B N K n m : Nat} {w w' : World} {bs rc : Nat → Nat} {f g : Tb}
theorem Wr.nil : Wr D B N K w 0 m bs rc f := ⟨fun i h => by omega, fun i j h => by omega, fun i h => by omega⟩
theorem Wr.st (h : Wr D B N K w n m bs rc f) (hs : St D B w w') : Wr D B N K w' n m bs rc f := ⟨fun i hi => (h.row i hi).st D.ne hs, h.inj, h.lt⟩
theorem Wr.mb0 (h : Wr D B N K w n m bs rc f) (hm : Mb D B none w w') : Wr D B N K w' n m bs rc f := ⟨fun i hi => (h.row i hi).mb hm (fun _ _ => by simp), h.inj, h.lt⟩
theorem Wr.mbx {c : Option Nat} (h : Wr D B N K w n m bs rc f) (hm : Mb D B c w w') (hc : ∀ k, c = some k → K ≤ k) : Wr D B N K w' n m bs rc f :=
  ⟨fun i hi => (h.row i hi).mb hm (fun k e e2 => by have h1 := hc k e2; have h2 := h.lt i hi; obtain rfl := Option.some.inj e; omega), h.inj, h.lt⟩
theorem Wr.mbo {N' E2 : Nat} {c : Option Nat} {v : Value} {xs : List Value} (h : Wr D B N K w n m bs rc f) (hm : Mb D B c w w') (ho : Own D B N' w E2 v c xs) (hE : D.E ≠ E2) : Wr D B N K w' n m bs rc f :=
  ⟨fun i hi => (h.row i hi).mb hm ((h.row i hi).ne_type ho hE), h.inj, h.lt⟩
theorem Wr.mbd {c : Option Nat} (h : Wr D B N K w n m bs rc f) (hm : Mb D B c w w') (hd : ∀ i, i < n → c ≠ some (bs i)) : Wr D B N K w' n m bs rc f :=
  ⟨fun i hi => (h.row i hi).mb hm (fun k e e2 => hd i hi (e2.trans e.symm)), h.inj, h.lt⟩
theorem Wr.ge (h : Wr D B N K w n m bs rc f) {i : Nat} (hi : i < n) : N ≤ bs i ∧ bs i < w.heap.size := (h.row i hi).lt _ rfl
theorem Wr.ne (h : Wr D B N K w n m bs rc f) {i p : Nat} (hi : i < n) (hp : K ≤ p) : some (bs i) ≠ some p := fun e => by have h1 := h.lt i hi; injection e with e; omega
theorem Wr.set {i : Nat} (h : Wr D B N K w n m bs rc f) (hi : i < n) (hm : Mb D B (some (bs i)) w w') (ho : Own D B N w' D.E (.slice (some ⟨bs i, 0, none⟩) m (rc i)) (some (bs i)) (zints (trow m g i))) (hf : ∀ a, a < n → a ≠ i → ∀ j, j < m → g a j = f a j) : Wr D B N K w' n m bs rc g :=
  ⟨fun a ha => by
    by_cases e : a = i
    · subst e; exact ho
    · rw [trow_congr (hf a ha e)]
      exact (h.row a ha).mb hm (fun k e1 e2 => e (h.inj a i ha hi (Option.some.inj (e1.trans e2.symm)))), h.inj, h.lt⟩
theorem Wr.congr (h : Wr D B N K w n m bs rc f) (hf : ∀ i, i < n → ∀ j, j < m → f i j = g i j) : Wr D B N K w n m bs rc g :=
  ⟨fun i hi => by rw [← trow_congr (hf i hi)]; exact h.row i hi, h.inj, h.lt⟩
theorem Wr.sw {t k : Nat} (h : Wr D B N K w n m bs rc f) (ht : t < n) (hk : k < n) : Wr D B N K w n m (fun i => bs (Fld.sw t k i)) (fun i => rc (Fld.sw t k i)) (fun i j => f (Fld.sw t k i) j) :=
  ⟨fun i hi => h.row _ (Fld.sw_lt ht hk hi), fun i j hi hj e => by
    have h1 := h.inj _ _ (Fld.sw_lt ht hk hi) (Fld.sw_lt ht hk hj) e
    rw [← Fld.sw_sw t k i, h1, Fld.sw_sw], fun i hi => h.lt _ (Fld.sw_lt ht hk hi)⟩
theorem Wr.rd (h : Wr D B N K w n m bs rc f) {i j : Nat} (hi : i < n) (hj : j < m) : KC D B w ⟨bs i, 0 + j, none⟩ (.int .i64 (f i j : Int)) := (h.row i hi).kc D.ne (zints_at (trow_at hj))
theorem Wr.le {N' : Nat} (h : Wr D B N K w n m bs rc f) (hN : N' ≤ N) : Wr D B N' K w n m bs rc f := ⟨fun i hi => (h.row i hi).le hN, h.inj, h.lt⟩
theorem Wr.up {K' : Nat} (h : Wr D B N K w n m bs rc f) (hK : K ≤ K') : Wr D B N K' w n m bs rc f := ⟨h.row, h.inj, fun i hi => Nat.lt_of_lt_of_le (h.lt i hi) hK⟩
theorem Wr.stz {Z : Nat → Prop} (h : Wr D B N K w n m bs rc f) (hs : StZ D B Z w w') (hz : ∀ i, i < n → ¬ Z (bs i)) : Wr D B N K w' n m bs rc f :=
  ⟨fun i hi => (h.row i hi).stz D.ne hs (fun k e => by cases e; exact hz i hi), h.inj, h.lt⟩
/-- A row more. -/
theorem Wr.snoc {gx cx : Nat} (h : Wr D B N K w n m bs rc f) (ho : Own D B N w D.E (.slice (some ⟨gx, 0, none⟩) m cx) (some gx) (zints (trow m f n))) (hK : K ≤ gx) :
    Wr D B N w.heap.size w (n + 1) m (fun a => if a = n then gx else bs a) (fun a => if a = n then cx else rc a) f := by
  have key : ∀ i, i < n + 1 → i ≠ n → i < n := fun i h1 h2 => by omega
  refine ⟨fun i hi => ?_, fun i j hi hj e => ?_, fun i hi => ?_⟩
  · by_cases e : i = n
    · subst e; simp only [if_true]; exact ho
    · simp only [if_neg e]; exact h.row i (key i hi e)
  · by_cases e1 : i = n <;> by_cases e2 : j = n
    · omega
    · have := h.lt j (key j hj e2); simp only [if_pos e1, if_neg e2] at e; omega
    · have := h.lt i (key i hi e1); simp only [if_neg e1, if_pos e2] at e; omega
    · simp only [if_neg e1, if_neg e2] at e; exact h.inj i j (key i hi e1) (key j hj e2) e
  · by_cases e : i = n
    · subst e; simp only [if_true]; exact (ho.lt _ rfl).2
    · simp only [if_neg e]; exact (h.ge (key i hi e)).2
theorem vls_snoc {gx cx : Nat} : vls (n + 1) m (fun a => if a = n then gx else bs a) (fun a => if a = n then cx else rc a) = vls n m bs rc ++ [.slice (some ⟨gx, 0, none⟩) m cx] := by
  unfold vls
  rw [List.range_succ, List.map_append]
  congr 1
  · refine List.map_congr_left fun i hi => ?_
    have := List.mem_range.1 hi
    dsimp only
    rw [if_neg (by omega), if_neg (by omega)]
  · simp
/-- The rows, as a matrix. -/
theorem Wr.mat {E2 gb cap : Nat} {b : Option Nat} {sa : Option Addr} (h : Wr D B N K w n m bs rc f) (ho : Own D B N w E2 (.slice sa n cap) b (vls n m bs rc)) (hE : E2 ≠ D.T) : Mat D B w.heap.size w sa cap (tab n m f) := by
  refine ⟨vls n m bs rc, by rw [vls_length, tab_length], ?_, fun j v r hv hr => ?_⟩
  · have := ho.row hE
    rw [tab_length]; exact this
  · have hj : j < n := by simpa using (List.getElem?_eq_some_iff.1 hv).1
    rw [vls_at hj] at hv
    rw [tab_at hj] at hr
    obtain rfl := Option.some.inj hv
    obtain rfl := Option.some.inj hr
    exact (h.row j hj).row D.ne
end

theorem tab_mem {n m t : Nat} {f : Tb} {r : List Int} (h : r ∈ (tab n m f).drop t) : r.length = m := by
  obtain ⟨i, _, rfl⟩ := List.mem_map.1 (List.mem_of_mem_drop h)
  simp
theorem ginv_fld {wb p x : Nat} (hp : Prm wb p) (hx : x < 2 ^ wb) (h0 : x ≠ 0) : ginv (some (wb, p)) (x : Int) = (hp.fld.inv x : Int) := by
  rw [ginv_nat hp hx h0]
  unfold Fld.inv
  rw [hp.fld_w, show hp.fld.pow x (2 ^ wb - 2) = Px.pow x p (2 ^ wb - 2) from fld_pow p hp.irrP x _]
theorem bes_row (m k : Nat) (f g : Tb) (i : Nat) : ([trow m f i, trow k g i] : Mtx).flatten = trow (m + k) (Fld.bes m f g) i := by
  simp only [List.flatten_cons, List.flatten_nil, List.append_nil]
  unfold trow
  rw [List.range_add, List.map_append, List.map_map]
  congr 1
  · refine List.map_congr_left fun j hj => ?_
    unfold Fld.bes; rw [if_pos (List.mem_range.1 hj)]
  · refine List.map_congr_left fun j hj => ?_
    simp only [Function.comp]
    unfold Fld.bes; rw [if_neg (by omega), Nat.add_sub_cancel_left]
/-- The row that a search finds. -/
theorem piv_idx {n m c t : Nat} {f : Tb} (hc : c < m) (ht : t ≤ n) {p : List Int → Bool} (hp : ∀ r, p r = decide (r.getD c 0 ≠ 0)) :
    (idxZ p ((tab n m f).drop t) = -1 ∧ Fld.piv f n c t (n - t) = none) ∨ ∃ k, Fld.piv f n c t (n - t) = some k ∧ t ≤ k ∧ k < n ∧ idxZ p ((tab n m f).drop t) = (k : Int) - (t : Int) := by
  have hpi : ∀ i, i < n → p (trow m f i) = decide (f i c ≠ 0) := fun i hi => by
    rw [hp, getD_at (trow_at hc)]
    congr 1
    simp
  have hat : ∀ j r, ((tab n m f).drop t)[j]? = some r → t + j < n ∧ r = trow m f (t + j) := fun j r h => by
    rw [List.getElem?_drop] at h
    have hl := (List.getElem?_eq_some_iff.1 h).1
    rw [tab_length] at hl
    rw [tab_at hl] at h
    exact ⟨hl, (Option.some.inj h).symm⟩
  cases hk : Fld.piv f n c t (n - t) with
  | none =>
    refine .inl ⟨idxZ_no fun r hr => ?_, rfl⟩
    obtain ⟨j, hj⟩ := List.getElem?_of_mem hr
    obtain ⟨h1, rfl⟩ := hat j r hj
    rw [hpi _ h1, Fld.piv_none hk (t + j) (by omega) (by omega)]
    simp
  | some k =>
    obtain ⟨k1, k2, k3, k4⟩ := Fld.piv_some hk
    refine .inr ⟨k, rfl, k1, by omega, ?_⟩
    have e : idxZ p ((tab n m f).drop t) = ((k - t : Nat) : Int) := by
      refine idxZ_at (x := trow m f k) (fun r hr => ?_) ?_ ?_
      · obtain ⟨j, hj⟩ := List.getElem?_of_mem hr
        rw [List.getElem?_take] at hj
        split at hj
        · rename_i hlt
          obtain ⟨h1, rfl⟩ := hat j r hj
          rw [hpi _ h1, k4 (t + j) (by omega) (by omega)]
          simp
        · cases hj
      · rw [List.getElem?_drop, show t + (k - t) = k by omega, tab_at (by omega)]; rfl
      · rw [hpi k (by omega)]; simpa using k3
    rw [e]; omega

/-! ### what the functions of package invert tell -/
theorem Mx.bd {wb p n m : Nat} {a : Mtx} (hp : Prm wb p) (h : Mx wb n m a) : hp.fld.Bd (en a) := fun i j => by
  rw [hp.fld_w]
  have h0 : 0 < 2 ^ wb := Nat.two_pow_pos _
  by_cases hi : i < n
  · by_cases hj : j < m
    · exact h.lt hi hj
    · obtain ⟨r, hr⟩ : ∃ r, a[i]? = some r := ⟨_, List.getElem?_eq_getElem (by rw [h.1]; exact hi)⟩
      have hl := (h.2 r (List.mem_of_getElem? hr)).1
      unfold en
      rw [List.getD_eq_getElem?_getD, List.getD_eq_getElem?_getD, hr, Option.getD_some, List.getElem?_eq_none (by omega)]
      exact h0
  · unfold en
    have e : a[i]? = none := List.getElem?_eq_none (by rw [h.1]; omega)
    simp [List.getD_eq_getElem?_getD, e, h0]
def sqM (o : Fq) (a : Mtx) : Bool := mayM o a && decide (a.length = wid a)
section
variable {wb p : Nat} (hp : Prm wb p)
def invR (a : Mtx) : Int × Mtx := if sqM (some (wb, p)) a = true then (match hp.fld.iv a.length (en a) with | none => (2, []) | some g => (0, tab a.length a.length g)) else (1, [])
def rankR (a : Mtx) : Int × Int := if mayM (some (wb, p)) a = true then ((hp.fld.rk a.length (en a) (wid a) : Nat), 0) else (0, 1)
def solR (a : Mtx) (v : List Int) : Int × List Int := if sqM (some (wb, p)) a = true ∧ v.length = a.length ∧ (∀ x ∈ v, inF (some (wb, p)) x = true) then (match hp.fld.iv a.length (en a) with | none => (2, []) | some g => (0, (applyM (some (wb, p)) (tab a.length a.length g) v).getD [])) else (1, [])
theorem sqM_Mx {a : Mtx} (h : sqM (some (wb, p)) a = true) : Mx wb a.length a.length a ∧ 1 ≤ a.length ∧ a.length ≤ 20 ∧ wid a = a.length := by
  simp only [sqM, Bool.and_eq_true, decide_eq_true_eq] at h
  obtain ⟨h1, h2, h3, h4, h5⟩ := mayM_Mx h.1
  rw [← h.2] at h1
  exact ⟨h1, h2, h3, h.2.symm⟩
theorem Mx.sq {n : Nat} {a : Mtx} (h : Mx wb n n a) (h1 : 1 ≤ n) (h2 : n ≤ 20) : sqM (some (wb, p)) a = true := by
  unfold sqM
  rw [h.may h1 h2 h1 h2, h.wid (by omega), h.1]; simp
theorem invR_bad {a : Mtx} (h : sqM (some (wb, p)) a = false) : invR hp a = (1, []) := by unfold invR; rw [h]; rfl
theorem invR_none {a : Mtx} (h : sqM (some (wb, p)) a = true) (hn : hp.fld.iv a.length (en a) = none) : invR hp a = (2, []) := by unfold invR; rw [if_pos h, hn]
theorem invR_some {a : Mtx} {g : Tb} (h : sqM (some (wb, p)) a = true) (hn : hp.fld.iv a.length (en a) = some g) : invR hp a = (0, tab a.length a.length g) := by unfold invR; rw [if_pos h, hn]
/-- The right half, once the rows are reduced. -/
def half (n : Nat) (f : Tb) : Tb := fun i j => (hp.fld.red n (Fld.bes n f I1) n).1 i (n + j)
theorem iv_lt {n : Nat} {f : Tb} (h : hp.fld.rk n (Fld.bes n f I1) n < n) : hp.fld.iv n f = none := if_pos h
theorem iv_ge {n : Nat} {f : Tb} (h : ¬ hp.fld.rk n (Fld.bes n f I1) n < n) : hp.fld.iv n f = some (half hp n f) := if_neg h
theorem half_row (n : Nat) (f : Tb) (i : Nat) : (trow (n + n) (hp.fld.red n (Fld.bes n f I1) n).1 i).drop n = trow n (half hp n f) i := by
  unfold trow
  rw [List.range_add, List.map_append, List.drop_append_of_le_length (by simp), List.drop_of_length_le (by simp), List.nil_append, List.map_map]
  rfl
theorem invR_lens (a : Mtx) : (invR hp a).2.length ≤ 20 ∧ ∀ r ∈ (invR hp a).2, r.length ≤ 20 := by
  unfold invR
  split
  · rename_i h
    obtain ⟨-, h1, h2, -⟩ := sqM_Mx h
    cases hp.fld.iv a.length (en a) with
    | none => simp
    | some g =>
      refine ⟨by simpa [tab_length] using h2, fun r hr => ?_⟩
      obtain ⟨i, _, rfl⟩ := List.mem_map.1 hr
      simpa using h2
  · simp
theorem solR_bad {a : Mtx} {v : List Int} (h : ¬ (sqM (some (wb, p)) a = true ∧ v.length = a.length ∧ (∀ x ∈ v, inF (some (wb, p)) x = true))) : solR hp a v = (1, []) := if_neg h
theorem solR_none {a : Mtx} {v : List Int} (h : sqM (some (wb, p)) a = true ∧ v.length = a.length ∧ (∀ x ∈ v, inF (some (wb, p)) x = true)) (h1 : (invR hp a).1 ≠ 0) : solR hp a v = ((invR hp a).1, []) := by
  unfold solR invR at *
  rw [if_pos h]
  rw [if_pos h.1] at h1 ⊢
  cases hi : hp.fld.iv a.length (en a) with
  | none => rfl
  | some g => rw [hi] at h1; exact absurd rfl h1
theorem solR_some {a : Mtx} {v : List Int} (h : sqM (some (wb, p)) a = true ∧ v.length = a.length ∧ (∀ x ∈ v, inF (some (wb, p)) x = true)) (h1 : (invR hp a).1 = 0) : solR hp a v = (0, (applyM (some (wb, p)) (invR hp a).2 v).getD []) := by
  unfold solR invR at *
  rw [if_pos h]
  rw [if_pos h.1] at h1 ⊢
  cases hi : hp.fld.iv a.length (en a) with
  | none => rw [hi] at h1; cases h1
  | some g => rfl
/-- A table's product with a column of the field's numbers is one. -/
theorem apply_fld {n m : Nat} {g : Tb} {v : List Int} (hg : hp.fld.Bd g) (hv : ∀ x ∈ v, inF (some (wb, p)) x = true) (hl : v.length = m) (hn : 1 ≤ n ∧ n ≤ 20) (hm : 1 ≤ m ∧ m ≤ 20) :
    applyM (some (wb, p)) (tab n m g) v = some ((List.range n).map fun i => ((xsum m fun l => hp.fld.mul (g i l) ((v.getD l 0).toNat) : Nat) : Int)) := by
  subst hl
  have hM := Mx.tab (w := wb) (n := n) (m := v.length) (f := g) fun i j _ _ => by have := hg i j; rw [hp.fld_w] at this; exact this
  have hc := Mx.col (fun x hx => inF_some.1 (hv x hx))
  rw [applyM_eq, mulM_tab hp hM hc hn hm ⟨by omega, by omega⟩]
  show some _ = some _
  congr 1
  unfold tab
  dsimp only
  rw [List.map_map]
  refine List.map_congr_left fun i hi => ?_
  have hi' := List.mem_range.1 hi
  show ((xsum v.length fun l => _ : Nat) : Int) = _
  congr 1
  refine xsum_congr fun l hl => ?_
  have e := en_tab (n := n) (m := v.length) (f := g) hi' hl
  unfold tab at e
  rw [e, en_col]
theorem inv_apply {a : Mtx} {v : List Int} (h : sqM (some (wb, p)) a = true ∧ v.length = a.length ∧ (∀ x ∈ v, inF (some (wb, p)) x = true)) (h1 : (invR hp a).1 = 0) : ∃ m, applyM (some (wb, p)) (invR hp a).2 v = some m := by
  obtain ⟨hm, a1, a2, -⟩ := sqM_Mx h.1
  cases hi : hp.fld.iv a.length (en a) with
  | none => rw [invR_none hp h.1 hi] at h1; cases h1
  | some g =>
    rw [invR_some hp h.1 hi]
    exact ⟨_, apply_fld hp (hp.fld.iv_some (hm.bd hp) hi).bd' h.2.2 h.2.1 ⟨a1, a2⟩ ⟨a1, a2⟩⟩
end

/-! ### one step of the reduction, as it is walked -/
namespace Fld
variable (F : Fld)
def sclF (t s J : Nat) (f : Tb) : Tb := fun i j => if i = t ∧ j < J then F.mul (f t j) s else f i j
def clrF (t i n J : Nat) (f : Tb) : Tb := fun a j => if a = i ∧ j < J then f a j ^^^ F.mul n (f t j) else f a j
def cleF (t c I : Nat) (f : Tb) : Tb := fun a j => if a < I ∧ a ≠ t then f a j ^^^ F.mul (f a c) (f t j) else f a j
theorem op_eq {n m t k c s : Nat} {f : Tb} (hc : c < m) : ∀ i, i < n → ∀ j, j < m → F.cleF t c n (F.sclF t s m (fun i j => f (sw t k i) j)) i j = F.op t k s (fun i => f (sw t k i) c) f i j := by
  intro i hi j hj
  have e : sw t k t = k := by unfold sw; rw [if_pos rfl]
  unfold cleF sclF op
  by_cases h : i = t
  · subst h
    simp only [ne_eq, not_true_eq_false, and_false, if_false, hj, and_self, if_true, e]
  · simp only [hi, ne_eq, h, not_false_eq_true, and_self, if_true, false_and, if_false, hj, true_and, e]
theorem red_full {n : Nat} {f : Tb} {c : Nat} (h : (F.red n f c).2 = n) : ∀ d, F.red n f (c + d) = F.red n f c
  | 0 => rfl
  | d + 1 => by
    rw [← Nat.add_assoc, red, red_full h d, h]
    unfold stp
    rw [Nat.sub_self]
    show ((F.red n f c).1, n) = F.red n f c
    exact Prod.ext rfl h.symm
theorem red_none {n : Nat} {f g : Tb} {c t : Nat} (h1 : (F.red n f c).1 = g) (h2 : (F.red n f c).2 = t) (h : piv g n c t (n - t) = none) : F.red n f (c + 1) = (g, t) := by
  subst h1; subst h2
  rw [red]; unfold stp; rw [h]
theorem red_some {n : Nat} {f g : Tb} {c t k : Nat} (h1 : (F.red n f c).1 = g) (h2 : (F.red n f c).2 = t) (h : piv g n c t (n - t) = some k) : F.red n f (c + 1) = (F.op t k (F.inv (g k c)) (fun i => g (sw t k i) c) g, t + 1) := by
  subst h1; subst h2
  rw [red]; unfold stp; rw [h]
theorem sclF_bd {t s J : Nat} {f : Tb} (h : F.Bd f) : F.Bd (F.sclF t s J f) := fun i j => by unfold sclF; split; exact F.lt _ _; exact h _ _
theorem cleF_bd {t c I : Nat} {f : Tb} (h : F.Bd f) : F.Bd (F.cleF t c I f) := fun i j => by unfold cleF; split; exact Px.xor_lt (h _ _) (F.lt _ _); exact h _ _
theorem clrF_bd {t i n J : Nat} {f : Tb} (h : F.Bd f) : F.Bd (F.clrF t i n J f) := fun a j => by unfold clrF; split; exact Px.xor_lt (h _ _) (F.lt _ _); exact h _ _
theorem clrF_at {t i n j : Nat} {f : Tb} (hne : i ≠ t) (l : Nat) : F.clrF t i n (j + 1) f i l = if l = j then F.clrF t i n j f i j ^^^ F.mul n (F.clrF t i n j f t j) else F.clrF t i n j f i l := by
  unfold clrF
  by_cases h : l = j
  · subst h; rw [if_pos rfl, if_pos (by omega), if_neg (by omega), if_neg (by omega)]
  · rw [if_neg h]
    by_cases h2 : l < j
    · rw [if_pos (by omega), if_pos (by omega)]
    · rw [if_neg (by omega), if_neg (by omega)]
theorem sclF_at {t s j : Nat} {f : Tb} (l : Nat) : F.sclF t s (j + 1) f t l = if l = j then F.mul (F.sclF t s j f t j) s else F.sclF t s j f t l := by
  unfold sclF
  by_cases h : l = j
  · subst h; rw [if_pos rfl, if_pos (by omega), if_neg (by omega)]
  · rw [if_neg h]
    by_cases h2 : l < j
    · rw [if_pos (by omega), if_pos (by omega)]
    · rw [if_neg (by omega), if_neg (by omega)]
theorem cleF_step {t c I m : Nat} {f : Tb} (hc : c < m) (hI : I ≠ t) : ∀ a, ∀ j, j < m → F.clrF t I (F.cleF t c I f I c) m (F.cleF t c I f) a j = F.cleF t c (I + 1) f a j := by
  intro a j hj
  have e1 : F.cleF t c I f I c = f I c := by unfold cleF; rw [if_neg (by omega)]
  have e2 : F.cleF t c I f t j = f t j := by unfold cleF; rw [if_neg (by omega)]
  unfold clrF
  rw [e1, e2]
  unfold cleF
  by_cases h : a = I
  · subst h; rw [if_pos ⟨rfl, hj⟩, if_neg (by omega), if_pos ⟨by omega, hI⟩]
  · rw [if_neg (by omega)]
    by_cases h2 : a < I ∧ a ≠ t
    · rw [if_pos h2, if_pos ⟨by omega, h2.2⟩]
    · rw [if_neg h2, if_neg (by omega)]
theorem cleF_skip {t c : Nat} {f : Tb} : ∀ a j, F.cleF t c t f a j = F.cleF t c (t + 1) f a j := by
  intro a j
  unfold cleF
  by_cases h : a < t ∧ a ≠ t
  · rw [if_pos h, if_pos ⟨by omega, h.2⟩]
  · rw [if_neg h, if_neg (by omega)]
end Fld
end Go.Gam
