/- Slices that the walk makes, appends to, stores into; regions whose order is open. No program in sight. -/
import Derived.Test.YtkoiolamnnmokaaDoorGWorld
set_option linter.unusedVariables false
set_option linter.unusedSimpArgs false
namespace Go.Gam
open Go

theorem fill_idx : ∀ (vs pre post : List Value) (A : Array Value), A.toList = pre ++ post → post.length = vs.length → (∀ v ∈ vs, v.cells = #[v]) →
    Instr.fill (fun i => some (i * 1, 1)) A (idx vs pre.length) = some (pre ++ vs).toArray := by
  intro vs
  induction vs with
  | nil =>
    intro pre post A hA hl _
    have : post = [] := List.eq_nil_of_length_eq_zero (by simpa using hl)
    subst this
    simp only [idx, Instr.fill, List.append_nil] at hA ⊢
    rw [← hA]
  | cons v r ih =>
    intro pre post A hA hl hc
    obtain ⟨p, post', rfl⟩ : ∃ p post', post = p :: post' := by cases post with | nil => simp at hl | cons p q => exact ⟨p, q, rfl⟩
    have hv : v.cells = #[v] := hc v (by simp)
    have hsz : A.size = pre.length + (post'.length + 1) := by rw [← Array.length_toList, hA]; simp
    simp only [idx, Instr.fill, Nat.mul_one, hv]
    rw [if_neg (by simp [hsz])]
    have := ih (pre ++ [v]) post' (A.setIfInBounds pre.length v) (by simp [hA]) (by simpa using hl) (fun u hu => hc u (by simp [hu]))
    simp only [List.length_append, List.length_cons, List.length_nil, Nat.zero_add, List.append_assoc, List.cons_append, List.nil_append, Nat.mul_one] at this
    simpa using this

/-- The parts of a composite: numbered operands. -/
def evp (F : Fs) : List (Nat × Operand) → Nat → Option (List Value)
  | [], _ => some []
  | (i, x) :: r, j => bif Nat.beq i j then (match ev F x, evp F r (j + 1) with | some v, some vs => some (v :: vs) | _, _ => none) else none

theorem Reads.parts {F : Fs} {ρ : Operand → Value} (h : Reads F ρ) : ∀ (l : List (Nat × Operand)) (j : Nat) (vs : List Value), evp F l j = some vs → (l.map fun (i, x) => (i, ρ x)) = idx vs j := by
  intro l
  induction l with
  | nil => intro j vs hv; simp [evp] at hv; simp [hv, idx]
  | cons p r ih =>
    obtain ⟨i, x⟩ := p
    intro j vs hv
    simp only [evp] at hv
    cases hb : Nat.beq i j with
    | false => rw [hb] at hv; cases hv
    | true =>
      have hij := Nat.eq_of_beq_eq_true hb
      subst hij
      rw [hb, cond_true] at hv
      split at hv
      · rename_i v vs' h1 h2
        obtain rfl := Option.some.inj hv
        simp [idx, h x v h1, ih (i + 1) vs' h2]
      · cases hv

section
variable {P : Program} {ops : Array Oper} {K : Kont} {rest : List Oper} {n : NN} {F : Fs} {T : TypeId} {pp : String} {af : Array Edge} {v : Value} {d : Nat} {a : Act} {w : World} {x : Operand} {D : FD} {B : Nat}

/-- What a new block of the walk's own is good for. -/
theorem own_new {N e cap : Nat} {w' : World} {cs xs : List Value} {g : Nat} (hg : w'.heap[g]? = some (.cells cs.toArray e (0, 0))) (hN : N ≤ g) (hB : B ≤ g) (hx : cs.take xs.length = xs) (hl : xs.length ≤ cap) (hc : cs.length = cap) (hm : cap ≤ maxLen) (hp : Priv D B w' g) :
    Own D B N w' e (.slice (some ⟨g, 0, none⟩) xs.length cap) (some g) xs :=
  .inr ⟨g, cap, cs.toArray, rfl, rfl, hN, hB, hg, hl, hm, by simpa using hc, by simpa using hx, hp⟩

/-- A literal slice. -/
theorem s_bs {t e by_ len : Nat} {z : Value} {parts : List (Nat × Operand)} {vs : List Value} (hF : Fr n F a) (ht : Sl P t e z by_) (hx : evp F parts 0 = some vs) (hlen : vs.length = len) (hsm : len ≤ 16777216)
    (hc : ∀ v ∈ vs, v.cells = #[v]) (he : e ≠ D.T) (hI : Inv D B w) (hd : Nat.blt d n.n = true)
    (k : ∀ w' a, Mb D B none w w' → Inv D B w' → Own D B w.heap.size w' e (.slice (some ⟨w.heap.size, 0, none⟩) len len) (some w.heap.size) vs → Fr n ((d, .slice (some ⟨w.heap.size, 0, none⟩) len len) :: F) a → WL P ops K rest a w') :
    WL P ops K (⟨some d, .buildSlice t len parts.toArray, T, pp, af, none⟩ :: rest) a w := by
  obtain ⟨h1, hz, i, h2, h3, h4, h5⟩ := ht
  have hmb := Mb.alloc D B w vs.toArray e (0, 0) he
  have hI' := hmb.inv hI
  refine s_run (w' := w.alloc (.cells vs.toArray e)) hF (fun ρ h => ?_) hd fun a hF => k _ a hmb hI' ?_ hF
  · have hp := h.parts parts 0 vs hx
    have hfill := fill_idx vs [] ((List.range len).map fun _ => z) ((Array.range len).map fun _ => z) (by simp) (by simp [hlen]) hc
    simp only [List.length_nil, List.nil_append] at hfill
    have hbig : ¬ (16777216 < len) := by omega
    by_cases h0 : len = 0
    · subst h0
      have : vs = [] := List.eq_nil_of_length_eq_zero hlen
      subst this
      simp [execOp, Instr.buildSlice, run_underlying h1, sizeOf, typeInfo, zeroValue, h2, h3, h4, hp, idx, Instr.fill, newRow]
      exact congrArg (fun c => w.alloc (Obj.cells c e)) (by simp)
    · have e1 : ((Array.range len).map fun x => z.cells[x % z.cells.size]!) = (Array.range len).map fun _ => z := by
        have : ∀ x, z.cells[x % z.cells.size]! = z := fun x => by rw [hz]; simp [Nat.mod_one]
        simp [this]
      simp only [Nat.mul_one] at hfill
      simp [execOp, Instr.buildSlice, run_underlying h1, sizeOf, typeInfo, zeroValue, h2, h3, h4, hp, h0, hbig, e1, hfill, newRow]
  · subst hlen
    exact own_new (alloc_new w _) (Nat.le_refl _) hI.1 (by simp) (Nat.le_refl _) rfl (by simp only [maxLen]; omega) (hmb.priv (hI.priv_new (Nat.le_refl _)))

theorem run_mk {t e by_ m : Nat} {z : Value} {k1 k2 : IntKind} (ht : Sl P t e z by_) (hb : m * by_ ≤ 281474976710656) (hm : m ≤ maxLen) :
    (Instr.makeSlice t (.int k1 (m : Int)) (.int k2 (m : Int))).run P w = .ok (.slice (some ⟨w.heap.size, 0, none⟩) m m) (w.alloc (.cells (List.replicate m z).toArray e)) := by
  obtain ⟨h1, hz, i, h2, h3, h4, h5⟩ := ht
  have hw : IntKind.i64.wrap (m : Int) = (m : Int) := wrap_i64 _ (by simp only [maxLen] at hm; omega)
  have h6 : ¬ (281474976710656 < (i.bytes : Int) * (m : Int)) := by
    rw [h5]
    have : ((by_ : Int) * (m : Int)) = ((m * by_ : Nat) : Int) := by rw [Nat.mul_comm]; simp
    rw [this]; omega
  have h7 : ¬ ((m : Int) < 0) := by omega
  have h9 : ((Array.range m).map fun x => z.cells[x % z.cells.size]!) = (List.replicate m z).toArray := by
    have : ∀ x, z.cells[x % z.cells.size]! = z := fun x => by rw [hz]; simp [Nat.mod_one]
    apply Array.toList_inj.1
    simp [this, List.map_const']
  have h10 : ∀ W : World, (askRoom (m * i.bytes)).run P W = .ok () W := by
    intro W; unfold askRoom; split <;> simp [mark, Sem.run]
  by_cases h0 : m = 0
  · subst h0
    have hw0 : IntKind.i64.wrap 0 = 0 := hw
    have h10' : ∀ W : World, (askRoom 0).run P W = .ok () W := by simp only [Nat.zero_mul] at h10; exact h10
    have e0 : (Array.range 0).map (fun _ => (default : Value)) = #[] := by simp
    simp [Instr.makeSlice, hw0, h10', e0, run_underlying h1, sizeOf, typeInfo, zeroValue, h2, h3, h4, asInt, asIntOf, hw, h10, newRow]
  · simp [Instr.makeSlice, run_underlying h1, sizeOf, typeInfo, zeroValue, h2, h3, h4, asInt, asIntOf, hw, h6, h7, h10, h0, h9, newRow]

/-- make([]T, m). -/
theorem s_mk {t e by_ m : Nat} {z : Value} {k1 k2 : IntKind} {y : Operand} {M : Int} (hF : Fr n F a) (ht : Sl P t e z by_) (hx : ev F x = some (.int k1 M)) (hy : ev F y = some (.int k2 M)) (hM : M = (m : Int))
    (hb : m * by_ ≤ 281474976710656) (hm : m ≤ maxLen) (he : e ≠ D.T) (hI : Inv D B w) (hd : Nat.blt d n.n = true)
    (k : ∀ w' a, Mb D B none w w' → Inv D B w' → Own D B w.heap.size w' e (.slice (some ⟨w.heap.size, 0, none⟩) m m) (some w.heap.size) (List.replicate m z) → Fr n ((d, .slice (some ⟨w.heap.size, 0, none⟩) m m) :: F) a → WL P ops K rest a w') :
    WL P ops K (⟨some d, .makeSlice t x y, T, pp, af, none⟩ :: rest) a w := by
  subst hM
  have hmb := Mb.alloc D B w (List.replicate m z).toArray e (0, 0) he
  refine s_run (w' := w.alloc (.cells (List.replicate m z).toArray e)) hF (fun ρ h => ?_) hd fun a hF => k _ a hmb (hmb.inv hI) ?_ hF
  · simp [execOp, h x _ hx, h y _ hy, run_mk ht hb hm]
  · have := own_new (D := D) (B := B) (N := w.heap.size) (cap := m) (xs := List.replicate m z) (alloc_new w (.cells (List.replicate m z).toArray e)) (Nat.le_refl _) hI.1 (by simp) (by simp) (by simp) hm (hmb.priv (hI.priv_new (Nat.le_refl _)))
    simpa using this

theorem Mb.setRow {g : Nat} {cur cs : Array Value} {e : TypeId} {fr : Nat × Nat} (hg : w.heap[g]? = some (.cells cur e fr)) (he : e ≠ D.T) (hB : B ≤ g) (hp : Priv D B w g) : Mb D B (some g) w (w.setRow g cs) := by
  refine ⟨rfl, rfl, rfl, by simp [World.setRow], fun k _ hk => setRow_other w g k cs (fun e => hk (by rw [e])), fun k hk c fr' hc => ?_, fun k e' => ?_⟩
  · have : (w.setRow g cs).heap.size = w.heap.size := by simp [World.setRow]
    have := heap_lt hc; omega
  · obtain rfl := Option.some.inj e'
    refine ⟨heap_lt hg, hB, fun c fr' hc => ?_, fun c fr' hc => ?_, hp⟩
    · rw [hg] at hc; exact he (Obj.cells.inj (Option.some.inj hc)).2.1
    · rw [setRow_heap w g cur cs e fr hg] at hc; exact he (Obj.cells.inj (Option.some.inj hc)).2.1

theorem Mb.weak {b : Option Nat} {w' : World} (h : Mb D B none w w') (ho : ∀ k, b = some k → k < w.heap.size ∧ B ≤ k ∧ notT D w k ∧ Priv D B w k) : Mb D B b w w' :=
  ⟨h.os, h.tape, h.output, h.size, fun k hk _ => h.keep k hk (by simp), h.typ, fun k e => let ⟨h1, h2, h3, h4⟩ := ho k e; ⟨h1, h2, h3, notT_of (h.keep k h1 (by simp)) h3, h4⟩⟩

theorem Own.who {N : Nat} {E : TypeId} {b : Option Nat} {xs : List Value} (h : Own D B N w E v b xs) (hE : E ≠ D.T) : ∀ k, b = some k → k < w.heap.size ∧ B ≤ k ∧ notT D w k ∧ Priv D B w k := by
  rintro k rfl
  rcases h with ⟨_, h, _⟩ | ⟨g, cap, cur, rfl, hb, h1, hB, h2, h3, h4, h5, h6, h7⟩
  · cases h
  · obtain rfl := Option.some.inj hb
    exact ⟨heap_lt h2, hB, fun c fr hc => by rw [h2] at hc; exact hE (Obj.cells.inj (Option.some.inj hc)).2.1, h7⟩

theorem Mb.drew_alloc (cs : Array Value) (e : TypeId) (he : e ≠ D.T) : Mb D B none w (w.drew.alloc (.cells cs e)) :=
  let h := Mb.alloc D B w cs e (0, 0) he
  ⟨h.os, h.tape, h.output, h.size, h.keep, h.typ, h.own⟩

/-- What append does, whatever the capacity. -/
theorem run_app {t ty e by_ N M : Nat} {z : Value} {b : Option Nat} {xs news : List Value} {xv : Value} (ht : Sl P t e z by_) (he : e ≠ D.T) (hI : Inv D B w) (hown : Own D B N w e v b xs) (hx : Row D B M w xv news)
    (h1 : ∀ u ∈ news, u.oneCell' = true) (hb : (xs.length + news.length) * by_ ≤ 140737488355328) (hm : xs.length + news.length ≤ maxLen) (hN : N ≤ w.heap.size) :
    ∃ v' b' w', (Builtin.append_ #[t, t] ty #[v, xv]).run P w = .ok v' w' ∧ Own D B N w' e v' b' (xs ++ news) ∧ Mb D B b w w' ∧ (b' = b ∨ b' = some w.heap.size) := by
  have ht' := ht
  obtain ⟨t1, tz, i, t2, t3, t4, t5⟩ := ht
  by_cases h0 : news = []
  · subst h0
    refine ⟨v, b, w, ?_, by simpa using hown, ⟨rfl, rfl, rfl, Nat.le_refl _, fun _ _ _ => rfl, fun k hk c fr hc => by have := heap_lt hc; omega, fun k e' => let ⟨p1, p2, p3, p4⟩ := hown.who he k e'; ⟨p1, p2, p3, p3, p4⟩⟩, .inl rfl⟩
    obtain ⟨xa, xc, rfl, _⟩ := hx.shape
    have hz : ∀ (o : Option Addr) (l c : Nat), (Builtin.firstCells 1 0 (.slice o l c)).run P w = .ok #[] w := by
      intro o l c; cases o <;> simp [Builtin.firstCells, loadCells, loadCellsFrom]
    rcases hown with ⟨rfl, -, rfl⟩ | ⟨g, cap, cur, rfl, rfl, h1', hB, h2, h3, h4, h5, h6, h7⟩
    · simp [Builtin.append_, run_underlying t1, sizeOf, typeInfo, t2, t3, Builtin.lenOf, hz]
    · simp [Builtin.append_, run_underlying t1, sizeOf, typeInfo, t2, t3, Builtin.lenOf, hz, h3, storeCells]
  · have hpos : 0 < news.length := by cases news with | nil => exact absurd rfl h0 | cons => simp
    rcases hx with ⟨_, _, -, h⟩ | ⟨xg, xo, xcap, rfl, x0, x1, x2, x3, x4⟩
    · exact absurd h h0
    have hnews : ∀ j u, news[j]? = some u → w.cell? ((⟨xg, xo, none⟩ : Addr).add j) = some u := fun j u hu => by rw [Addr.add_eq]; exact x4 j u hu
    have hsm : xs.length + news.length ≤ 9223372036854775807 := by simp only [maxLen] at hm; omega
    have hsz : ∀ k, (Builtin.zeroCells z.cells k).size = k := by intro k; rw [size_zeroCells, tz]; simp
    have hpn : Priv D B w w.heap.size := hI.priv_new (Nat.le_refl _)
    have grown : ∀ old, old < xs.length + news.length → ∀ c, c = grownCap w (xs.length + news.length) old e → ∀ cs, cs = xs.toArray ++ news.toArray ++ Builtin.zeroCells z.cells (c - (xs.length + news.length)) →
        Own D B N (w.drew.alloc (.cells cs e)) e (.slice (some ⟨w.heap.size, 0, none⟩) (xs ++ news).length c) (some w.heap.size) (xs ++ news) := by
      intro old ho c hc cs hcs
      have hge := grownCap_ge w (xs.length + news.length) old e
      have hcm := grownCap_le_maxLen w (xs.length + news.length) old e hm
      refine .inr ⟨w.heap.size, c, cs, rfl, rfl, hN, hI.1, alloc_new w.drew _, by simp; omega, by omega, ?_, ?_, (Mb.drew_alloc cs e he).priv hpn⟩
      · rw [hcs]; simp [hsz]; omega
      · rw [hcs]; simp only [Array.toList_append]; rw [List.take_append_of_le_length (by simp)]; exact List.take_of_length_le (by simp)
    rcases hown with ⟨rfl, rfl, rfl⟩ | ⟨g, cap, cur, rfl, rfl, h1', hB, h2, h3, h4, h5, h6, h7⟩
    · have hr := run_append_nil (P := P) w t ty e i z t1 t2 t4 ⟨xg, xo, none⟩ news.length xcap news (by simp [t3]) hnews hpos (by simp only [List.length_nil] at hsm; omega) (by rw [t5]; simp only [List.length_nil, Nat.zero_add] at hb; omega)
      have hg := grown 0 (by simpa using hpos) _ rfl _ rfl
      simp only [List.length_nil, Nat.zero_add, List.nil_append] at hg hr ⊢
      refine ⟨_, _, _, hr, ?_, Mb.drew_alloc _ e he, .inr rfl⟩
      simpa using hg
    · have hmw := Own.who (D := D) (B := B) (.inr ⟨g, cap, cur, rfl, rfl, h1', hB, h2, h3, h4, h5, h6, h7⟩ : Own D B N w e (.slice (some ⟨g, 0, none⟩) xs.length cap) (some g) xs) he
      by_cases hroom : xs.length + news.length ≤ cap
      · have hr := run_append_room (P := P) w t ty e i t1 t2 g xs.length cap cur h2 ⟨xg, xo, none⟩ news.length xcap news (by simp [t3]) hnews h1 hroom (by rw [t3, h5]; omega)
        have hmb := Mb.setRow (D := D) (B := B) (cs := (cur.toList.take (xs.length * i.size) ++ news ++ cur.toList.drop (xs.length * i.size + news.length)).toArray) h2 he hB h7
        refine ⟨_, _, _, hr, .inr ⟨g, cap, _, by simp, rfl, h1', hB, setRow_heap w g cur _ e _ h2, by simpa using hroom, h4, ?_, ?_, hmb.priv h7⟩, hmb, .inl rfl⟩
        · rw [t3, Nat.mul_one]
          simp only [List.size_toArray, List.length_append, List.length_take, List.length_drop, Array.length_toList]
          omega
        · rw [t3, Nat.mul_one, h6]
          rw [List.take_append_of_le_length (by simp)]
          exact List.take_of_length_le (by simp)
      · have holds : ∀ j u, xs[j]? = some u → w.cell? ((⟨g, 0, none⟩ : Addr).add j) = some u := by
          intro j u hu
          rw [Addr.add_eq]
          have hj := (List.getElem?_eq_some_iff.1 hu).1
          rw [← h6, List.getElem?_take, if_pos hj] at hu
          simp only [World.cell?, h2]
          simpa using hu
        have hr := run_append_grow (P := P) w t ty e i z t1 t2 t4 ⟨g, 0, none⟩ xs.length cap xs (by simp [t3]) holds ⟨xg, xo, none⟩ news.length xcap news (by simp [t3]) hnews (by omega) (by omega) (growslice_fits (by omega) (by rw [t5]; exact hb))
        have hg := grown cap (by omega) _ rfl _ rfl
        refine ⟨_, _, _, hr, ?_, (Mb.drew_alloc _ e he).weak hmw, .inr rfl⟩
        simpa using hg

/-- append. -/
theorem s_app {t e by_ N M : Nat} {ats : Array TypeId} {z : Value} {b : Option Nat} {xs news : List Value} {xv : Value} {s : Operand} (hF : Fr n F a) (hat : ats = #[t, t]) (ht : Sl P t e z by_) (hs : ev F s = some v) (hx : ev F x = some xv)
    (hown : Own D B N w e v b xs) (hrow : Row D B M w xv news) (h1 : ∀ u ∈ news, u.oneCell' = true) (hb : (xs.length + news.length) * by_ ≤ 140737488355328) (hm : xs.length + news.length ≤ maxLen) (hN : N ≤ w.heap.size) (he : e ≠ D.T) (hI : Inv D B w) (hd : Nat.blt d n.n = true)
    (k : ∀ v' b' w' a, Own D B N w' e v' b' (xs ++ news) → Mb D B b w w' → Inv D B w' → (b' = b ∨ b' = some w.heap.size) → Fr n ((d, v') :: F) a → WL P ops K rest a w') :
    WL P ops K (⟨some d, .call ⟨.builtin .append, #[s, x], ats⟩, T, pp, af, none⟩ :: rest) a w := by
  subst hat
  obtain ⟨v', b', w', hr, ho, hmb, hb'⟩ := run_app (ty := T) ht he hI hown hrow h1 hb hm hN
  refine s_run (w' := w') hF (fun ρ h => ?_) hd fun a hF => k v' b' w' a ho hmb (hmb.inv hI) hb' hF
  simp [execOp, resolve, invoke, builtin, h s _ hs, h x _ hx, hr]

@[simp] theorem ints_length (l : List Nat) : (ints l).length = l.length := by simp [ints]
theorem ints_snoc (l : List Nat) (n : Nat) : ints (l ++ [n]) = ints l ++ [.int .i64 (n : Int)] := by simp [ints]
theorem ints_at {l : List Nat} {i n : Nat} (h : l[i]? = some n) : (ints l)[i]? = some (.int .i64 (n : Int)) := by simp [ints, h]

/-- The element at i. -/
theorem Row.at {M len cap : Nat} {sa : Option Addr} {xs : List Value} {i : Nat} {u : Value} (h : Row D B M w (.slice sa len cap) xs) (hi : xs[i]? = some u) : len = xs.length ∧ ∃ g o, sa = some ⟨g, o, none⟩ ∧ w.cell? ⟨g, o + i, none⟩ = some u := by
  rcases h with ⟨_, _, h1, rfl⟩ | ⟨g, o, cap', h1, h0, h2, h3, h4, h5⟩
  · simp at hi
  · obtain ⟨rfl, rfl, rfl⟩ := Value.slice.inj h1
    exact ⟨rfl, g, o, rfl, h5 i u hi⟩
theorem Row.len {M len cap : Nat} {sa : Option Addr} {xs : List Value} (h : Row D B M w (.slice sa len cap) xs) : len = xs.length := by
  rcases h with ⟨_, _, h1, rfl⟩ | ⟨g, o, cap', h1, h0, h2, h3, h4, h5⟩
  · obtain ⟨rfl, rfl, rfl⟩ := Value.slice.inj h1; rfl
  · obtain ⟨rfl, rfl, rfl⟩ := Value.slice.inj h1; rfl
/-- An element, read in a world behind. -/
theorem Row.ldx {M len cap g o i : Nat} {w' : World} {xs : List Value} {u : Value} (h : Row D B M w (.slice (some ⟨g, o, none⟩) len cap) xs) (hs : Ext D B w w') (hi : xs[i]? = some u) : w'.cell? ⟨g, o + i, none⟩ = some u := by
  rcases h with ⟨_, _, h1, rfl⟩ | ⟨g', o', cap', h1, h0, h2, h3, h4, h5⟩
  · simp at hi
  · obtain ⟨h6, -, -⟩ := Value.slice.inj h1
    simp only [Option.some.injEq, Addr.mk.injEq, and_true] at h6
    obtain ⟨rfl, rfl⟩ := h6
    exact (cell_of_heap (hs.keep g h4 h3)).trans (h5 i u hi)
theorem Row.capd {M len cap : Nat} {sa : Option Addr} {xs : List Value} (h : Row D B M w (.slice sa len cap) xs) : len ≤ cap := by
  rcases h with ⟨_, _, h1, rfl⟩ | ⟨g, o, cap', h1, h0, h2, h3, h4, h5⟩
  · obtain ⟨rfl, rfl, rfl⟩ := Value.slice.inj h1; exact Nat.zero_le _
  · obtain ⟨rfl, rfl, rfl⟩ := Value.slice.inj h1; exact h0
/-- Where a slice's part from lo on begins. -/
def slA (sa : Option Addr) (lo cap : Nat) : Option Addr := if cap = lo then sa else sa.map (·.add lo)
/-- A part of a row. -/
theorem Row.part {M len cap lo hi : Nat} {sa : Option Addr} {xs : List Value} (h : Row D B M w (.slice sa len cap) xs) (h1 : lo ≤ hi) (h2 : hi ≤ xs.length) : Row D B M w (.slice (slA sa lo cap) (hi - lo) (cap - lo)) ((xs.take hi).drop lo) := by
  rcases h with ⟨a, c, e, rfl⟩ | ⟨g, o, cap', e, h0, h2', h3, h4, h5⟩
  · have : hi = 0 := by simpa using h2
    subst this
    exact .inl ⟨_, _, by rw [Nat.zero_sub], by simp⟩
  · obtain ⟨rfl, rfl, rfl⟩ := Value.slice.inj e
    by_cases hl : hi - lo = 0
    · exact .inl ⟨_, _, by rw [hl], by apply List.eq_nil_of_length_eq_zero; simp; omega⟩
    · refine .inr ⟨g, o + lo, cap - lo, ?_, ?_, h2', h3, h4, fun i u hu => ?_⟩
      · have : slA (some ⟨g, o, none⟩) lo cap = some ⟨g, o + lo, none⟩ := by
          unfold slA
          rw [if_neg (by omega)]
          simp [Addr.add_eq]
        rw [this]
        have hlen : ((xs.take hi).drop lo).length = hi - lo := by simp; omega
        rw [hlen]
      · simp; omega
      · rw [List.getElem?_drop, List.getElem?_take] at hu
        split at hu
        · have := h5 (lo + i) u hu
          rw [Nat.add_assoc]; exact this
        · cases hu
theorem Row.to {M len cap hi : Nat} {sa : Option Addr} {xs : List Value} (h : Row D B M w (.slice sa len cap) xs) (h2 : hi ≤ xs.length) : Row D B M w (.slice sa hi cap) (xs.take hi) := by
  have := h.part (lo := 0) (Nat.zero_le _) h2
  have e : slA sa 0 cap = sa := by
    unfold slA
    split
    · rfl
    · cases sa with
      | none => rfl
      | some a => simp [Addr.add]
  rw [e] at this
  simpa using this
theorem v_slHi {t e by_ len cap h : Nat} {z : Value} {sa : Option Addr} {k : IntKind} (ht : Sl P t e z by_) (hx : ev F x = some (.slice sa len cap)) {y : Operand} (hy : ev F y = some (.int k (h : Int))) (h1 : h ≤ cap) (_ : 0 ≤ cap) :
    Val P (.slice t x none (some y) none) T F w (.slice sa h cap) :=
  fun ρ hρ d p af g => by
    obtain ⟨h2, _, i, h3, h4, _⟩ := ht
    have e1 : (if cap = 0 then sa else sa.map (·.add 0)) = sa := by
      split
      · rfl
      · cases sa with
        | none => rfl
        | some a => simp [Addr.add]
    simp [execOp, hρ x _ hx, hρ y _ hy, Instr.sliceAt, Instr.slice, Instr.sliceBounds, Instr.sliceBound, asIntOf, underlying, h2, sizeOf, typeInfo, h3, h4, program, Sem.run, h1]
    first | done | exact e1 | (simpa using e1) | (split <;> rename_i hh <;> first | rfl | (cases sa <;> simp_all [Addr.add]))
theorem v_slLo {t e by_ len cap l : Nat} {z : Value} {sa : Option Addr} {k : IntKind} (ht : Sl P t e z by_) (hx : ev F x = some (.slice sa len cap)) {y : Operand} (hy : ev F y = some (.int k (l : Int))) (h1 : l ≤ len) (h0 : len ≤ cap) :
    Val P (.slice t x (some y) none none) T F w (.slice (slA sa l cap) (len - l) (cap - l)) :=
  fun ρ hρ d p af g => by
    obtain ⟨h2, _, i, h3, h4, _⟩ := ht
    simp [execOp, hρ x _ hx, hρ y _ hy, Instr.sliceAt, Instr.slice, Instr.sliceBounds, Instr.sliceBound, asIntOf, underlying, h2, sizeOf, typeInfo, h3, h4, program, Sem.run, h1, slA]
theorem v_slLoHi {t e by_ len cap l h : Nat} {z : Value} {sa : Option Addr} {k k' : IntKind} (ht : Sl P t e z by_) (hx : ev F x = some (.slice sa len cap)) {y y' : Operand} (hy : ev F y = some (.int k (l : Int))) (hy' : ev F y' = some (.int k' (h : Int))) (h1 : l ≤ h) (h0 : h ≤ cap) :
    Val P (.slice t x (some y) (some y') none) T F w (.slice (slA sa l cap) (h - l) (cap - l)) :=
  fun ρ hρ d p af g => by
    obtain ⟨h2, _, i, h3, h4, _⟩ := ht
    simp [execOp, hρ x _ hx, hρ y _ hy, hρ y' _ hy', Instr.sliceAt, Instr.slice, Instr.sliceBounds, Instr.sliceBound, asIntOf, underlying, h2, sizeOf, typeInfo, h3, h4, program, Sem.run, h0, h1, slA]
theorem v_maxI {k : IntKind} {X Y : Int} {ats : Array TypeId} {n : Nat} {y : Operand} (hat : ats.size = n) (hx : ev F x = some (.int k X)) (hy : ev F y = some (.int k Y)) : Val P (.call ⟨.builtin .max, #[x, y], ats⟩) T F w (.int k (max X Y)) :=
  fun ρ h d p af g => by
    have e : (if Y > X then Y else X) = max X Y := by split <;> omega
    simp [execOp, resolve, invoke, builtin, Builtin.max_, Builtin.max2, h x _ hx, h y _ hy]
    first | done | exact e | omega
theorem v_minI {k : IntKind} {X Y : Int} {ats : Array TypeId} {n : Nat} {y : Operand} (hat : ats.size = n) (hx : ev F x = some (.int k X)) (hy : ev F y = some (.int k Y)) : Val P (.call ⟨.builtin .min, #[x, y], ats⟩) T F w (.int k (min X Y)) :=
  fun ρ h d p af g => by
    have e : (if Y < X then Y else X) = min X Y := by split <;> omega
    simp [execOp, resolve, invoke, builtin, Builtin.min_, Builtin.min2, h x _ hx, h y _ hy]
    first | done | exact e | omega
theorem Row.sl {M : Nat} {v : Value} {xs : List Value} (h : Row D B M w v xs) : ∃ sa sc, v = .slice sa xs.length sc := by
  obtain ⟨a, c, h1, _⟩ := h.shape
  exact ⟨a, c, h1⟩

theorem ints_one (l : List Nat) : ∀ u ∈ ints l, u.oneCell' = true := by
  intro u hu
  obtain ⟨_, _, rfl⟩ := List.mem_map.1 hu
  rfl
theorem ints_cells (l : List Nat) : ∀ u ∈ ints l, u.cells = #[u] := by
  intro u hu
  obtain ⟨_, _, rfl⟩ := List.mem_map.1 hu
  rfl
end
end Go.Gam
