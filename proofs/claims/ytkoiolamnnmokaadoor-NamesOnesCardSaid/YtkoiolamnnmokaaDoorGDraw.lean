/- Regions whose order is open. No program in sight. -/
import Derived.Test.YtkoiolamnnmokaaDoorGMem
set_option linter.unusedVariables false
set_option linter.unusedSimpArgs false
namespace Go.Gam
open Go

/-- What is still to come of a region whose order is open; what is read may be read at once, for nobody turns it. -/
def WA (P : Program) (D : FD) (B : Nat) (ops : Array Oper) (K : Kont) (fuel : Nat) (L : Array Bool) (a : Act) (w : World) : Prop :=
  wpAnyH P .any ops (Qof K [] (fun _ _ => False)) (fun w' => Ext D B w w') fuel L a w

section
variable {P : Program} {D : FD} {B : Nat} {N : Kont} {X : List (Nat × Kont)} {R : Kont} {a : Act} {w : World} {ops : Array Oper} {K : Kont} {fuel : Nat} {L : Array Bool} {n : NN} {F : Fs} {op : Op} {T : TypeId} {pp : String} {af : Array Edge} {v : Value} {d : Nat}

theorem ext_drew (D : FD) (B : Nat) (w : World) : Ext D B w { w with drawn := w.drawn + 1 } :=
  ⟨rfl, rfl, rfl, Nat.le_refl _, fun _ _ _ => rfl, fun _ _ _ h => h, fun _ _ h => h, fun _ _ _ _ _ h => h⟩

theorem St.drew {D : FD} {B : Nat} {w : World} (hI : Inv D B w) : St D B w { w with drawn := w.drawn + 1 } := ⟨ext_drew D B w, hI⟩

theorem W_draw {id m : Nat} (hsz : ops.size = m) (hm : P.follows .mixedOrders = true) (hI : Inv D B w)
    (h : ∀ K : Kont, (∀ a w, N a w → K a w) → ∀ w', St D B w w' → w'.heap = w.heap → WA P D B ops K m (Array.replicate m false) a w') : W P (.region id ops true) N X R a w := by
  subst hsz
  refine wp_mono (wp_region_held hm (h N (fun _ _ h => h) { w with drawn := w.drawn + 1 } ⟨ext_drew D B w, hI⟩ rfl)) fun e a w hq => ?_
  cases e with
  | exit i => simp [Qof, lookX] at hq
  | normal => exact hq
  | ret => exact hq.elim
  | goto l => exact hq.elim
  | panic c => exact hq.elim
  | outgrown => exact hq.elim

theorem W_sd {id m : Nat} {y : Code} (hsz : ops.size = m) (hm : P.follows .mixedOrders = true) (hI : Inv D B w)
    (h : ∀ K : Kont, (∀ a w, W P y N X R a w → K a w) → ∀ w', St D B w w' → w'.heap = w.heap → WA P D B ops K m (Array.replicate m false) a w') : W P (.seq (.region id ops true) y) N X R a w :=
  W_seq (W_draw hsz hm hI h)

/-- Number i may come next, and nobody who could come before it touches what it touches. -/
def okv (ops : Array Oper) (L : Array Bool) (i : Nat) : Bool := Region.noSelect ops && Region.free .any ops L i && (Region.ready .any ops L).contains i

theorem a_take {i : Nat} {o : Oper} (hi : nth ops.toList i = some o) (hk : okv ops L i = true) (hy : YieldsIf P ops (fun w' => Ext D B w w') o v a)
    (k : WA P D B ops K fuel (L.setIfInBounds i true) (a.put o.dst v) w) : WA P D B ops K (fuel + 1) L a w := by
  simp only [okv, Bool.and_eq_true] at hk
  rw [nth_eq, Array.getElem?_toList] at hi
  exact wpAnyH_take hi hk.1.1 hk.1.2 hk.2 (fun _ _ _ h => h) hy (Ext.refl _ _ _) k

theorem a_v {i : Nat} (hi : nth ops.toList i = some ⟨some d, op, T, pp, af, none⟩) (hk : okv ops L i = true) (hF : Fr n F a) (hv : ∀ w', Ext D B w w' → Val P op T F w' v) (hd : Nat.blt d n.n = true)
    (k : ∀ a, Fr n ((d, v) :: F) a → WA P D B ops K fuel (L.setIfInBounds i true) a w) : WA P D B ops K (fuel + 1) L a w :=
  a_take hi hk (.inl ⟨by simp [Region.wanted], fun w' hw => hv w' hw a.eval hF.reads _ _ _ _⟩) (k _ (hF.put hd))

/-- Guarded, and carried out. -/
theorem a_vg {i j : Nat} {b : Bool} (hi : nth ops.toList i = some ⟨some d, op, T, pp, af, some (j, b)⟩) (hk : okv ops L i = true) (hF : Fr n F a) (hy : yl ops.toList F j = some b) (hv : ∀ w', Ext D B w w' → Val P op T F w' v) (hd : Nat.blt d n.n = true)
    (k : ∀ a, Fr n ((d, v) :: F) a → WA P D B ops K fuel (L.setIfInBounds i true) a w) : WA P D B ops K (fuel + 1) L a w :=
  a_take hi hk (.inl ⟨by simp [Region.wanted, yl_ok hF hy], fun w' hw => hv w' hw a.eval hF.reads _ _ _ _⟩) (k _ (hF.put hd))

/-- Guarded, and passed over. -/
theorem a_vn {i j : Nat} {b b' : Bool} (hi : nth ops.toList i = some ⟨some d, op, T, pp, af, some (j, b)⟩) (hk : okv ops L i = true) (hF : Fr n F a) (hy : yl ops.toList F j = some b') (hb : (b' == b) = false) (hd : Nat.blt d n.n = true)
    (k : ∀ a, Fr n ((d, undef) :: F) a → WA P D B ops K fuel (L.setIfInBounds i true) a w) : WA P D B ops K (fuel + 1) L a w := by
  have hw : Region.wanted ⟨some d, op, T, pp, af, some (j, b)⟩ (yielded ops a.tmps) = false := by
    simp only [Region.wanted, yl_ok hF hy]
    cases h : (some b' == some b) with
    | false => rfl
    | true => exact absurd (show (b' == b) = true by simpa using h) (by rw [hb]; simp)
  exact a_take hi hk (.inr ⟨hw, rfl⟩) (k _ (hF.put hd))

/-- Guarded by what was passed over itself. -/
theorem a_vu {i j : Nat} {b : Bool} (hi : nth ops.toList i = some ⟨some d, op, T, pp, af, some (j, b)⟩) (hk : okv ops L i = true) (hF : Fr n F a) (hy : yu ops.toList F j = true) (hd : Nat.blt d n.n = true)
    (k : ∀ a, Fr n ((d, undef) :: F) a → WA P D B ops K fuel (L.setIfInBounds i true) a w) : WA P D B ops K (fuel + 1) L a w :=
  a_take hi hk (.inr ⟨by simp [Region.wanted, yu_ok hF hy], rfl⟩) (k _ (hF.put hd))

/-- A Bool: both ways. -/
theorem a_b {i : Nat} {b : Bool} (hi : nth ops.toList i = some ⟨some d, op, T, pp, af, none⟩) (hk : okv ops L i = true) (hF : Fr n F a) (hv : ∀ w', Ext D B w w' → Val P op T F w' (.bool b)) (hd : Nat.blt d n.n = true)
    (kt : b = true → ∀ a, Fr n ((d, .bool true) :: F) a → WA P D B ops K fuel (L.setIfInBounds i true) a w) (kf : b = false → ∀ a, Fr n ((d, .bool false) :: F) a → WA P D B ops K fuel (L.setIfInBounds i true) a w) : WA P D B ops K (fuel + 1) L a w := by
  cases b with
  | true => exact a_v hi hk hF hv hd (kt rfl)
  | false => exact a_v hi hk hF hv hd (kf rfl)

/-- A guarded Bool that is carried out: both ways. -/
theorem a_bg {i j : Nat} {b c : Bool} (hi : nth ops.toList i = some ⟨some d, op, T, pp, af, some (j, c)⟩) (hk : okv ops L i = true) (hF : Fr n F a) (hy : yl ops.toList F j = some c) (hv : ∀ w', Ext D B w w' → Val P op T F w' (.bool b)) (hd : Nat.blt d n.n = true)
    (kt : b = true → ∀ a, Fr n ((d, .bool true) :: F) a → WA P D B ops K fuel (L.setIfInBounds i true) a w) (kf : b = false → ∀ a, Fr n ((d, .bool false) :: F) a → WA P D B ops K fuel (L.setIfInBounds i true) a w) : WA P D B ops K (fuel + 1) L a w := by
  cases b with
  | true => exact a_vg hi hk hF hy hv hd (kt rfl)
  | false => exact a_vg hi hk hF hy hv hd (kf rfl)

theorem upon_congr {o : Oper} {next : Act → World → Prop} {Q Q' : Exit → Act → World → Prop} (hp : ∀ c a w, Q (.panic c) a w → Q' (.panic c) a w) (hl : LetsOut Q → LetsOut Q') {r : Result Next} (h : o.upon P a next Q r) : o.upon P a next Q' r := by
  cases r with
  | ok nx w' =>
    cases nx <;> simp only [Oper.upon] at h ⊢ <;> first
      | exact h
      | exact Calls.mono h (fun e w'' he => by cases e <;> first | exact he | exact hp _ _ _ he | exact hl he)
  | halt x w' => cases x <;> simp only [Oper.upon] at h ⊢ <;> first | exact hp _ _ _ h | exact h

/-- Number i is the only one that may come: it comes. -/
theorem a_e {i : Nat} {o : Oper} (hi : nth ops.toList i = some o) (hr : Region.ready .any ops L = [i]) (h : WL P ops (fun a' w' => Ext D B w w' ∧ WA P D B ops K fuel (L.setIfInBounds i true) a' w') [o] a w) : WA P D B ops K (fuel + 1) L a w := by
  rw [nth_eq, Array.getElem?_toList] at hi
  have strong : ∀ w1, Ext D B w w1 → ∀ (m : Nat) (L : Array Bool) (a : Act) (w2 : World), wpAnyH P .any ops (Qof K [] (fun _ _ => False)) (fun w' => Ext D B w1 w') m L a w2 →
      wpAnyH P .any ops (Qof K [] (fun _ _ => False)) (fun w' => Ext D B w w') m L a w2 := by
    intro w1 h1 m
    induction m with
    | zero => intro L a w2 h; exact h
    | succ m ih => intro L a w2 h; exact ⟨h.1, fun i hi => wpOp_mono (fun a' w' h' => ⟨h1.trans h'.1, ih _ _ _ h'.2⟩) (h.2 i hi)⟩
  refine wpAnyH_all hr (by simp) ?_
  intro j hj
  obtain rfl : j = i := by simpa using hj
  unfold wpOp
  simp only [hi]
  have hno : ∀ K' : Kont, ¬ LetsOut (Qof K' [] (fun _ _ => False)) := fun K' ⟨a, w, h⟩ => h
  unfold WL wpList at h
  split
  · rename_i hw
    rw [if_pos hw] at h
    rcases h with h | ⟨_, h⟩
    · refine .inl ?_
      refine Oper.wp_mono (K := wpList P ops (Qof (fun a' w' => Ext D B w w' ∧ WA P D B ops K fuel (L.setIfInBounds j true) a' w') [] (fun _ _ => False)) []) (fun a' w' hk => ?_) (upon_congr (fun _ _ _ h => h) (fun h => absurd h (hno _)) h)
      obtain ⟨h1, h2⟩ : Ext D B w w' ∧ WA P D B ops K fuel (L.setIfInBounds j true) a' w' := hk
      exact ⟨h1, strong w' h1 fuel _ a' w' h2⟩
    · exact absurd h (hno _)
  · rename_i hw
    rw [if_neg hw] at h
    obtain ⟨h1, h2⟩ : Ext D B w w ∧ WA P D B ops K fuel (L.setIfInBounds j true) (a.put o.dst undef) w := h
    exact ⟨h1, h2⟩

/-- All have come. -/
theorem a_done (hr : Region.ready .any ops L = []) (h : K a w) : WA P D B ops K fuel L a w := wpAnyH_done hr h fuel
end
end Go.Gam
