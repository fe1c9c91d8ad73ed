/- From a walk's end to a row's post: the arguments read as they read, the result is true; arguments opened. No program in sight. -/
import Derived.Test.YtkoiolamnnmokaaDoorGWorld
import Derived.WalkKit
import Derived.ProofKit
import Derived.OpenShut
import Derived.Carry
import Derived.ChangeSlices
set_option linter.unusedVariables false
set_option linter.unusedSimpArgs false
namespace Go.Gam
open Go Go.ChangeShapes Go.WideShapes Go.ChangeAt Go.RowKit

section
variable {H : Type} {enc : TypeId × Value → H} {P : Program}

theorem trodAll_keep (hl : laidOutB P = true) {W W' : World} (hb : Below W.heap.size W W') :
    ∀ {ts : List TypeId} {vs : List Value} {ds : List (DataW H)} {p : List MemPlace}, (ts.all fun t => P.readableRec t && decide (t < P.types.size)) = true →
      DataW.TrodAll enc P W 0 (fun _ => true) true ts vs ds p → (∀ x ∈ p, x.block < W.heap.size) → DataW.TrodAll enc P W' 0 (fun b => decide (b < W.heap.size)) true ts vs ds p
  | [], [], [], p, _, h, _ => h
  | t :: ts, v :: vs, d :: ds, p, hr, h, hp => by
    obtain ⟨p1, p2, h1, h2, rfl⟩ := h
    simp only [List.all_cons, Bool.and_eq_true, decide_eq_true_eq] at hr
    exact ⟨p1, p2, Below.trod hl hr.1.1 hr.1.2 h1 hb (fun x hx => hp x (by simp [hx])), trodAll_keep hl hb (by simpa using hr.2) h2 (fun x hx => hp x (by simp [hx])), rfl⟩
  | [], _ :: _, _, _, _, h, _ => h.elim
  | [], [], _ :: _, _, _, h, _ => h.elim
  | _ :: _, [], _, _, _, h, _ => h.elim
  | _ :: _, _ :: _, [], _, _, h, _ => h.elim

/-- The end of every law: true comes out, below nothing has turned. -/
theorem post_true (hl : laidOutB P = true) {f : Func} {s : ChangeSpec} {apart : Bool} {W W' : World} {args : Array Value} {ds gs : List (DataW H)} {p : List MemPlace} {tb : TypeId}
    (hW : DataW.Whole enc P f.params.toList s.vars apart W args.toList ds gs p) (hv : s.vars = []) (hr : f.resultTypes = #[tb]) (ht : P.underlying tb = some .bool)
    (hp : (f.params.toList.all fun t => P.readableRec t && decide (t < P.types.size)) = true)
    (hs : s.fn H (ds ++ gs) = ⟨[.lit (.bool true)], ds, []⟩)
    (hb : Below W.heap.size W W') : s.post enc P f apart true false false W args (.bool true) W' := by
  have hlt : ∀ x ∈ p, x.block < W.heap.size := fun x hx => by simpa using hW.lt x hx
  have hW2 := hW
  obtain ⟨p1, p2, hA, hV, rfl, _, _⟩ := hW2
  rw [hv] at hV
  cases gs with
  | cons g gs => exact hV.elim
  | nil =>
    have : p2 = [] := hV
    subst this
    rw [List.append_nil] at hW hlt
    refine ⟨ds, [], p1, [], p1, [], hW, ?_, ?_, ?_, ?_, fun h => by cases h⟩
    · rw [hs, hr]; exact trodAll_mk1 (shut_bool ht true)
    · rw [hs]; exact trodAll_keep hl hb hp hA hlt
    · rw [hs, hv]; exact rfl
    · exact hb.frame _
end

section
variable {H : Type} {enc : TypeId × Value → H} {P : Program} {w : World} {base : Nat} {spare : Nat → Bool} {held : Bool}

theorem nat_of {n : Int} (h : 0 ≤ n) : ∃ m : Nat, n = (m : Int) := ⟨n.toNat, by omega⟩

theorem wf_u8 {n : Int} (h : (Lit.int .u8 n).wf = true) : ∃ m : Nat, n = (m : Int) ∧ m < 256 := by
  obtain ⟨h1, h2⟩ := bounds_u8 h
  exact ⟨n.toNat, by omega, by omega⟩
theorem wf_u16 {n : Int} (h : (Lit.int .u16 n).wf = true) : ∃ m : Nat, n = (m : Int) ∧ m < 65536 := by
  obtain ⟨h1, h2⟩ := bounds_u16 h
  exact ⟨n.toNat, by omega, by omega⟩
theorem wf_u32 {n : Int} (h : (Lit.int .u32 n).wf = true) : ∃ m : Nat, n = (m : Int) ∧ m < 4294967296 := by
  obtain ⟨h1, h2⟩ := bounds_u32 h
  exact ⟨n.toNat, by omega, by omega⟩
theorem wf_u64 {n : Int} (h : (Lit.int .u64 n).wf = true) : ∃ m : Nat, n = (m : Int) ∧ m < 18446744073709551616 := by
  obtain ⟨h1, h2⟩ := bounds_u64 h
  exact ⟨n.toNat, by omega, by omega⟩

theorem bd64 {n : Int} (h : (Lit.int .i64 n).wf = true) : -9223372036854775808 ≤ n ∧ n < 9223372036854775808 := by
  obtain ⟨h1, h2⟩ := bounds_i64 h
  exact ⟨h1, by omega⟩

/-- An array of integers. -/
theorem open_arr {r : Reach} {b0 : Nat} {t e : TypeId} {k : IntKind} {n : Nat} {v : Value} {d : DataW H} {ps : List MemPlace} (ht : P.underlying t = some (.array n e)) (he : P.underlying e = some (.int k)) (hc : P.cellsOf e = 1) (hn : P.cellsOf t = n)
    (hval : Value.okWide P w r b0 t v) (hd : DataW.Trod enc P w base spare held t v d ps) :
    ∃ xs : List Int, v = .agg (xs.map (Value.int k)).toArray ∧ xs.length = n ∧ ∀ x ∈ xs, (Lit.int k x).wf = true := by
  obtain ⟨cs, rfl, hsz, _⟩ : ∃ cs, v = .agg cs ∧ cs.size = P.cellsOf t ∧ Row.okWide P w r b0 t cs := by
    simpa [Value.okWide, ht] using hval
  obtain ⟨fuel, hf⟩ := hd
  obtain ⟨ys, m, _, _, _, hl, hel⟩ := DataW.trod_array ht hf
  obtain ⟨l⟩ := cs
  have hsz' : l.length = n := by rw [hn] at hsz; simpa using hsz
  have key : ∀ i (h : i < l.length), ∃ x, l[i] = .int k x ∧ (Lit.int k x).wf = true := by
    intro i hi
    have hy := hel i (by omega)
    have hi' : i < ys.length := by omega
    rw [List.getElem?_eq_getElem hi'] at hy
    obtain ⟨x, e1, _, w1⟩ := DataW.trod_int he hy
    refine ⟨x, ?_, w1⟩
    have e2 : ((Value.agg l.toArray).cells.toList.drop (i * P.cellsOf e)).take (P.cellsOf e) = [l[i]] := by
      show (l.drop (i * P.cellsOf e)).take (P.cellsOf e) = [l[i]]
      rw [hc, Nat.mul_one, List.drop_eq_getElem_cons hi]
      rfl
    rw [e2] at e1
    simpa using e1
  refine ⟨l.map fun v => match v with | .int _ x => x | _ => 0, ?_, by simpa using hsz', ?_⟩
  · congr 1
    congr 1
    apply List.ext_getElem
    · simp
    · intro i h1 h2
      obtain ⟨x, hx, _⟩ := key i h1
      simp [hx]
  · intro x hx
    obtain ⟨v, hv, rfl⟩ := List.mem_map.1 hx
    obtain ⟨i, hi, rfl⟩ := List.getElem_of_mem hv
    obtain ⟨y, hy, hw⟩ := key i hi
    simp [hy, hw]

theorem two {xs : List Int} {Q : Int → Prop} (h : xs.length = 2) (hq : ∀ x ∈ xs, Q x) : ∃ a b, xs = [a, b] ∧ Q a ∧ Q b := by
  match xs, h with | [a, b], _ => exact ⟨a, b, rfl, hq a (by simp), hq b (by simp)⟩
theorem three {xs : List Int} {Q : Int → Prop} (h : xs.length = 3) (hq : ∀ x ∈ xs, Q x) : ∃ a b c, xs = [a, b, c] ∧ Q a ∧ Q b ∧ Q c := by
  match xs, h with | [a, b, c], _ => exact ⟨a, b, c, rfl, hq a (by simp), hq b (by simp), hq c (by simp)⟩
theorem four {xs : List Int} {Q : Int → Prop} (h : xs.length = 4) (hq : ∀ x ∈ xs, Q x) : ∃ a b c d, xs = [a, b, c, d] ∧ Q a ∧ Q b ∧ Q c ∧ Q d := by
  match xs, h with | [a, b, c, d], _ => exact ⟨a, b, c, d, rfl, hq a (by simp), hq b (by simp), hq c (by simp), hq d (by simp)⟩
end

/-- The world of a call, nothing of whose fields is ours. -/
theorem inv_call (D : FD) (W : World) : Inv D W.heap.size W :=
  ⟨Nat.le_refl _, fun k hk c fr h => by have := heap_lt h; omega⟩

theorem St.below {D : FD} {W W' : World} (h : St D W.heap.size W W') : Below W.heap.size W W' := h.ext.below (Nat.le_refl _)

end Go.Gam
