/- Arguments opened: texts, records of three numbers. No program in sight. -/
import Derived.Test.YtkoiolamnnmokaaDoorGOpen
import Derived.ChangeMaps5
set_option linter.unusedVariables false
set_option linter.unusedSimpArgs false
namespace Go.Gam
open Go Go.ChangeShapes Go.WideShapes Go.ChangeAt Go.RowKit

section
variable {H : Type} {enc : TypeId × Value → H} {P : Program} {w : World} {base : Nat} {held : Bool} {D : FD}
theorem open_str {r : Reach} {b0 : Nat} {t : TypeId} {v : Value} {d : DataW H} {ps : List MemPlace} (ht : P.underlying t = some .string) (hval : Value.okWide P w r b0 t v) (hd : DataW.Trod enc P w base (fun _ => true) held t v d ps) :
    ∃ s : ByteArray, v = .string s ∧ s.size ≤ maxLen := by
  obtain ⟨s, h1, -, -, h2⟩ := Go.ChangeMaps.open_string ht hval hd
  exact ⟨s, h1, h2⟩
theorem open_p3 {r : Reach} {b0 : Nat} {t : TypeId} {f0 f1 f2 : Field} {v : Value} {d : DataW H} {ps : List MemPlace} (ht : P.underlying t = some (.struct #[f0, f1, f2])) (h0 : P.underlying f0.type = some (.int .i64)) (h1 : P.underlying f1.type = some (.int .i64)) (h2 : P.underlying f2.type = some (.int .i64))
    (ho : (f0.offset, f1.offset, f2.offset) = (0, 1, 2)) (hc : (P.cellsOf f0.type, P.cellsOf f1.type, P.cellsOf f2.type) = (1, 1, 1)) (hn : P.cellsOf t = 3) (hval : Value.okWide P w r b0 t v) (hd : DataW.Trod enc P w base (fun _ => true) held t v d ps) :
    ∃ a b c : Int, v = .agg #[.int .i64 a, .int .i64 b, .int .i64 c] ∧ (Lit.int .i64 a).wf = true ∧ (Lit.int .i64 b).wf = true ∧ (Lit.int .i64 c).wf = true := by
  obtain ⟨cs, rfl, hsz, _⟩ : ∃ cs, v = .agg cs ∧ cs.size = P.cellsOf t ∧ Row.okWide P w r b0 t cs := by
    simpa [Value.okWide, ht] using hval
  obtain ⟨fuel, hf⟩ := hd
  obtain ⟨ys, m, _, _, _, hl, hel⟩ := DataW.trod_struct ht hf
  simp only [Prod.mk.injEq] at ho hc
  obtain ⟨l⟩ := cs
  have hsz' : l.length = 3 := by rw [hn] at hsz; simpa using hsz
  match l, hsz', ys, hl with
  | [u, v, x], _, [y0, y1, y2], _ =>
    have e0 := hel 0 f0 rfl
    have e1 := hel 1 f1 rfl
    have e2 := hel 2 f2 rfl
    rw [ho.1, hc.1] at e0
    rw [ho.2.1, hc.2.1] at e1
    rw [ho.2.2, hc.2.2] at e2
    obtain ⟨a, ea, _, wa⟩ := DataW.trod_int h0 e0
    obtain ⟨b, eb, _, wb⟩ := DataW.trod_int h1 e1
    obtain ⟨c, ec, _, wc⟩ := DataW.trod_int h2 e2
    have ea2 : u = .int .i64 a := List.singleton_inj.1 (show [u] = [Value.int .i64 a] from ea)
    have eb2 : v = .int .i64 b := List.singleton_inj.1 (show [v] = [Value.int .i64 b] from eb)
    have ec2 : x = .int .i64 c := List.singleton_inj.1 (show [x] = [Value.int .i64 c] from ec)
    clear ea eb ec e0 e1 e2 hel
    subst ea2; subst eb2; subst ec2
    exact ⟨a, b, c, rfl, wa, wb, wc⟩
end
end Go.Gam
