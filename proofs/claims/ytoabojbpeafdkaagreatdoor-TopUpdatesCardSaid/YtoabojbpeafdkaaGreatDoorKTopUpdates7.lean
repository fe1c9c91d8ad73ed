/- Texts of the claim TopUpdates (part 7), put together in the order of their imports. -/
import Derived.Test.YtoabojbpeafdkaaGreatDoorKTopUpdates6
import Derived.Laws.Tables
import Derived.Laws.IdiomStrings
import Derived.Deep.AppendSrc
set_option linter.all false
set_option maxRecDepth 100000
set_option maxHeartbeats 1000000
/- The interpreter's operations that leave the heap as it is, the rest: texts, nothing, conversions, parts, maps. No program in sight. -/
namespace Go.Iv
open Go Go.Gam
theorem lbeq_eq : ∀ a b : List Nat, lbeq a b = decide (a = b)
 | [], [] => rfl
 | [], b :: r => rfl
 | a :: l, [] => rfl
 | a :: l, b :: r => by
  simp only [lbeq, lbeq_eq l r]
  cases h : Nat.beq a b with
  | true => have := Nat.eq_of_beq_eq_true h; subst this; simp
  | false => have : a ≠ b := fun e => by subst e; simp at h
             simp [this]
theorem toNat_inj : ∀ {s t : List UInt8}, s.map UInt8.toNat = t.map UInt8.toNat → s = t
 | [], [], _ => rfl
 | [], b :: r, h => by simp at h
 | a :: l, [], h => by simp at h
 | a :: l, b :: r, h => by
  simp only [List.map_cons, List.cons.injEq] at h
  rw [UInt8.toNat_inj.1 h.1, toNat_inj h.2]
theorem lbeq_str (s t : List UInt8) : lbeq (s.map UInt8.toNat) (t.map UInt8.toNat) = decide (s = t) := by
 rw [lbeq_eq, decide_eq_decide]
 exact ⟨toNat_inj, fun h => by rw [h]⟩
theorem llt_str : ∀ s t : List UInt8, llt (s.map UInt8.toNat) (t.map UInt8.toNat) = Op.bytesLess s t
 | [], [] => rfl
 | [], b :: r => rfl
 | a :: l, [] => rfl
 | a :: l, b :: r => by
  simp only [List.map_cons, llt, Op.bytesLess, llt_str l r]
  have e1 : Nat.blt a.toNat b.toNat = decide (a < b) := by
   rw [Bool.eq_iff_iff, Nat.blt_eq, decide_eq_true_iff]; exact UInt8.lt_iff_toNat_lt.symm
  have e2 : Nat.beq a.toNat b.toNat = (a == b) := by
   rw [Bool.eq_iff_iff, Nat.beq_eq, beq_iff_eq]; exact UInt8.toNat_inj
  rw [e1, e2]
  cases decide (a < b) <;> cases a == b <;> simp
theorem str_toList (s : List UInt8) : (str s).toList = s := by rw [ByteArray.toList_eq]; rfl
theorem v_eqlP3i {P : Program} {F : Fs} {T t s : TypeId} {w : World} {x y : Operand} {f0 f1 f2 : Field} {a b c a' b' c' : Int}
  (hu : P.underlying t = some (.struct #[f0, f1, f2])) (hp : P.stoodInHeld t = false) (hm : P.eqGuardType P.depth t = false) (h0 : P.underlying f0.type = some (.int .i64)) (h1 : P.underlying f1.type = some (.int .i64)) (h2 : P.underlying f2.type = some (.int .i64))
  (hn : f0.name ≠ "_" ∧ f1.name ≠ "_" ∧ f2.name ≠ "_") (o0 : f0.offset = 0) (o1 : f1.offset = 1) (o2 : f2.offset = 2) (hx : ev F x = some (.agg #[.int .i64 a, .int .i64 b, .int .i64 c])) (hy : ev F y = some (.agg #[.int .i64 a', .int .i64 b', .int .i64 c'])) :
  Val P (.binOp .eql t x y s) T F w (.bool (decide (a = a' ∧ b = b' ∧ c = c'))) :=
 fun ρ h d p af g => by
  have hfo : P.fieldsOf t = #[f0, f1, f2] := by unfold Program.fieldsOf; rw [hu]
  have hpart : ∀ (e : TypeId) (off : Nat) (xs : Array Value) (v : Value), P.underlying e = some (.int .i64) → xs[off]? = some v → (part e xs off).run P w = .ok v w := fun e off xs v he hv => by
   simp [part, run_isAgg (⟨_, he, by simp, by simp⟩ : Scalar P e), hv]
  have e := run_equalIn_struct (P := P) w 9999 t #[.int .i64 a, .int .i64 b, .int .i64 c] #[.int .i64 a', .int .i64 b', .int .i64 c'] (by rw [hfo]; exact hu) hp
  rw [hfo] at e
  have e2 : (Op.eqFields 9999 #[.int .i64 a, .int .i64 b, .int .i64 c] #[.int .i64 a', .int .i64 b', .int .i64 c'] #[f0, f1, f2].toList).run P w = .ok (decide (a = a' ∧ b = b' ∧ c = c')) w := by
   have p0 : ∀ x0 x1 x2 : Int, (part f0.type #[.int .i64 x0, .int .i64 x1, .int .i64 x2] 0).run P w = .ok (.int .i64 x0) w := fun x0 x1 x2 => hpart _ _ _ _ h0 rfl
   have p1 : ∀ x0 x1 x2 : Int, (part f1.type #[.int .i64 x0, .int .i64 x1, .int .i64 x2] 1).run P w = .ok (.int .i64 x1) w := fun x0 x1 x2 => hpart _ _ _ _ h1 rfl
   have p2 : ∀ x0 x1 x2 : Int, (part f2.type #[.int .i64 x0, .int .i64 x1, .int .i64 x2] 2).run P w = .ok (.int .i64 x2) w := fun x0 x1 x2 => hpart _ _ _ _ h2 rfl
   have q0 : ∀ u v : Int, (Op.equalIn 9999 f0.type (.int .i64 u) (.int .i64 v)).run P w = .ok (u == v) w := fun u v => run_equalIn_int w 9998 _ .i64 .i64 u v h0
   have q1 : ∀ u v : Int, (Op.equalIn 9999 f1.type (.int .i64 u) (.int .i64 v)).run P w = .ok (u == v) w := fun u v => run_equalIn_int w 9998 _ .i64 .i64 u v h1
   have q2 : ∀ u v : Int, (Op.equalIn 9999 f2.type (.int .i64 u) (.int .i64 v)).run P w = .ok (u == v) w := fun u v => run_equalIn_int w 9998 _ .i64 .i64 u v h2
   simp only [List.toList_toArray, Op.eqFields, hn.1, hn.2.1, hn.2.2, ne_eq, not_false_eq_true, if_true, Sem.run_bind, o0, o1, o2, p0, p1, p2, Result.andThen_ok, q0, q1, q2]
   by_cases ha : a = a'
   ·
    by_cases hb : b = b'
    · by_cases hc : c = c' <;> simp [ha, hb, hc, p1, p2, q1, q2]
    simp [ha, hb, p1, q1]
   simp [ha]
  rw [e2] at e
  have e3 := run_eql_struct (P := P) w t #[.int .i64 a, .int .i64 b, .int .i64 c] #[.int .i64 a', .int .i64 b', .int .i64 c']
  rw [e] at e3
  have e4 := run_eqGuard_agg (P := P) w .eql t x y #[.int .i64 a, .int .i64 b, .int .i64 c] #[.int .i64 a', .int .i64 b', .int .i64 c'] hm
  simp only [execOp, h x _ hx, h y _ hy]
  simp [e4, e3]
section
variable {P : Program} {e : Env} {ρ : Operand → Value} {w : World} (hs : Std ρ)
include hs
theorem sbin_ok {op : BinOp} {l m : List Nat} {t s : TypeId} {x y : Operand} {a : AV} (hx : VR e (.str l) (ρ x)) (hy : VR e (.str m) (ρ y)) (h : sbin op l m = some a) : Ans P e ρ w (.binOp op t x y s) a := by
 obtain ⟨u, hu, rfl⟩ := hx
 obtain ⟨v, hv, rfl⟩ := hy
 have cmp : ∀ (o : BinOp) (b : Bool), a = .bool b → (∀ d T p af g, (execOp ρ ⟨d, .binOp o t x y s, T, p, af, g⟩).run P w = .ok (.value (.bool b)) w) → Ans P e ρ w (.binOp o t x y s) a := fun o b hb hr => ⟨.bool b, by rw [hb]; rfl, hr⟩
 cases op with
 | add =>
  simp only [sbin] at h
  cases hb : Nat.blt (Nat.add (ln (u.map UInt8.toNat)) (ln (v.map UInt8.toNat))) 1000000 with
  | false => rw [hb] at h; cases h
  | true =>
   rw [hb] at h
   have hlt : u.length + v.length < 1000000 := by
    have := (Nat.blt_eq).mp hb
    rw [ln_eq, ln_eq, List.length_map, List.length_map] at this
    exact this
   have ha : a = .str ((u ++ v).map UInt8.toNat) := by rw [List.map_append]; exact (Option.some.inj h).symm
   subst ha
   refine ans hs (.string (str (u ++ v))) ⟨u ++ v, rfl, rfl⟩ [x, y] fun T F hF => v_catT (by rw [hF x (by simp), hu]) (by rw [hF y (by simp), hv]) (by simp only [maxLen]; omega)
 | eql => exact ans hs (.bool (decide (u = v))) (by rw [mkB_eq h, lbeq_str]; rfl) [x, y] fun T F hF => v_eqlT (by rw [hF x (by simp), hu]) (by rw [hF y (by simp), hv])
 | neq => exact ans hs (.bool (!decide (u = v))) (by rw [mkB_eq h, lbeq_str]; rfl) [x, y] fun T F hF => v_neqT (by rw [hF x (by simp), hu]) (by rw [hF y (by simp), hv])
 | lss => exact cmp .lss _ (by rw [mkB_eq h, llt_str]) fun d T p af g => by simp [execOp, hu, hv, eqGuard, binOp, Op.stringOp, str_toList]
 | gtr =>
  refine cmp .gtr _ (by rw [mkB_eq h, llt_str, lbeq_str]) fun d T p af g => ?_
  have e1 : (u == v) = decide (u = v) := by by_cases hh : u = v <;> simp [hh]
  simp [execOp, hu, hv, eqGuard, binOp, Op.stringOp, str_toList, e1]
 | leq =>
  refine cmp .leq _ (by rw [mkB_eq h, llt_str, lbeq_str]) fun d T p af g => ?_
  have e1 : (u == v) = decide (u = v) := by by_cases hh : u = v <;> simp [hh]
  simp [execOp, hu, hv, eqGuard, binOp, Op.stringOp, str_toList, e1]
 | geq => exact cmp .geq _ (by rw [mkB_eq h, llt_str]) fun d T p af g => by simp [execOp, hu, hv, eqGuard, binOp, Op.stringOp, str_toList]
 | sub => simp [sbin] at h
 | mul => simp [sbin] at h
 | quo => simp [sbin] at h
 | rem => simp [sbin] at h
 | and => simp [sbin] at h
 | or => simp [sbin] at h
 | xor => simp [sbin] at h
 | shl => simp [sbin] at h
 | shr => simp [sbin] at h
 | andNot => simp [sbin] at h
end
end Go.Iv
/- The interpreter's operations that leave the heap as it is, all of them. No program in sight. -/
namespace Go.Iv
open Go Go.Gam
theorem known_le {e : Env} {h : AH} {w : World} (hH : HR e h w) {b r s : Nat} (hb : e b = some (r, s)) : known h b ≤ s := by
 unfold known
 split
 ·
  rename_i l ro hl
  obtain ⟨c, t, fz, h1, h2, h3, -⟩ := hH.obj b _ hl r s hb
  rw [ln_eq]; exact h3
 exact Nat.zero_le _
theorem le_div {o m z s k : Nat} (hz : 0 < z) (h : o + m * z ≤ k) (hk : k ≤ s) : m ≤ (s - o) / z := (Nat.le_div_iff_mul_le hz).2 (by omega)
theorem nilT1 {d : Option TypeDesc} (h : isNilT d = 1) : ∃ x, d = some (.pointer x) := by unfold isNilT at h; split at h <;> first | exact ⟨_, rfl⟩ | (exfalso; omega)
theorem nilT2 {d : Option TypeDesc} (h : isNilT d = 2) : ∃ x, d = some (.slice x) := by unfold isNilT at h; split at h <;> first | exact ⟨_, rfl⟩ | (exfalso; omega)
theorem nilT3 {d : Option TypeDesc} (h : isNilT d = 3) : ∃ x y z, d = some (.func x y z) := by unfold isNilT at h; split at h <;> first | exact ⟨_, _, _, rfl⟩ | (exfalso; omega)
theorem nilT4 {d : Option TypeDesc} (h : isNilT d = 4) : ∃ x y, d = some (.map x y) := by unfold isNilT at h; split at h <;> first | exact ⟨_, _, rfl⟩ | (exfalso; omega)
theorem nilT5 {d : Option TypeDesc} (h : isNilT d = 5) : ∃ x, d = some (.interface x) := by unfold isNilT at h; split at h <;> first | exact ⟨_, rfl⟩ | (exfalso; omega)
section
variable {P : Program} {e : Env} {ρ : Operand → Value} {w : World} (hs : Std ρ)
include hs
theorem nil_ok {op : BinOp} {q : Bool} {u v : AV} {t s : TypeId} {x y : Operand} {a : AV} (hx : VR e u (ρ x)) (hy : VR e v (ρ y)) (hn : isnil (isNilT (P.underlying t)) u v = some q) (h : (op = .eql ∧ a = .bool q) ∨ (op = .neq ∧ a = .bool (!q))) : Ans P e ρ w (.binOp op t x y s) a := by
 have key : ∀ X Y : Value, ρ x = X → ρ y = Y → (do eqGuard .eql t x y X Y; binOp .eql t X Y : Sem Value).run P w = .ok (.bool q) w → (do eqGuard .neq t x y X Y; binOp .neq t X Y : Sem Value).run P w = .ok (.bool (!q)) w → Ans P e ρ w (.binOp op t x y s) a := by
  intro X Y hX hY h1 h2
  rcases h with ⟨rfl, rfl⟩ | ⟨rfl, rfl⟩
  ·
   refine ⟨.bool q, rfl, fun d T p af g => ?_⟩
   simp only [execOp, hX, hY]
   rw [Sem.run_bind, h1]
   rfl
  refine ⟨.bool (!q), rfl, fun d T p af g => ?_⟩
  simp only [execOp, hX, hY]
  rw [Sem.run_bind, h2]
  rfl
 unfold isnil at hn
 split at hn <;> rename_i hk <;> cases hn
 ·
  obtain ⟨d, hd⟩ := nilT1 hk
  have he : ∀ n, (Op.equalIn (n + 1) t (ρ x) (ρ y)).run P w = .ok true w := fun n => by rw [show ρ x = _ from hx, show ρ y = _ from hy]; simp [Op.equalIn, underlying, program, Sem.run, hd]
  have he := he 9999
  rw [show ρ x = _ from hx, show ρ y = _ from hy] at he
  exact key _ _ hx hy (by simp [eqGuard, binOp, Op.equal, Op.maxDepth, he]) (by simp [eqGuard, binOp, Op.equal, Op.maxDepth, he])
 ·
  obtain ⟨d, hd⟩ := nilT1 hk
  obtain ⟨r, sz, -, hx⟩ := hx
  have he : ∀ n, (Op.equalIn (n + 1) t (ρ x) (ρ y)).run P w = .ok false w := fun n => by rw [show ρ x = _ from hx, show ρ y = _ from hy]; simp [Op.equalIn, underlying, program, Sem.run, hd]
  have he := he 9999
  rw [show ρ x = _ from hx, show ρ y = _ from hy] at he
  exact key _ _ hx hy (by simp [eqGuard, binOp, Op.equal, Op.maxDepth, he]) (by simp [eqGuard, binOp, Op.equal, Op.maxDepth, he])
 ·
  obtain ⟨d, hd⟩ := nilT2 hk
  have he : ∀ n, (Op.equalIn (n + 1) t (ρ x) (ρ y)).run P w = .ok true w := fun n => by rw [show ρ x = _ from hx, show ρ y = _ from hy]; simp [Op.equalIn, underlying, program, Sem.run, hd]
  have he := he 9999
  rw [show ρ x = _ from hx, show ρ y = _ from hy] at he
  exact key _ _ hx hy (by simp [eqGuard, binOp, Op.equal, Op.maxDepth, he]) (by simp [eqGuard, binOp, Op.equal, Op.maxDepth, he])
 ·
  obtain ⟨d, hd⟩ := nilT2 hk
  rename_i c z
  obtain ⟨r, sz, -, hx⟩ := hx
  obtain ⟨o1, n1, c1, hx⟩ : ∃ o1 n1 c1, ρ x = .slice (some ⟨r, o1, none⟩) n1 c1 := by
   cases c with
   | none => exact ⟨_, _, _, hx.2.2⟩
   | some c => exact ⟨_, _, _, hx⟩
  have he : ∀ n, (Op.equalIn (n + 1) t (ρ x) (ρ y)).run P w = .ok false w := fun n => by rw [show ρ x = _ from hx, show ρ y = _ from hy]; simp [Op.equalIn, underlying, program, Sem.run, hd]
  have he := he 9999
  rw [show ρ x = _ from hx, show ρ y = _ from hy] at he
  exact key _ _ hx hy (by simp [eqGuard, binOp, Op.equal, Op.maxDepth, he]) (by simp [eqGuard, binOp, Op.equal, Op.maxDepth, he])
 ·
  obtain ⟨d1, d2, d3, hd⟩ := nilT3 hk
  have he : ∀ n, (Op.equalIn (n + 1) t (ρ x) (ρ y)).run P w = .ok true w := fun n => by rw [show ρ x = _ from hx, show ρ y = _ from hy]; simp [Op.equalIn, underlying, program, Sem.run, hd]
  have he := he 9999
  rw [show ρ x = _ from hx, show ρ y = _ from hy] at he
  exact key _ _ hx hy (by simp [eqGuard, binOp, Op.equal, Op.maxDepth, he]) (by simp [eqGuard, binOp, Op.equal, Op.maxDepth, he])
 ·
  obtain ⟨d1, d2, d3, hd⟩ := nilT3 hk
  obtain ⟨vs, ws, hx, -, -⟩ := hx
  have he : ∀ n, (Op.equalIn (n + 1) t (ρ x) (ρ y)).run P w = .ok false w := fun n => by rw [show ρ x = _ from hx, show ρ y = _ from hy]; simp [Op.equalIn, underlying, program, Sem.run, hd]
  have he := he 9999
  rw [show ρ x = _ from hx, show ρ y = _ from hy] at he
  exact key _ _ hx hy (by simp [eqGuard, binOp, Op.equal, Op.maxDepth, he]) (by simp [eqGuard, binOp, Op.equal, Op.maxDepth, he])
 ·
  obtain ⟨d1, d2, hd⟩ := nilT4 hk
  have he : ∀ n, (Op.equalIn (n + 1) t (ρ x) (ρ y)).run P w = .ok true w := fun n => by rw [show ρ x = _ from hx, show ρ y = _ from hy]; simp [Op.equalIn, underlying, program, Sem.run, hd]
  have he := he 9999
  rw [show ρ x = _ from hx, show ρ y = _ from hy] at he
  exact key _ _ hx hy (by simp [eqGuard, binOp, Op.equal, Op.maxDepth, he]) (by simp [eqGuard, binOp, Op.equal, Op.maxDepth, he])
 obtain ⟨d1, d2, hd⟩ := nilT4 hk
 obtain ⟨r, sz, -, hx⟩ := hx
 have he : ∀ n, (Op.equalIn (n + 1) t (ρ x) (ρ y)).run P w = .ok false w := fun n => by rw [show ρ x = _ from hx, show ρ y = _ from hy]; simp [Op.equalIn, underlying, program, Sem.run, hd]
 have he := he 9999
 rw [show ρ x = _ from hx, show ρ y = _ from hy] at he
 exact key _ _ hx hy (by simp [eqGuard, binOp, Op.equal, Op.maxDepth, he]) (by simp [eqGuard, binOp, Op.equal, Op.maxDepth, he])
end
end Go.Iv
/- The interpreter's operations on two values: the model yields what they tell. No program in sight. -/
namespace Go.Iv
open Go Go.Gam
theorem isI64_eq {P : Program} {t : Nat} (h : isI64 P t = true) : P.underlying t = some (.int .i64) := by
 unfold isI64 at h
 split at h
 · assumption
 cases h
theorem and_t {a b : Bool} (h : (a && b) = true) : a = true ∧ b = true := by simpa using h
section
variable {P : Program} {e : Env} {ρ : Operand → Value} {w : World} {h : AH} (hs : Std ρ) (hH : HR e h w)
include hs hH
theorem obin_ok {op : BinOp} {u v : AV} {t s : TypeId} {x y : Operand} {a : AV} (hx : VR e u (ρ x)) (hy : VR e v (ρ y)) (hq : obin P h op t (isC y) u v = some a) : Ans P e ρ w (.binOp op t x y s) a := by
 unfold obin at hq
 split at hq
 · exact sbin_ok hs hx hy hq
 ·
  -- a capacity less a number
  rename_i b o z m n
  split at hq
  ·
   cases hc : (Nat.blt n 1000000 && Nat.blt m 1000000 && Nat.ble (Nat.add o (Nat.mul (Nat.add m n) z)) (known h b) && Nat.blt 0 z) with
   | false => rw [hc] at hq; cases hq
   | true =>
    rw [hc] at hq
    obtain rfl := Option.some.inj hq
    obtain ⟨hc, c4⟩ := and_t hc
    obtain ⟨hc, c3⟩ := and_t hc
    obtain ⟨c1, c2⟩ := and_t hc
    obtain ⟨r, sz, e1, e2, e4, hx⟩ := hx
    have c3' : o + (m + n) * z ≤ known h b := Nat.le_of_ble_eq_true c3
    have hk := known_le hH e1
    have hd := le_div e2 c3' hk
    refine ans hs (.int .i64 (((sz - o) / z - (m + n) : Nat) : Int)) ⟨r, sz, e1, e2, e4, rfl⟩ [x, y] fun T F hF => ?_
    refine (v_subI (X := (((sz - o) / z - m : Nat) : Int)) (Y := (n : Int)) (by rw [hF x (by simp), hx]) (by rw [hF y (by simp)]; exact congrArg some hy) (by simp only [maxLen] at e4; omega)).as (by congr 1; omega)
  cases hq
 ·
  rename_i n b o z m
  split at hq
  ·
   cases hc : (Nat.blt 0 z && Nat.ble (Nat.add o (Nat.mul (Nat.add m n) z)) (known h b)) with
   | false => rw [hc] at hq; cases hq
   | true =>
    rw [hc] at hq
    obtain rfl := Option.some.inj hq
    obtain ⟨c4, c3⟩ := and_t hc
    obtain ⟨r, sz, e1, e2, e4, hy⟩ := hy
    have c3' : o + (m + n) * z ≤ known h b := Nat.le_of_ble_eq_true c3
    have hd := le_div e2 c3' (known_le hH e1)
    refine ans hs (.bool true) rfl [x, y] fun T F hF => ?_
    refine (v_leq (X := (n : Int)) (Y := (((sz - o) / z - m : Nat) : Int)) (by rw [hF x (by simp)]; exact congrArg some hx) (by rw [hF y (by simp), hy])).as (by congr 1; rw [decide_eq_true_iff]; omega)
  cases hq
 ·
  -- structs of three numbers
  rename_i l m
  cases hc : is3 P t with
  | false => rw [hc] at hq; cases hq
  | true =>
   rw [hc] at hq
   simp only [cond_true] at hq
   split at hq
   ·
    split at hq
    ·
     rename_i a1 b1 c1 a2 b2 c2
     unfold is3 at hc
     split at hc
     ·
      rename_i fs hu
      split at hc
      ·
       rename_i f0 f1 f2 hl
       obtain ⟨hc, g11⟩ := and_t hc
       obtain ⟨hc, g10⟩ := and_t hc
       obtain ⟨hc, g9⟩ := and_t hc
       obtain ⟨hc, g8⟩ := and_t hc
       obtain ⟨hc, g7⟩ := and_t hc
       obtain ⟨hc, g6⟩ := and_t hc
       obtain ⟨hc, g5⟩ := and_t hc
       obtain ⟨hc, g4⟩ := and_t hc
       obtain ⟨hc, g3⟩ := and_t hc
       obtain ⟨g1, g2⟩ := and_t hc
       have hfs : fs = #[f0, f1, f2] := by rw [← Array.toArray_toList (xs := fs), hl]
       rw [hfs] at hu
       obtain ⟨cs, hx, v1, r1, rfl, x1, v2, r2, rfl, x2, v3, r3, rfl, x3, x4⟩ := hx
       obtain ⟨ds, hy, u1, q1, rfl, y1, u2, q2, rfl, y2, u3, q3, rfl, y3, y4⟩ := hy
       have x1' : v1 = .int .i64 a1 := x1
       have x2' : v2 = .int .i64 b1 := x2
       have x3' : v3 = .int .i64 c1 := x3
       have x4' : r3 = [] := x4
       have y1' : u1 = .int .i64 a2 := y1
       have y2' : u2 = .int .i64 b2 := y2
       have y3' : u3 = .int .i64 c2 := y3
       have y4' : q3 = [] := y4
       subst x1' x2' x3' x4' y1' y2' y3' y4'
       refine ans hs (.bool (decide (a1 = a2 ∧ b1 = b2 ∧ c1 = c2))) ?_ [x, y] fun T F hF => ?_
       · rw [mkB_eq hq, ibeq_eq, ibeq_eq, ibeq_eq]
         show Value.bool _ = Value.bool _
         congr 1
         by_cases ha : a1 = a2 <;> by_cases hb : b1 = b2 <;> by_cases hc : c1 = c2 <;> simp [ha, hb, hc]
       exact v_eqlP3i hu (by simpa using g10) (by simpa using g11) (isI64_eq g1) (isI64_eq g2) (isI64_eq g3) ⟨by simpa using g7, by simpa using g8, by simpa using g9⟩ (Nat.eq_of_beq_eq_true g4) (Nat.eq_of_beq_eq_true g5) (Nat.eq_of_beq_eq_true g6)
        (by rw [hF x (by simp), hx]) (by rw [hF y (by simp), hy])
      cases hc
     cases hc
    cases hq
   cases hq
 ·
  -- two nils of an interface's type, the second the literal one
  cases hc : (isC y && Nat.beq (isNilT (P.underlying t)) 5) with
  | false => rw [hc] at hq; cases hq
  | true =>
   rw [hc] at hq
   simp only [cond_true] at hq
   obtain ⟨c1, c2⟩ := and_t hc
   obtain ⟨ms, hd⟩ := nilT5 (Nat.eq_of_beq_eq_true c2)
   obtain ⟨cv, rfl⟩ : ∃ cv, y = .const cv := by
    unfold isC at c1
    split at c1
    · exact ⟨_, rfl⟩
    cases c1
   have hx' : ρ x = .nilIface := hx
   have hy' : ρ (.const cv) = .nilIface := hy
   have he : ∀ n, (Op.equalIn (n + 1) t .nilIface .nilIface).run P w = .ok true w := fun n => by simp [Op.equalIn, underlying, program, Sem.run, hd]
   have he := he 9999
   split at hq
   · obtain rfl := Option.some.inj hq
     exact ⟨.bool false, rfl, fun d T p af g => by simp [execOp, hx', hy', eqGuard, binOp, Op.equal, Op.maxDepth, he]⟩
   · obtain rfl := Option.some.inj hq
     exact ⟨.bool true, rfl, fun d T p af g => by simp [execOp, hx', hy', eqGuard, binOp, Op.equal, Op.maxDepth, he]⟩
   cases hq
 split at hq
 ·
  split at hq
  · rename_i q hn
    exact nil_ok hs hx hy hn (.inl ⟨rfl, mkB_eq hq⟩)
  cases hq
 ·
  split at hq
  · rename_i q hn
    exact nil_ok hs hx hy hn (.inr ⟨rfl, mkB_eq hq⟩)
  cases hq
 cases hq
theorem bin_ok {op : BinOp} {u v : AV} {t s : TypeId} {x y : Operand} {a : AV} (hx : VR e u (ρ x)) (hy : VR e v (ρ y)) (hq : (bin P op t (isC y)).run h u v = some a) : Ans P e ρ w (.binOp op t x y s) a := by
 unfold bin at hq
 split at hq
 · exact ishl_ok hs hx hy hq
 · exact ishr_ok hs hx hy hq
 rename_i h1 h2
 simp only at hq
 split at hq
 ·
  rename_i k X j Y
  cases hb : Nat.beq (kn k) (kn j) with
  | false => rw [hb] at hq; cases hq
  | true =>
   rw [hb] at hq
   obtain rfl := kn_inj hb
   exact ibin_ok hs hx hy hq (fun e => h1 e) (fun e => h2 e)
 exact obin_ok hs hH hx hy hq
omit hH in
theorem un_ok {op : UnOp} {u : AV} {t : TypeId} {x : Operand} {a : AV} (hx : VR e u (ρ x)) (hq : un op u = some a) : Ans P e ρ w (.unOp op t x) a := by
 unfold un at hq
 split at hq
 · exact ans hs _ (by rw [mkB_eq hq]; rfl) [x] fun T F hF => v_not (by rw [hF x (by simp)]; exact congrArg some hx)
 ·
  rename_i k n
  have hx' : ρ x = .int k n := hx
  refine ⟨.int k (k.wrap (0 - n)), by rw [wr_eq hq]; rfl, fun d T p af g => ?_⟩
  simp only [execOp, hx', Op.unary, Op.intArith]
  simp
 ·
  rename_i n
  have hx' : ρ x = .int .u32 (n : Int) := hx
  cases hb : Nat.blt n 4294967296 with
  | false => rw [hb] at hq; cases hq
  | true =>
   rw [hb] at hq
   have hn : n < 4294967296 := by simpa [Nat.blt_eq] using hb
   have hf : fits .u32 n := hn
   have hm : fits .u32 4294967295 := by unfold fits; decide
   have e : ((BitVec.ofInt IntKind.u32.bits (4294967295 : Int)) ^^^ (BitVec.ofInt IntKind.u32.bits (n : Int))).toNat = 4294967295 - n := by
    have e1 : (4294967295 : Int) = ((4294967295 : Nat) : Int) := rfl
    rw [e1, ofInt_nat, ofInt_nat, BitVec.toNat_xor, BitVec.toNat_ofNat, BitVec.toNat_ofNat, Nat.mod_eq_of_lt (fits_lt hm), Nat.mod_eq_of_lt (fits_lt hf)]
    have e2 : ∀ x : BitVec 32, (4294967295 : Nat) ^^^ x.toNat = 4294967295 - x.toNat := fun x => by
     have h1 : (4294967295#32 ^^^ x) = ~~~ x := by
      have : (4294967295#32) = BitVec.allOnes 32 := by decide
      rw [this, BitVec.allOnes_xor]
     have h2 := congrArg BitVec.toNat h1
     rw [BitVec.toNat_xor, BitVec.toNat_not] at h2
     simpa using h2
    have := e2 (BitVec.ofNat 32 n)
    rwa [BitVec.toNat_ofNat, Nat.mod_eq_of_lt hn] at this
   refine ⟨.int .u32 ((4294967295 - n : Nat) : Int), by rw [mkN_eq hq]; rfl, fun d T p af g => ?_⟩
   have hw : IntKind.u32.wrap ((4294967295 - n : Nat) : Int) = ((4294967295 - n : Nat) : Int) := wrap_u32 _ (by omega)
   have hmx : IntKind.u32.max = 4294967295 := by decide
   simp only [execOp, hx', Op.unary, Op.intBits, IntKind.signed, Bool.false_eq_true, if_false, hmx, e, hw]
   simp
 cases hq
end
end Go.Iv
/- The interpreter's conversions, parts, addresses, slices: the model yields what they tell. No program in sight. -/
namespace Go.Iv
open Go Go.Gam
section
variable {P : Program} {w : World}
theorem run_tag {t : Nat} {b : Bool} (h : tag P t = some b) : (isAgg t).run P w = .ok b w := by
 unfold tag at h
 split at h
 · rename_i hu; obtain rfl := Option.some.inj h; simp [isAgg, run_underlying hu]
 · rename_i hu; obtain rfl := Option.some.inj h; simp [isAgg, run_underlying hu]
 ·
  rename_i d h1 h2 hu
  obtain rfl := Option.some.inj h
  exact run_isAgg ⟨d, hu, fun fs e => h1 _ e, fun n el e => h2 _ _ e⟩
 cases h
theorem run_tsz {t n : Nat} (h : tsz P t = some n) : (sizeOf t).run P w = .ok n w := by
 unfold tsz at h
 split at h
 ·
  rename_i i hi
  obtain rfl := Option.some.inj h
  simp [sizeOf, typeInfo, program, Sem.run, hi]
 cases h
theorem tsz_info {t n : Nat} (h : tsz P t = some n) : ∃ i, P.info? t = some i ∧ i.size = n := by
 unfold tsz at h
 split at h
 · rename_i i hi
   exact ⟨i, hi, Option.some.inj h⟩
 cases h
def Cells (w : World) (r : Nat) (cs : List Value) : Prop := ∀ i v, cs[i]? = some v → w.cell? ⟨r, i, none⟩ = some v
theorem rd_ok {e : Env} {t o r : Nat} {l : List AV} {cs : List Value} {a : AV} (hq : (rd P t).run l o = some a) (hl : VRL e l cs) (hc : Cells w r cs) : ∃ v, VR e a v ∧ (loadVar t ⟨r, o, none⟩).run P w = .ok v w := by
 unfold rd at hq
 split at hq
 ·
  rename_i ht
  split at hq
  ·
   rename_i n hn
   simp only at hq
   split at hq
   ·
    rename_i q hs
    obtain rfl := Option.some.inj hq
    obtain ⟨h1, rfl⟩ := seg_eq hs
    refine ⟨.agg ((cs.drop o).take n).toArray, ⟨_, rfl, VRL.take n (VRL.drop o hl)⟩, ?_⟩
    have hlen : ((cs.drop o).take n).length = n := by
     have := hl.length
     simp; omega
    have := run_loadCells_list (P := P) (w := w) ⟨r, o, none⟩ ((cs.drop o).take n) (fun j v hv => by
     rw [Addr.add_eq]
     refine hc (o + j) v ?_
     rw [List.getElem?_take] at hv
     split at hv
     · rwa [List.getElem?_drop] at hv
     cases hv)
    rw [hlen] at this
    simp [loadVar, run_tag ht, run_tsz hn, this]
   cases hq
  cases hq
 ·
  rename_i ht
  simp only [nth_eq] at hq
  obtain ⟨v, h1, h2⟩ := hl.get hq
  exact ⟨v, h2, by simp [loadVar, run_tag ht, load, Sem.run, hc o v h1]⟩
 cases hq
theorem rd_part {e : Env} {t o : Nat} {l : List AV} {cs : List Value} {a : AV} (hq : (rd P t).run l o = some a) (hl : VRL e l cs) : ∃ v, VR e a v ∧ (part t cs.toArray o).run P w = .ok v w := by
 unfold rd at hq
 split at hq
 ·
  rename_i ht
  split at hq
  ·
   rename_i n hn
   simp only at hq
   split at hq
   ·
    rename_i q hs
    obtain rfl := Option.some.inj hq
    obtain ⟨h1, rfl⟩ := seg_eq hs
    refine ⟨.agg ((cs.drop o).take n).toArray, ⟨_, rfl, VRL.take n (VRL.drop o hl)⟩, ?_⟩
    have e1 : cs.toArray.extract o (o + n) = ((cs.drop o).take n).toArray := by
     apply Array.toList_inj.1
     simp [List.extract_eq_take_drop]
    simp [part, run_tag ht, run_tsz hn, e1]
   cases hq
  cases hq
 ·
  rename_i ht
  simp only [nth_eq] at hq
  obtain ⟨v, h1, h2⟩ := hl.get hq
  exact ⟨v, h2, by simp [part, run_tag ht, h1]⟩
 cases hq
theorem row_cells {e : Env} {h : AH} (hH : HR e h w) {b r s : Nat} {l : List AV} {ro : Bool} (hb : h.at b = some (.row l ro)) (he : e b = some (r, s)) : ∃ cs : List Value, VRL e l cs ∧ Cells w r cs ∧ l.length ≤ s := by
 obtain ⟨c, t, fz, h1, h2, h3, h4, h5⟩ := hH.obj b _ hb r s he
 refine ⟨_, h4, fun i v hv => ?_, h3⟩
 rw [List.getElem?_take] at hv
 split at hv
 · simp only [World.cell?, h1]; simpa using hv
 cases hv
def BR (v : Option Value) (d n : Nat) : Prop := match v with | none => n = d | some v => ∃ k, v = .int k (n : Int)
theorem idx_ok {e : Env} {a : AV} {v : Value} {n : Nat} (h : VR e a v) (hi : idx a = some n) : ∃ k, v = .int k (n : Int) := by
 unfold idx at hi
 split at hi
 · rename_i k m; obtain rfl := Option.some.inj hi; exact ⟨k, h⟩
 cases hi
theorem bnd_ok {R : Type} {e : Env} {ev : Ev R} {r : R} {ρ : Operand → Value} (hE : EvOK e ev r ρ) {x : Option Operand} {d n : Nat} (h : (bnd ev x).run r d = some n) : BR (x.map ρ) d n := by
 cases x with
 | none => exact (Option.some.inj h).symm
 | some x =>
  simp only [bnd] at h
  split at h
  · rename_i v hv
    exact idx_ok (hE x v hv) h
  cases h
theorem run_bounds {isS : Bool} {len cap x y m : Nat} {lo hi mx : Option Value} (h1 : BR lo 0 x) (h2 : BR hi len y) (h3 : BR mx cap m) (h4 : mx.isSome = true → hi.isSome = true) (hxy : x ≤ y) (hym : y ≤ m) (hm : m ≤ cap) : (Instr.sliceBounds isS len cap lo hi mx).run P w = .ok (x, y, m) w := by
 have sb : ∀ (k : IntKind) (n y : Nat) (c : BoundsCode) (w : World), n ≤ y → (Instr.sliceBound (.int k (n : Int)) y c).run P w = .ok n w := fun k n y c w hn => by
  have : (n : Int) ≤ (y : Int) := by omega
  simp [Instr.sliceBound, asIntOf, this]
 cases mx with
 | none =>
  obtain rfl : m = cap := h3
  cases hi with
  | none =>
   obtain rfl : y = len := h2
   cases lo with
   | none => obtain rfl : x = 0 := h1; simp [Instr.sliceBounds]
   | some v => obtain ⟨k, rfl⟩ := h1; simp [Instr.sliceBounds, sb _ _ _ _ _ hxy]
  | some u =>
   obtain ⟨k, rfl⟩ := h2
   cases lo with
   | none => obtain rfl : x = 0 := h1; simp [Instr.sliceBounds, sb _ _ _ _ _ hym]
   | some v => obtain ⟨k, rfl⟩ := h1; simp [Instr.sliceBounds, sb _ _ _ _ _ hym, sb _ _ _ _ _ hxy]
 | some q =>
  obtain ⟨k, rfl⟩ := h3
  cases hi with
  | none => simp at h4
  | some u =>
   obtain ⟨k', rfl⟩ := h2
   cases lo with
   | none => obtain rfl : x = 0 := h1; simp [Instr.sliceBounds, sb _ _ _ _ _ hym, sb _ _ _ _ _ hm]
   | some v => obtain ⟨k, rfl⟩ := h1; simp [Instr.sliceBounds, sb _ _ _ _ _ hym, sb _ _ _ _ _ hxy, sb _ _ _ _ _ hm]
end
section
variable {P : Program} {e : Env} {ρ : Operand → Value} {w : World} {h : AH} (hs : Std ρ) (hH : HR e h w)
include hs hH
theorem bytesOf_ok : ∀ {l : List AV} {q : List Nat} {vs : List Value}, bytesOf l = some q → VRL e l vs → ∃ s : List UInt8, s.map UInt8.toNat = q ∧ vs = byt (s.map UInt8.toNat)
 | [], q, vs, h, hv => by simp [bytesOf] at h; subst h; exact ⟨[], rfl, hv⟩
 | a :: l, q, vs, h, ⟨v, r, h1, h2, h3⟩ => by
  unfold bytesOf at h
  split at h
  · cases ‹(_ :: _ : List AV) = []›
  ·
   rename_i n l' heq
   simp only [List.cons.injEq] at heq
   obtain ⟨rfl, rfl⟩ := heq
   split at h
   ·
    rename_i q' hq
    cases hb : Nat.blt n 256 with
    | false => rw [hb] at h; cases h
    | true =>
     rw [hb] at h
     obtain rfl := Option.some.inj h
     have hn : n < 256 := by simpa [Nat.blt_eq] using hb
     obtain ⟨s, e1, e2⟩ := bytesOf_ok hq h3
     have e3 : (UInt8.ofNat n).toNat = n := by simp [UInt8.toNat_ofNat']; omega
     refine ⟨UInt8.ofNat n :: s, by simp [e1, e3], ?_⟩
     rw [h1, e2, show v = .int .u8 (n : Int) from h2]
     simp [byt, e3]
   cases h
  cases h
theorem conv_ok {u a : AV} {s t : TypeId} {x : Operand} (hx : VR e u (ρ x)) (hq : (conv P s t).run h u = some a) : Ans P e ρ w (.convert s t x) a := by
 unfold conv at hq
 split at hq
 ·
  rename_i k0 k hs1 ht1
  simp only at hq
  split at hq
  · rename_i j n
    exact ans hs _ (by rw [wr_eq hq]; rfl) [x] fun T F hF => v_conv hs1 ht1 (by rw [hF x (by simp)]; exact congrArg some hx)
  cases hq
 ·
  rename_i hs1 ht1
  simp only at hq
  split at hq
  ·
   obtain rfl := Option.some.inj hq
   obtain ⟨q, hx, rfl⟩ := hx
   refine ⟨.string (str q), ⟨q, rfl, rfl⟩, fun d T p af g => ?_⟩
   simp only [execOp, hx, convert]
   simp [run_underlying hs1, run_underlying ht1]
  cases hq
 ·
  rename_i el hs1 ht1
  cases hb : isU8 P el with
  | false => rw [hb] at hq; cases hq
  | true =>
   rw [hb] at hq
   simp only [cond_true] at hq
   have hel : P.underlying el = some (.int .u8) := by
    unfold isU8 at hb
    split at hb
    · assumption
    cases hb
   split at hq
   · obtain rfl := Option.some.inj hq
     have hx' : ρ x = .slice none 0 0 := hx
     refine ans hs (.string (str [])) ⟨[], rfl, rfl⟩ [x] fun T F hF => ?_
     exact (v_bstrT (D := ⟨0, 1, by decide, false⟩) (B := 0) (M := 0) (l := []) (sa := none) (cap := 0) (n := 0) hs1 hel ht1 (by rw [hF x (by simp), hx']) (.inl ⟨none, 0, rfl, rfl⟩) rfl)
   ·
    rename_i b o n c z
    split at hq
    ·
     rename_i l ro hl
     split at hq
     ·
      rename_i q hseg
      split at hq
      ·
       rename_i bs hbs
       obtain rfl := Option.some.inj hq
       obtain ⟨r, sz, he, hx⟩ := hx
       obtain ⟨cap, hx⟩ : ∃ cap, ρ x = .slice (some ⟨r, o, none⟩) n cap := by
        cases c with
        | none => exact ⟨_, hx.2.2⟩
        | some c => exact ⟨_, hx⟩
       obtain ⟨cs, hv, hc, -⟩ := row_cells hH hl he
       obtain ⟨h1, rfl⟩ := seg_eq hseg
       obtain ⟨st, rfl, hst⟩ := bytesOf_ok hs hH hbs (VRL.take n (VRL.drop o hv))
       have hlen : (st.map UInt8.toNat).length = n := by
        have := congrArg List.length hst
        have h2 := hv.length
        simp [byt] at this ⊢
        omega
       refine ⟨.string (str st), ⟨st, rfl, rfl⟩, fun d T p af g => ?_⟩
       have hl := run_loadCells_list (P := P) (w := w) ⟨r, o, none⟩ (byt (st.map UInt8.toNat)) (fun j v hv => by
        rw [Addr.add_eq]
        refine hc (o + j) v ?_
        rw [← hst, List.getElem?_take] at hv
        split at hv
        · rwa [List.getElem?_drop] at hv
        cases hv)
       rw [byt_length, hlen] at hl
       have hr := run_bytesToString (P := P) w ⟨r, o, none⟩ n cap ((st.map UInt8.toNat).map fun (n : Nat) => (n : Int)) (by rw [hl]; simp [byt, Function.comp_def])
       have hrun : (Conv.bytesToString (.slice (some ⟨r, o, none⟩) n cap)).run P w = .ok (.string (bstr (st.map UInt8.toNat))) w := by
        rw [hr, push_all]
        simp [bstr]
       rw [bstr_str] at hrun
       simp only [execOp, hx, run_convert_bytes_string w s t el (some ⟨r, o, none⟩) n cap hs1 hel ht1]
       simp [run_convert_bytes_string w s t el (some ⟨r, o, none⟩) n cap hs1 hel ht1, hrun]
      cases hq
     cases hq
    cases hq
   cases hq
 cases hq
end
end Go.Iv
/- The interpreter's addresses, slices, maps, structs; all operations that leave the heap as it is. No program in sight. -/
namespace Go.Iv
open Go Go.Gam
theorem sl_shape {e : Env} {b o n z : Nat} {c : Option Nat} {v : Value} (h : VR e (.sl b o n c z) v) : ∃ r s cap, e b = some (r, s) ∧ v = .slice (some ⟨r, o, none⟩) n cap ∧ (∀ c', c = some c' → cap = c') ∧ (c = none → 0 < z ∧ cap = (s - o) / z ∧ cap ≤ maxLen) := by
 obtain ⟨r, s, h1, h2⟩ := h
 cases c with
 | none => exact ⟨r, s, _, h1, h2.2.2, by simp, fun _ => ⟨h2.1, rfl, h2.2.1⟩⟩
 | some c => exact ⟨r, s, c, h1, h2, fun c' hc => Option.some.inj hc, by simp⟩
section
variable {P : Program} {w : World}
theorem run_find (kd : TypeDesc) (kt : TypeId) (hk : P.underlying kt = some kd) {e : Env} {k : AV} {K : Value} (hK : VR e k K) (hkt : keyT (some kd) k = true) : ∀ {l : List (AV × AV)} {ms : List MapEntry} (i : Nat) {q : Option AV}, EntR e l ms → find k l = some q →
  ∃ r : Option (Nat × Value), Instr.findNow kd K ms i = some r ∧ (match q, r with | none, none => True | some a, some (_, v) => VR e a v | _, _ => False)
 | [], ms, i, q, h, hq => by
  rw [show ms = [] from h]
  obtain rfl := Option.some.inj hq
  exact ⟨none, rfl, trivial⟩
 | (j, v) :: l, ms, i, q, ⟨m, r, h1, h2, h3, h4⟩, hq => by
  subst h1
  have same : ∀ b, kbeq k j = some b → Instr.sameNow kd K m.key = some b := by
   intro b hb
   unfold kbeq at hb
   unfold keyT at hkt
   split at hb
   ·
    rename_i k1 a k2 c
    split at hkt
    ·
     rename_i k0 _ _ heq _
     cases hkk : Nat.beq (kn k1) (kn k2) with
     | false => rw [hkk] at hb; cases hb
     | true =>
      rw [hkk] at hb
      obtain rfl := kn_inj hkk
      obtain rfl := Option.some.inj hb
      rw [Option.some.inj heq, show K = _ from hK, show m.key = _ from h2]
      simp only [Instr.sameNow, if_true, ibeq_eq]
      by_cases hac : a = c <;> simp [hac]
    · rename_i heq _ hc; cases hc
    cases hkt
   ·
    rename_i a c
    obtain rfl := Option.some.inj hb
    split at hkt
    · rename_i hc; cases hc
    · rename_i heq _
      obtain ⟨s1, hK, rfl⟩ := hK
      obtain ⟨s2, h2, rfl⟩ := h2
      rw [Option.some.inj heq, hK, h2]
      simp only [Instr.sameNow, str_beq, lbeq_str]
    cases hkt
   cases hb
  simp only [find] at hq
  simp only [Instr.findNow]
  split at hq
  ·
   rename_i hb
   obtain rfl := Option.some.inj hq
   rw [same true hb]
   exact ⟨some (i, m.val), rfl, h3⟩
  · rename_i hb
    rw [same false hb]
    exact run_find kd kt hk hK hkt (i + 1) h4 hq
  cases hq
theorem run_checkKey {e : Env} {kt : TypeId} {k : AV} {K : Value} (hK : VR e k K) (hkt : keyT (P.underlying kt) k = true) (b : Bool) (n : Nat) : (Instr.checkKey b (n + 1) kt K).run P w = .ok () w := by
 unfold keyT at hkt
 split at hkt
 ·
  rename_i k0 k1 n1 heq
  rw [show K = _ from hK]
  simp [Instr.checkKey, run_underlying heq]
 ·
  rename_i l heq
  obtain ⟨s, hK, -⟩ := hK
  rw [hK]
  simp [Instr.checkKey, run_underlying heq]
 cases hkt
theorem keyT_some {d : Option TypeDesc} {k : AV} (h : keyT d k = true) : ∃ kd, d = some kd := by
 unfold keyT at h
 split at h
 · exact ⟨_, rfl⟩
 · exact ⟨_, rfl⟩
 cases h
theorem run_zro {e : Env} {t : Nat} {z : AV} (h : zro P t = some z) : ∃ v, VR e z v ∧ (zeroValue t).run P w = .ok v w ∧ ∃ i, P.info? t = some i ∧ i.zero = some v := by
 unfold zro at h
 split at h
 ·
  rename_i i hi
  split at h
  · rename_i v hv
    exact ⟨v, ofZ_ok e h, by simp [zeroValue, typeInfo, program, Sem.run, hi, hv], i, hi, hv⟩
  cases h
 cases h
theorem fold_lay : ∀ (xs : List Value) (o j : Nat) (A : Array Value), o + j + xs.length ≤ A.size → ((xs.zipIdx j).foldl (fun cs (x : Value × Nat) => cs.setIfInBounds (o + x.2) x.1) A).toList = A.toList.take (o + j) ++ xs ++ A.toList.drop (o + j + xs.length)
 | [], o, j, A, h => by simp
 | x :: xs, o, j, A, h => by
  simp only [List.length_cons] at h
  rw [List.zipIdx_cons, List.foldl_cons, fold_lay xs o (j + 1) _ (by simp; omega)]
  simp only [Array.toList_setIfInBounds]
  have hlt : o + j < A.toList.length := by simp; omega
  have e1 : (A.toList.set (o + j) x).take (o + (j + 1)) = A.toList.take (o + j) ++ [x] := by
   apply List.ext_getElem?
   intro i
   rw [List.getElem?_take, List.getElem?_append, List.getElem?_take, List.getElem?_set]
   simp only [List.length_take]
   by_cases h1 : i < o + j
   · rw [if_pos (by omega), if_neg (by omega), if_pos (by omega), if_pos h1]
   by_cases h2 : i = o + j
   · subst h2
     rw [if_pos (by omega), if_pos rfl, if_pos hlt, if_neg (by omega)]
     have : o + j - min (o + j) A.toList.length = 0 := by omega
     rw [this]; rfl
   rw [if_neg (by omega), if_neg (by omega)]
   exact (List.getElem?_eq_none (by simp; omega)).symm
  rw [e1, List.drop_set_of_lt (by omega)]
  simp only [List.length_cons, List.append_assoc, List.singleton_append, List.cons_append, List.nil_append]
  rw [show o + (j + 1) + xs.length = o + j + (xs.length + 1) by omega]
theorem fill_ok {e : Env} {pl : Pl} {place : Nat → Option (Nat × Nat)} (hp : ∀ i x, pl.run i = some x → place i = some x) : ∀ {ps : List (Nat × AV)} {qs : List (Nat × Value)} {l q : List AV} {A : Array Value}, PR e ps qs → VRL e l A.toList → bld pl ps l = some q → ∃ B : Array Value, Instr.fill place A qs = some B ∧ VRL e q B.toList
 | [], qs, l, q, A, h1, h2, hq => by
  rw [show qs = [] from h1]
  obtain rfl := Option.some.inj hq
  exact ⟨A, rfl, h2⟩
 | (i, a) :: ps, qs, l, q, A, ⟨v, r, h1, hv, hr⟩, h2, hq => by
  subst h1
  simp only [bld] at hq
  split at hq
  ·
   rename_i o z ho
   cases hb : (Nat.beq (ln (cells a)) z && Nat.ble (Nat.add o z) (ln l)) with
   | false => rw [hb] at hq; cases hq
   | true =>
    rw [hb] at hq
    simp only [cond_true] at hq
    obtain ⟨b1, b2⟩ := and_t hb
    split at hq
    ·
     rename_i l' hl'
     have hc := VRL.cells hv
     have hz : v.cells.size = z := by
      have := hc.length
      rw [← Nat.eq_of_beq_eq_true b1, ln_eq, ← this]
      simp
     have hA : A.size = l.length := by have := h2.length; simpa using this
     have b2' : o + z ≤ l.length := by have := Nat.le_of_ble_eq_true b2; rw [ln_eq] at this; exact this
     obtain ⟨-, rfl⟩ := lay_eq _ _ _ _ hl'
     have hfold : (v.cells.zipIdx.foldl (fun cs (c, j) => cs.setIfInBounds (o + j) c) A).toList = A.toList.take o ++ v.cells.toList ++ A.toList.drop (o + v.cells.toList.length) := by
      have := fold_lay v.cells.toList o 0 A (by simp; omega)
      simp only [Nat.add_zero] at this
      rw [← this, ← Array.foldl_toList]
      simp
     have hn := VRL.append (VRL.append (VRL.take o h2) hc) (VRL.drop (o + (cells a).length) h2)
     have hlen : v.cells.toList.length = (cells a).length := hc.length
     rw [← hlen, ← hfold] at hn
     rw [hlen] at hn
     obtain ⟨B, hB, hB2⟩ := fill_ok hp hr hn hq
     refine ⟨B, ?_, hB2⟩
     simp only [Instr.fill, hp i _ ho]
     rw [if_neg (by simp only [Bool.or_eq_true, decide_eq_true_eq, bne_iff_ne, ne_eq]; omega)]
     exact hB
    cases hq
  cases hq
end
end Go.Iv
/- All of the interpreter's operations that leave the heap as it is: the model yields what they tell. No program in sight. -/
namespace Go.Iv
open Go Go.Gam
section
variable {P : Program} {e : Env} {ρ : Operand → Value} {w : World} {h : AH} {R : Type} {ev : Ev R} {r : R} (hs : Std ρ) (hH : HR e h w) (hE : EvOK e ev r ρ)
include hs hH hE
omit hH hE in
theorem ixA_ok {u a : AV} {t n : Nat} {x i : Operand} {k : IntKind} (hx : VR e u (ρ x)) (hi : ρ i = .int k (n : Int)) (hq : (ixA P t).run u n = some a) : Ans P e ρ w (.indexAddr t x i) a := by
 unfold ixA at hq
 split at hq
 ·
  rename_i m el hu
  split at hq
  ·
   rename_i z hz
   simp only at hq
   split at hq
   ·
    rename_i b o
    cases hb : Nat.blt n m with
    | false => rw [hb] at hq; cases hq
    | true =>
     rw [hb] at hq
     obtain rfl := Option.some.inj hq
     have hlt : n < m := by simpa [Nat.blt_eq] using hb
     obtain ⟨r, s, he, hx⟩ := hx
     refine ⟨.pointer (some ⟨r, o + n * z, none⟩), ⟨r, s, he, rfl⟩, fun d T p af g => ?_⟩
     obtain ⟨inf, hinf, hsz⟩ := tsz_info hz
     simp [execOp, hx, hi, Instr.indexAt, Instr.sureAddr, asIntOf, run_underlying hu, sizeOf, typeInfo, hinf, hsz, program, Sem.run, hlt, Addr.add_eq]
   cases hq
  cases hq
 ·
  rename_i el hu
  split at hq
  ·
   rename_i z hz
   simp only at hq
   split at hq
   ·
    rename_i b o m c z'
    cases hb : Nat.blt n m with
    | false => rw [hb] at hq; cases hq
    | true =>
     rw [hb] at hq
     obtain rfl := Option.some.inj hq
     have hlt : n < m := by simpa [Nat.blt_eq] using hb
     obtain ⟨r, s, cap, he, hx, -⟩ := sl_shape hx
     refine ⟨.pointer (some ⟨r, o + n * z, none⟩), ⟨r, s, he, rfl⟩, fun d T p af g => ?_⟩
     obtain ⟨inf, hinf, hsz⟩ := tsz_info hz
     simp [execOp, hx, hi, Instr.indexAt, asIntOf, run_underlying hu, sizeOf, typeInfo, hinf, hsz, program, Sem.run, hlt, Addr.add_eq]
   cases hq
  cases hq
 cases hq
omit hH hE in
theorem ix_ok {u a : AV} {t n : Nat} {x i : Operand} {k : IntKind} (hx : VR e u (ρ x)) (hi : ρ i = .int k (n : Int)) (hq : (ix P t).run u n = some a) : Ans P e ρ w (.index t x i) a := by
 unfold ix at hq
 split at hq
 ·
  rename_i m el hu
  split at hq
  ·
   rename_i z hz
   simp only at hq
   split at hq
   ·
    rename_i l
    cases hb : Nat.blt n m with
    | false => rw [hb] at hq; cases hq
    | true =>
     rw [hb] at hq
     have hlt : n < m := by simpa [Nat.blt_eq] using hb
     obtain ⟨cs, hx, hl⟩ := hx
     obtain ⟨v, h1, h2⟩ := rd_part (P := P) (w := w) (show (rd P el).run l (Nat.mul n z) = some a from hq) hl
     refine ⟨v, h1, fun d T p af g => ?_⟩
     have h2' : (part el cs.toArray (n * z)).run P w = .ok v w := h2
     simp [execOp, hx, hi, Instr.index, asIntOf, run_underlying hu, run_tsz hz, hlt, h2']
   cases hq
  cases hq
 ·
  rename_i hu
  simp only at hq
  split at hq
  ·
   rename_i l
   split at hq
   ·
    rename_i c hc
    obtain rfl := Option.some.inj hq
    obtain ⟨s, hx, rfl⟩ := hx
    rw [nth_eq, List.getElem?_map] at hc
    cases hsn : s[n]? with
    | none => rw [hsn] at hc; cases hc
    | some b =>
     rw [hsn] at hc
     obtain rfl := Option.some.inj hc
     exact ans hs (.int .u8 (b.toNat : Int)) rfl [x, i] fun T F hF => v_ixT (I := (n : Int)) hu (by rw [hF x (by simp), hx]) (by rw [hF i (by simp), hi]) (by omega) (by simpa using hsn)
   cases hq
  cases hq
 cases hq
theorem slc_ok {u a : AV} {t : Nat} {x : Operand} {lo hi mx : Option Operand} (hx : VR e u (ρ x)) (hq : (slc ev P t lo hi mx).run h r u = some a) : Ans P e ρ w (.slice t x lo hi mx) a := by
 unfold slc at hq
 split at hq
 ·
  rename_i hu
  split at hq
  ·
   simp only at hq
   split at hq
   ·
    rename_i l
    split at hq
    ·
     rename_i x0 h1
     split at hq
     ·
      rename_i y0 h2
      cases hb : (Nat.ble x0 y0 && Nat.ble y0 (ln l)) with
      | false => rw [hb] at hq; cases hq
      | true =>
       rw [hb] at hq
       simp only [cond_true] at hq
       split at hq
       ·
        rename_i q hseg
        obtain rfl := Option.some.inj hq
        obtain ⟨s, hx, rfl⟩ := hx
        obtain ⟨c1, c2⟩ := and_t hb
        have hle := Nat.le_of_ble_eq_true c1
        have hle2 := Nat.le_of_ble_eq_true c2
        obtain ⟨g1, rfl⟩ := seg_eq hseg
        have b1 := bnd_ok hE h1
        have b2 := bnd_ok hE h2
        rw [ln_eq, List.length_map] at b2 hle2
        have hrun := run_bounds (P := P) (w := w) (isS := false) (cap := s.length) (mx := none) b1 b2 rfl (by simp) hle hle2 (Nat.le_refl _)
        refine ⟨.string (str ((s.drop x0).take (y0 - x0))), ⟨_, rfl, by simp [List.map_drop, List.map_take]⟩, fun d T p af g => ?_⟩
        have e1 : (str s).extract x0 y0 = str ((s.drop x0).take (y0 - x0)) := by rw [str_extract, List.drop_take]
        simp [execOp, hx, Instr.sliceAt, Instr.slice, run_underlying hu, str_size, hrun, e1]
       cases hq
     cases hq
    cases hq
   cases hq
  cases hq
 ·
  rename_i el hu
  split at hq
  ·
   rename_i z hz
   obtain ⟨inf, hinf, hsz⟩ := tsz_info hz
   simp only at hq
   split at hq
   ·
    split at hq
    ·
     split at hq
     ·
      rename_i h1
      split at hq
      ·
       rename_i h2
       obtain rfl := Option.some.inj hq
       have b1 := bnd_ok hE h1
       have b2 := bnd_ok hE h2
       have hx' : ρ x = .slice none 0 0 := hx
       have hrun := run_bounds (P := P) (w := w) (isS := true) (cap := 0) (mx := none) b1 b2 rfl (by simp) (Nat.le_refl _) (Nat.le_refl _) (Nat.le_refl _)
       refine ⟨.slice none 0 0, rfl, fun d T p af g => ?_⟩
       simp [execOp, hx', Instr.sliceAt, Instr.slice, run_underlying hu, hrun, sizeOf, typeInfo, hinf, program, Sem.run]
      cases hq
     cases hq
    cases hq
   ·
    rename_i b o n c z'
    cases hb : Nat.beq (Nat.succ z) z' with
    | false => rw [hb] at hq; cases hq
    | true =>
     rw [hb] at hq
     simp only [cond_true] at hq
     obtain rfl := Nat.eq_of_beq_eq_true hb
     obtain ⟨r0, s0, cap, he, hx, k1, k2⟩ := sl_shape hx
     split at hq
     ·
      rename_i x0 h1
      split at hq
      ·
       rename_i y0 h2
       have b1 := bnd_ok hE h1
       have b2 := bnd_ok hE h2
       -- the model's answer, once the bound m is known
       have go : ∀ (m : Nat) (a' : AV), BR (mx.map ρ) cap m → (mx.isSome = true → hi.isSome = true) → x0 ≤ y0 → y0 ≤ m → m ≤ cap → VR e a' (.slice (if m = x0 then some ⟨r0, o, none⟩ else some ⟨r0, o + x0 * (z + 1), none⟩) (y0 - x0) (m - x0)) → Ans P e ρ w (.slice t x lo hi mx) a' := by
        intro m a' b3 hmh h4 h5 h6 hv
        have hrun := run_bounds (P := P) (w := w) (isS := true) b1 b2 b3 (by simpa using hmh) h4 h5 h6
        refine ⟨_, hv, fun d T p af g => ?_⟩
        simp only [execOp, hx, Instr.sliceAt]
        simp [Instr.slice, run_underlying hu, hrun, sizeOf, typeInfo, hinf, hsz, program, Sem.run, Addr.add_eq]
       have offV : ∀ m : Nat, (if m = x0 then some (⟨r0, o, none⟩ : Addr) else some ⟨r0, o + x0 * (z + 1), none⟩) = some ⟨r0, off o x0 m (Nat.succ z), none⟩ := by
        intro m
        unfold off
        cases hc : Nat.beq x0 m with
        | true => rw [if_pos (Nat.eq_of_beq_eq_true hc).symm]; rfl
        | false => rw [if_neg (fun hh => by subst hh; simp at hc)]; rfl
       have part : ∀ (mo : Option Nat), slP h (Nat.succ z) b o n c x0 y0 mo = some a → (mo = none → mx = none) → (∀ m, mo = some m → BR (mx.map ρ) cap m ∧ (mx.isSome = true → hi.isSome = true)) → Ans P e ρ w (.slice t x lo hi mx) a := by
        intro mo hsl hm0 hm1
        unfold slP at hsl
        cases hxy : Nat.ble x0 y0 with
        | false => rw [hxy] at hsl; cases hsl
        | true =>
         rw [hxy] at hsl
         simp only [cond_true] at hsl
         have hle := Nat.le_of_ble_eq_true hxy
         split at hsl
         · rename_i c
           obtain rfl := k1 c rfl
           cases hb : Nat.ble y0 cap with
           | false => rw [hb] at hsl; cases hsl
           | true =>
            rw [hb] at hsl
            obtain rfl := Option.some.inj hsl
            have hm := hm0 rfl
            subst hm
            exact go cap _ rfl (by simp) hle (Nat.le_of_ble_eq_true hb) (Nat.le_refl _) (by rw [offV]; exact ⟨r0, s0, he, rfl⟩)
         · rename_i c m
           obtain rfl := k1 c rfl
           cases hb : (Nat.ble y0 m && Nat.ble m cap) with
           | false => rw [hb] at hsl; cases hsl
           | true =>
            rw [hb] at hsl
            obtain rfl := Option.some.inj hsl
            obtain ⟨c1, c2⟩ := and_t hb
            obtain ⟨b3, hmh⟩ := hm1 m rfl
            exact go m _ b3 hmh hle (Nat.le_of_ble_eq_true c1) (Nat.le_of_ble_eq_true c2) (by rw [offV]; exact ⟨r0, s0, he, rfl⟩)
         ·
          obtain ⟨k3, k4, k5⟩ := k2 rfl
          cases hb : (Nat.ble (Nat.add o (Nat.mul y0 (Nat.succ z))) (known h b) && Nat.ble (Nat.add o (Nat.mul (Nat.succ x0) (Nat.succ z))) (known h b)) with
          | false =>
           rw [hb] at hsl
           simp only [cond_false] at hsl
           cases hb2 : (Nat.ble (Nat.add o (Nat.mul y0 (Nat.succ z))) (known h b) && Nat.beq x0 y0) with
           | false => rw [hb2] at hsl; cases hsl
           | true =>
            rw [hb2] at hsl
            obtain rfl := Option.some.inj hsl
            obtain ⟨c1, c2⟩ := and_t hb2
            obtain rfl := Nat.eq_of_beq_eq_true c2
            have c1' : o + x0 * (z + 1) ≤ known h b := Nat.le_of_ble_eq_true c1
            have hyc : x0 ≤ cap := by rw [k4]; exact le_div k3 c1' (known_le hH he)
            have hm := hm0 rfl
            subst hm
            refine go cap .emp rfl (by simp) hle hyc (Nat.le_refl _) ?_
            rw [offV, Nat.sub_self]
            exact ⟨_, _, rfl⟩
          | true =>
           rw [hb] at hsl
           obtain rfl := Option.some.inj hsl
           obtain ⟨c1, c2⟩ := and_t hb
           have hkn := known_le hH he
           have c1' : o + y0 * (z + 1) ≤ known h b := Nat.le_of_ble_eq_true c1
           have c2' : o + (x0 + 1) * (z + 1) ≤ known h b := Nat.le_of_ble_eq_true c2
           have hyc : y0 ≤ cap := by rw [k4]; exact le_div k3 c1' hkn
           have hxc : x0 + 1 ≤ cap := by rw [k4]; exact le_div k3 c2' hkn
           have hm := hm0 rfl
           subst hm
           refine go cap _ rfl (by simp) hle hyc (Nat.le_refl _) ?_
           rw [if_neg (by omega)]
           have ed : (s0 - (o + x0 * (z + 1))) / (z + 1) = cap - x0 := by rw [k4, ← Nat.sub_sub, Nat.mul_comm x0, Nat.sub_mul_div]
           have ed' : (s0 - Nat.add o (Nat.mul x0 (Nat.succ z))) / Nat.succ z = cap - x0 := ed
           refine ⟨r0, s0, he, k3, ?_, ?_⟩
           · rw [ed']; omega
           rw [ed']; rfl
         rename_i m
         obtain ⟨k3, k4, k5⟩ := k2 rfl
         cases hb : (Nat.ble (Nat.add o (Nat.mul m (Nat.succ z))) (known h b) && Nat.ble y0 m) with
         | false => rw [hb] at hsl; cases hsl
         | true =>
          rw [hb] at hsl
          obtain rfl := Option.some.inj hsl
          obtain ⟨c1, c2⟩ := and_t hb
          have hkn := known_le hH he
          have c1' : o + m * (z + 1) ≤ known h b := Nat.le_of_ble_eq_true c1
          have hmc : m ≤ cap := by rw [k4]; exact le_div k3 c1' hkn
          obtain ⟨b3, hmh⟩ := hm1 m rfl
          exact go m _ b3 hmh hle (Nat.le_of_ble_eq_true c2) hmc (by rw [offV]; exact ⟨r0, s0, he, rfl⟩)
       split at hq
       · exact part none hq (fun _ => rfl) (fun m hm => by cases hm)
       split at hq
       ·
        split at hq
        · rename_i m hm
          exact part (some m) hq (fun hh => by cases hh) (fun m' hm' => by
           obtain rfl := Option.some.inj hm'
           have := bnd_ok hE hm
           exact ⟨this, fun _ => rfl⟩)
        cases hq
       cases hq
      cases hq
     cases hq
   cases hq
  cases hq
 ·
  rename_i n el hu
  split at hq
  ·
   rename_i z hz
   obtain ⟨inf, hinf, hsz⟩ := tsz_info hz
   simp only at hq
   split at hq
   ·
    rename_i b o
    split at hq
    ·
     rename_i x0 h1
     split at hq
     ·
      rename_i y0 h2
      cases hb : (Nat.ble x0 y0 && Nat.ble y0 n) with
      | false => rw [hb] at hq; cases hq
      | true =>
       rw [hb] at hq
       obtain rfl := Option.some.inj hq
       obtain ⟨c1, c2⟩ := and_t hb
       have b1 := bnd_ok hE h1
       have b2 := bnd_ok hE h2
       obtain ⟨r0, s0, he, hx⟩ := hx
       have hrun := run_bounds (P := P) (w := w) (isS := false) (mx := none) b1 b2 rfl (by simp) (Nat.le_of_ble_eq_true c1) (Nat.le_of_ble_eq_true c2) (Nat.le_refl _)
       have offV : (if n = x0 then (⟨r0, o, none⟩ : Addr) else ⟨r0, o + x0 * (z + 1), none⟩) = ⟨r0, off o x0 n (Nat.succ z), none⟩ := by
        unfold off
        cases hc : Nat.beq x0 n with
        | true => rw [if_pos (Nat.eq_of_beq_eq_true hc).symm]; rfl
        | false => rw [if_neg (fun hh => by subst hh; simp at hc)]; rfl
       refine ⟨.slice (some ⟨r0, off o x0 n (Nat.succ z), none⟩) (y0 - x0) (n - x0), ⟨r0, s0, he, rfl⟩, fun d T p af g => ?_⟩
       rw [← offV]
       simp only [execOp, hx, Instr.sliceAt]
       simp [run_underlying hu, Instr.sureAddr, hrun, sizeOf, typeInfo, hinf, hsz, program, Sem.run, Addr.add_eq]
     cases hq
    cases hq
   cases hq
  cases hq
 cases hq
end
end Go.Iv
/- The interpreter's maps and lengths; the law of all operations that leave the heap as it is. No program in sight. -/
namespace Go.Iv
open Go Go.Gam
theorem EntR.length {e : Env} : ∀ {l : List (AV × AV)} {ms : List MapEntry}, EntR e l ms → ms.length = l.length
 | [], ms, h => by rw [show ms = [] from h]; simp
 | (k, v) :: l, ms, ⟨m, r, h1, _, _, h4⟩ => by rw [h1]; simp [EntR.length h4]
def qv (q : Option (Nat × Value)) (z : Value) : Value := match q with | some p => p.2 | none => z
section
variable {P : Program} {e : Env} {ρ : Operand → Value} {w : World} {h : AH} {R : Type} {ev : Ev R} {r : R} (hs : Std ρ) (hH : HR e h w) (hE : EvOK e ev r ρ)
include hs hH
theorem ents_ok {u : AV} {l : List (AV × AV)} {U : Value} (hU : VR e u U) (hq : ents h u = some l) : ∃ es : Array MapEntry, EntR e l es.toList ∧ ((U = .map none ∧ es = #[]) ∨ ∃ r n, U = .map (some r) ∧ w.heap[r]? = some (.map es n)) := by
 unfold ents at hq
 split at hq
 · obtain rfl := Option.some.inj hq
   exact ⟨#[], rfl, .inl ⟨hU, rfl⟩⟩
 ·
  rename_i b
  split at hq
  ·
   rename_i l' hb
   obtain rfl := Option.some.inj hq
   obtain ⟨r, s, he, hU⟩ := hU
   obtain ⟨es, n, h1, h2⟩ := hH.obj b _ hb r s he
   exact ⟨es, h2, .inr ⟨r, n, hU, h1⟩⟩
  cases hq
 cases hq
theorem lkp_ok {u k a : AV} {t : Nat} {x y : Operand} {ok : Bool} (hx : VR e u (ρ x)) (hy : VR e k (ρ y)) (hq : lkp P h t u k ok = some a) : Ans P e ρ w (.lookup t x y ok) a := by
 unfold lkp at hq
 split at hq
 ·
  rename_i kt et hu
  cases hk : keyT (P.underlying kt) k with
  | false => rw [hk] at hq; cases hq
  | true =>
   rw [hk] at hq
   simp only [cond_true] at hq
   split at hq
   ·
    rename_i l hl
    obtain ⟨es, hes, hU⟩ := ents_ok hs hH hx hl
    obtain ⟨kd, hkd⟩ := keyT_some hk
    have hfin : ∀ (q : Option (Nat × Value)) (z : Value), Instr.findNow kd (ρ y) es.toList 0 = some q → (zeroValue et).run P w = .ok z w → ∀ d T p af g, (execOp ρ ⟨d, .lookup t x y ok, T, p, af, g⟩).run P w = .ok (.value (if ok then .tuple #[qv q z, .bool q.isSome] else qv q z)) w := by
     intro q z hf hz d T p af g
     have hcheck : ∀ b, (Instr.checkKey b 10000 kt (ρ y)).run P w = .ok () w := fun b => run_checkKey hy hk b 9999
     have hrest : (Instr.findKey kt (ρ y) es.toList).run P w = .ok q w := by simp [Instr.findKey, run_underlying hkd, hf]
     have hall : (Instr.lookup t (ρ x) (ρ y) ok).run P w = .ok (if ok then .tuple #[qv q z, .bool q.isSome] else qv q z) w := by
      unfold Instr.lookup
      rcases hU with ⟨hU, rfl⟩ | ⟨r, n, hU, hr⟩
      · have hc := hcheck true
        have hr2 : (Instr.findKey kt (ρ y) []).run P w = .ok q w := hrest
        cases q with
        | none => simp [run_underlying hu, hU, hc, hr2, hz, qv]
        | some p => simp [run_underlying hu, hU, hc, hr2, qv]
      cases q with
      | none => simp [run_underlying hu, hU, getObj, Sem.run, hr, hcheck, hrest, hz, qv]
      | some p => simp [run_underlying hu, hU, getObj, Sem.run, hr, hcheck, hrest, qv]
     simp [execOp, hall]
    split at hq
    ·
     rename_i v z hf hz
     obtain rfl := Option.some.inj hq
     obtain ⟨q, h1, h2⟩ := run_find kd kt hkd hy (by rw [← hkd]; exact hk) 0 hes hf
     obtain ⟨zv, -, hzr, -⟩ := run_zro (P := P) (w := w) (e := e) hz
     cases q with
     | none => exact h2.elim
     | some p =>
      obtain ⟨i, v'⟩ := p
      refine ⟨_, ?_, hfin _ zv h1 hzr⟩
      cases ok with
      | true => exact ⟨[v', .bool true], rfl, VRL.cons h2 (VRL.cons rfl VRL.nil)⟩
      | false => exact h2
    ·
     rename_i z hf hz
     obtain rfl := Option.some.inj hq
     obtain ⟨q, h1, h2⟩ := run_find kd kt hkd hy (by rw [← hkd]; exact hk) 0 hes hf
     obtain ⟨zv, hzv, hzr, -⟩ := run_zro (P := P) (w := w) (e := e) hz
     cases q with
     | some p => exact h2.elim
     | none =>
      refine ⟨_, ?_, hfin _ zv h1 hzr⟩
      cases ok with
      | true => exact ⟨[zv, .bool false], rfl, VRL.cons hzv (VRL.cons rfl VRL.nil)⟩
      | false => exact hzv
    cases hq
   cases hq
 cases hq
theorem len_ok {u a : AV} {t : Nat} {x : Operand} {ats : Array TypeId} (hat : ats[0]? = some t) (hx : VR e u (ρ x)) (hq : (len P t).run h u = some a) : Ans P e ρ w (.call ⟨.builtin .len, #[x], ats⟩) a := by
 have key : ∀ n : Nat, a = .int .i64 (n : Int) → (∀ T, (Builtin.len_ ats T #[ρ x]).run P w = .ok (.int .i64 (n : Int)) w) → Ans P e ρ w (.call ⟨.builtin .len, #[x], ats⟩) a := by
  intro n ha hr
  subst ha
  refine ⟨_, rfl, fun d T p af g => ?_⟩
  simp [execOp, resolve, invoke, builtin, hr]
 unfold len at hq
 split at hq
 ·
  rename_i hu
  simp only at hq
  split at hq
  ·
   rename_i l
   obtain ⟨s, hx, rfl⟩ := hx
   refine key s.length (by rw [mkN_eq hq, ln_eq, List.length_map]) fun T => ?_
   simp [Builtin.len_, hat, hx, run_underlying hu, str_size, goInt]
  cases hq
 ·
  rename_i el hu
  simp only at hq
  split at hq
  · have hx' : ρ x = .slice none 0 0 := hx
    exact key 0 (mkN_eq hq) fun T => by simp [Builtin.len_, hat, hx', run_underlying hu, goInt]
  · rename_i b o n c z
    obtain ⟨r, s, cap, he, hx, -⟩ := sl_shape hx
    exact key n (mkN_eq hq) fun T => by simp [Builtin.len_, hat, hx, run_underlying hu, goInt]
  · obtain ⟨a0, c0, hx⟩ := hx
    exact key 0 (mkN_eq hq) fun T => by simp [Builtin.len_, hat, hx, run_underlying hu, goInt]
  cases hq
 · rename_i n el hu
   exact key n (mkN_eq hq) fun T => by simp [Builtin.len_, hat, run_underlying hu, goInt]
 ·
  rename_i k el hu
  simp only at hq
  split at hq
  ·
   rename_i l hl
   obtain ⟨es, hes, hU⟩ := ents_ok hs hH hx hl
   have hln : es.size = l.length := by have := hes.length; simpa using this
   refine key l.length (by rw [mkN_eq hq, ln_eq]) fun T => ?_
   rcases hU with ⟨hU, rfl⟩ | ⟨r, n, hU, hr⟩
   · have h0 : l.length = 0 := by simpa using hln.symm
     simp [Builtin.len_, hat, hU, run_underlying hu, goInt, h0]
   simp [Builtin.len_, hat, hU, run_underlying hu, goInt, getObj, Sem.run, hr, hln]
  cases hq
 cases hq
include hE
theorem qop_ok {o : Op} {a : AV} (hq : (qop ev P o).run h r = some a) : Ans P e ρ w o a := by
 have one : ∀ {x : Operand} {u : AV}, (ev x).run r = some u → VR e u (ρ x) := fun h => hE _ _ h
 unfold qop at hq
 split at hq
 ·
  rename_i x
  have hx := one hq
  exact ans hs _ hx [x] fun T F hF => v_move (hF x (by simp))
 ·
  rename_i x
  have hx := one hq
  exact ans hs _ hx [x] fun T F hF => v_assign (hF x (by simp))
 ·
  rename_i c x y
  simp only at hq
  split at hq
  ·
   rename_i b hc
   have hc := one hc
   cases b with
   | true =>
    have hx := one hq
    exact ans hs _ hx [c, x] fun T F hF => v_pickT (by rw [hF c (by simp)]; exact congrArg some hc) (hF x (by simp))
   | false =>
    have hx := one hq
    exact ans hs _ hx [c, y] fun T F hF => v_pickF (by rw [hF c (by simp)]; exact congrArg some hc) (hF y (by simp))
  cases hq
 ·
  rename_i x
  simp only at hq
  split at hq
  ·
   rename_i b o hx
   obtain rfl := Option.some.inj hq
   obtain ⟨r0, s0, he, hx⟩ := one hx
   exact ans hs _ ⟨r0, s0, he, rfl⟩ [x] fun T F hF => v_nil (by rw [hF x (by simp), hx])
  cases hq
 ·
  rename_i x i
  simp only at hq
  split at hq
  ·
   rename_i l hx
   obtain ⟨cs, hx, hl⟩ := one hx
   rw [nth_eq] at hq
   obtain ⟨v, h1, h2⟩ := hl.get hq
   exact ans hs v h2 [x] fun T F hF => v_ext (vs := cs) (by rw [hF x (by simp), hx]) (by rw [Gam.nth_eq]; exact h1)
  cases hq
 ·
  rename_i op t x y s
  simp only at hq
  split at hq
  ·
   rename_i u hx
   split at hq
   · rename_i v hy
     exact bin_ok hs hH (one hx) (one hy) hq
   cases hq
  cases hq
 ·
  rename_i op t x
  simp only at hq
  split at hq
  · rename_i u hx
    exact un_ok hs (one hx) hq
  cases hq
 ·
  rename_i s t x
  simp only at hq
  split at hq
  · rename_i u hx
    exact conv_ok hs hH (one hx) hq
  cases hq
 ·
  rename_i f fst cap
  simp only at hq
  split at hq
  ·
   rename_i l1 h1
   split at hq
   ·
    rename_i l2 h2
    obtain rfl := Option.some.inj hq
    refine ⟨.func (.func f) (fst.toList.map ρ).toArray (cap.toList.map ρ).toArray, ⟨_, _, rfl, evl_ok hE h1, evl_ok hE h2⟩, fun d T p af g => ?_⟩
    have e1 : fst.map ρ = (fst.toList.map ρ).toArray := by apply Array.toList_inj.1; simp
    have e2 : cap.map ρ = (cap.toList.map ρ).toArray := by apply Array.toList_inj.1; simp
    simp only [execOp, Instr.makeFunc, e1, e2]
    simp
   cases hq
  cases hq
 ·
  rename_i t x
  simp only at hq
  split at hq
  ·
   rename_i b o hx
   split at hq
   ·
    rename_i l ro hb
    obtain ⟨r0, s0, he, hx⟩ := one hx
    obtain ⟨cs, h1, h2, -⟩ := row_cells hH hb he
    obtain ⟨v, h3, h4⟩ := rd_ok (P := P) hq h1 h2
    refine ⟨v, h3, fun d T p af g => ?_⟩
    simp [execOp, hx, Instr.loadAt, Instr.sureAddr, h4]
   cases hq
  cases hq
 ·
  rename_i t x f
  split at hq
  ·
   rename_i d ft hf
   split at hq
   ·
    rename_i z hz
    simp only at hq
    split at hq
    ·
     rename_i b o hx
     obtain rfl := Option.some.inj hq
     obtain ⟨r0, s0, he, hx⟩ := one hx
     unfold fld at hf
     split at hf
     ·
      rename_i fs hu
      split at hf
      · rename_i fd hfd
        obtain ⟨rfl, rfl⟩ := Prod.mk.inj (Option.some.inj hf)
        obtain ⟨inf, hinf, hsz⟩ := tsz_info hz
        exact ans hs _ ⟨r0, s0, he, rfl⟩ [x] fun T F hF => v_fieldAddr ⟨fs, fd, inf, hu, hfd, hinf, by omega, rfl⟩ (by rw [hF x (by simp), hx])
      cases hf
     cases hf
    cases hq
   cases hq
  cases hq
 ·
  rename_i t x f
  split at hq
  ·
   rename_i d ft hf
   simp only at hq
   split at hq
   ·
    rename_i l hx
    obtain ⟨cs, hx, hl⟩ := one hx
    obtain ⟨v, h1, h2⟩ := rd_part (P := P) (w := w) hq hl
    unfold fld at hf
    split at hf
    ·
     rename_i fs hu
     split at hf
     · rename_i fd hfd
       obtain ⟨rfl, rfl⟩ := Prod.mk.inj (Option.some.inj hf)
       refine ⟨v, h1, fun d T p af g => ?_⟩
       simp [execOp, hx, Instr.field, run_underlying hu, hfd, asAgg, h2]
     cases hf
    cases hf
   cases hq
  cases hq
 ·
  rename_i t x i
  simp only at hq
  split at hq
  ·
   rename_i u hx
   split at hq
   ·
    rename_i v hy
    split at hq
    · rename_i n hn
      obtain ⟨k, hi⟩ := idx_ok (one hy) hn
      exact ixA_ok hs (one hx) hi hq
    cases hq
   cases hq
  cases hq
 ·
  rename_i t x i
  simp only at hq
  split at hq
  ·
   rename_i u hx
   split at hq
   ·
    rename_i v hy
    split at hq
    · rename_i n hn
      obtain ⟨k, hi⟩ := idx_ok (one hy) hn
      exact ix_ok hs (one hx) hi hq
    cases hq
   cases hq
  cases hq
 ·
  rename_i t x lo hi mx
  simp only at hq
  split at hq
  · rename_i u hx
    exact slc_ok hs hH hE (one hx) hq
  cases hq
 ·
  rename_i t x k ok
  simp only at hq
  split at hq
  ·
   rename_i u hx
   split at hq
   · rename_i v hy
     exact lkp_ok hs hH (one hx) (one hy) hq
   cases hq
  cases hq
 ·
  rename_i t parts
  cases hpl : plOk P t with
  | false => rw [hpl] at hq; cases hq
  | true =>
  rw [hpl] at hq
  simp only [cond_true] at hq
  split at hq
  ·
   rename_i z hz
   simp only at hq
   split at hq
   ·
    rename_i ps hps
    split at hq
    ·
     rename_i cs hcs
     obtain rfl := Option.some.inj hq
     obtain ⟨zv, hzv, -, inf, hinf, hiz⟩ := run_zro (P := P) (w := w) (e := e) hz
     have hpr := evp_ok hE hps
     have key : ∃ B : Array Value, P.built t (parts.toList.map fun (i, x) => (i, ρ x)) = some B ∧ VRL e cs B.toList := by
      unfold plOk at hpl
      unfold places at hcs
      unfold Program.built
      rw [hinf]
      split at hpl
      ·
       rename_i fs hu
       rw [hu] at hcs ⊢
       simp only [hiz] at hcs ⊢
       split at hpl
       · rename_i l hl
         rw [hl] at hcs ⊢
         exact fill_ok (pl := ⟨fun i => nth l i⟩) (fun i x hx => by simp only [nth_eq] at hx; simpa using hx) hpr (VRL.cells hzv) hcs
       cases hpl
      ·
       rename_i n el hu
       rw [hu] at hcs ⊢
       simp only [hiz] at hcs ⊢
       split at hpl
       · rename_i z' hz'
         obtain ⟨ie, hie, hsz⟩ := tsz_info hz'
         rw [hz'] at hcs
         rw [hie]
         simp only [hsz]
         exact fill_ok (pl := ⟨fun i => some (Nat.mul i z', z')⟩) (fun i x hx => hx) hpr (VRL.cells hzv) hcs
       cases hpl
      cases hpl
     obtain ⟨B, hB, hB2⟩ := key
     refine ⟨.agg B, ⟨B.toList, by simp, hB2⟩, fun d T p af g => ?_⟩
     have := run_build (P := P) w t (parts.toList.map fun (i, x) => (i, ρ x)).toArray B (by simpa using hB)
     have e1 : (parts.map fun (i, x) => (i, ρ x)) = (parts.toList.map fun (i, x) => (i, ρ x)).toArray := by apply Array.toList_inj.1; simp
     simp only [execOp, e1]
     simp [this]
    cases hq
   cases hq
  cases hq
 ·
  rename_i args ats
  split at hq
  ·
   rename_i x t l hargs hats
   simp only at hq
   split at hq
   · rename_i u hx
     have e1 : args = #[x] := by rw [← Array.toArray_toList (xs := args), hargs]
     subst e1
     exact len_ok hs hH (by rw [← Array.getElem?_toList, hats]; rfl) (one hx) hq
   cases hq
  cases hq
 ·
  rename_i args ats
  split at hq
  ·
   rename_i x t l hargs hats
   split at hq
   ·
    rename_i el hu
    simp only at hq
    split at hq
    ·
     rename_i u hx
     have e1 : args = #[x] := by rw [← Array.toArray_toList (xs := args), hargs]
     subst e1
     have hat : ats[0]? = some t := by rw [← Array.getElem?_toList, hats]; rfl
     have hv := one hx
     clear hx
     unfold capv at hq
     split at hq
     · have hx' : ρ x = .slice none 0 0 := hv
       rw [mkN_eq hq]
       exact ⟨_, rfl, fun d T p af g => by simp [execOp, resolve, invoke, builtin, Builtin.cap_, hat, hx', run_underlying hu, goInt]⟩
     · rename_i b o n c z
       obtain ⟨r0, s0, cap, he, hx, k1, -⟩ := sl_shape hv
       obtain rfl := k1 c rfl
       rw [mkN_eq hq]
       exact ⟨_, rfl, fun d T p af g => by simp [execOp, resolve, invoke, builtin, Builtin.cap_, hat, hx, run_underlying hu, goInt]⟩
     · rename_i b o n z
       obtain rfl := Option.some.inj hq
       obtain ⟨r0, s0, he, h3, h4, h5⟩ := hv
       exact ⟨.int .i64 (((s0 - o) / z - 0 : Nat) : Int), ⟨r0, s0, he, h3, h4, rfl⟩, fun d T p af g => by simp [execOp, resolve, invoke, builtin, Builtin.cap_, hat, h5, run_underlying hu, goInt]⟩
     cases hq
    cases hq
   cases hq
  cases hq
 ·
  rename_i args ats
  simp only at hq
  split at hq
  ·
   rename_i a1 b1 hl
   have hv := evl_ok hE hl
   have e1 : args.map ρ = #[.int .i64 a1, .int .i64 b1] := by
    apply Array.toList_inj.1
    obtain ⟨v1, r1, q1, q2, v2, r2, q3, q4, q5⟩ := hv
    rw [Array.toList_map, q1, q3, show v1 = _ from q2, show v2 = _ from q4, show r2 = [] from q5]
   rw [mkI_eq hq]
   refine ⟨_, rfl, fun d T p af g => ?_⟩
   have e2 : (bif ilt a1 b1 then b1 else a1) = (if b1 > a1 then b1 else a1) := by
    rw [ilt_eq]
    by_cases hh : a1 < b1 <;> simp [hh]
   rw [e2]
   simp [execOp, resolve, invoke, builtin, Builtin.max_, Builtin.max2, e1]
  cases hq
 ·
  rename_i args ats
  simp only at hq
  split at hq
  ·
   rename_i a1 b1 hl
   have hv := evl_ok hE hl
   have e1 : args.map ρ = #[.int .i64 a1, .int .i64 b1] := by
    apply Array.toList_inj.1
    obtain ⟨v1, r1, q1, q2, v2, r2, q3, q4, q5⟩ := hv
    rw [Array.toList_map, q1, q3, show v1 = _ from q2, show v2 = _ from q4, show r2 = [] from q5]
   rw [mkI_eq hq]
   refine ⟨_, rfl, fun d T p af g => ?_⟩
   have e2 : (bif ilt b1 a1 then b1 else a1) = (if b1 < a1 then b1 else a1) := by
    rw [ilt_eq]
    by_cases hh : b1 < a1 <;> simp [hh]
   rw [e2]
   simp [execOp, resolve, invoke, builtin, Builtin.min_, Builtin.min2, e1]
  cases hq
 cases hq
end
end Go.Iv
/- The interpreter's operations that make a block: the model makes one like it. No program in sight. -/
namespace Go.Iv
open Go Go.Gam
structure New (w w' : World) (o : Obj) : Prop where
 size : w'.heap.size = w.heap.size + 1
 old : ∀ k, k < w.heap.size → w'.heap[k]? = w.heap[k]?
 new : w'.heap[w.heap.size]? = some o
 os : w'.os = w.os
 tape : w'.tape = w.tape
 output : w'.output = w.output
 ty : ∀ c t fz, o = .cells c t fz → t ≠ fT
theorem cty {c : Array Value} {t : TypeId} {fz : Nat × Nat} (h : t ≠ fT) : ∀ c' t' fz', Obj.cells c t fz = .cells c' t' fz' → t' ≠ fT := fun _ _ _ e => by cases e; exact h
theorem nft {t : Nat} (h : Nat.beq t fT = false) : t ≠ fT := fun e => by rw [e, Nat.beq_refl] at h; cases h
theorem nft' {t : Nat} (h : (!Nat.beq t fT) = true) : t ≠ fT := nft (by simpa using h)
theorem new_alloc (w : World) (o : Obj) (ht : ∀ c t fz, o = .cells c t fz → t ≠ fT) : New w (w.alloc o) o := by
 have e : (w.alloc o).heap = w.heap.push o := rfl
 refine ⟨by rw [e]; simp, fun k hk => ?_, by rw [e]; simp, rfl, rfl, rfl, ht⟩
 rw [e, Array.getElem?_push, if_neg (by omega)]
theorem new_drew (w : World) (o : Obj) (ht : ∀ c t fz, o = .cells c t fz → t ≠ fT) : New w (w.drew.alloc o) o := by
 have e : (w.drew.alloc o).heap = w.heap.push o := rfl
 refine ⟨by rw [e]; simp, fun k hk => ?_, by rw [e]; simp, rfl, rfl, rfl, ht⟩
 rw [e, Array.getElem?_push, if_neg (by omega)]
theorem reps_length {α : Type} (l : List α) : ∀ n, (reps l n).length = n * l.length
 | 0 => by simp [reps]
 | n + 1 => by simp [reps, reps_length l n, Nat.add_mul]; omega
theorem reps_get {α : Type} (l : List α) (hl : 0 < l.length) : ∀ n i, i < n * l.length → (reps l n)[i]? = l[i % l.length]?
 | 0, i, h => by omega
 | n + 1, i, h => by
  simp only [reps]
  rw [List.getElem?_append]
  by_cases hi : i < l.length
  · rw [if_pos hi, Nat.mod_eq_of_lt hi]
  rw [if_neg hi, reps_get l hl n (i - l.length) (by rw [Nat.add_mul] at h; omega)]
  congr 1
  rw [← Nat.mod_eq_sub_mod (by omega)]
theorem VRL.reps {e : Env} {l : List AV} {vs : List Value} (h : VRL e l vs) : ∀ n, VRL e (Iv.reps l n) (Iv.reps vs n)
 | 0 => VRL.nil
 | n + 1 => VRL.append h (VRL.reps h n)
theorem zeros_reps (zc : Array Value) (n : Nat) (h : 0 < zc.size) : ((Array.range (n * zc.size)).map fun i => zc[i % zc.size]!) = (Iv.reps zc.toList n).toArray := by
 apply Array.ext_getElem?
 intro i
 simp only [Array.getElem?_map, List.getElem?_toArray]
 by_cases hi : i < n * zc.size
 ·
  rw [reps_get _ (by simpa using h) n i (by simpa using hi)]
  have h2 : i % zc.size < zc.size := Nat.mod_lt _ h
  simp [hi, h2]
 rw [Array.getElem?_eq_none (by simpa using hi), List.getElem?_eq_none (by rw [reps_length]; simpa using hi)]
 rfl
theorem row_new {e : Env} {l : List AV} {cs : Array Value} {t : TypeId} {ro : Bool} (h : VRL e l cs.toList) : OR e cs.size (.row l ro) (some (.cells cs t (0, 0))) := by
 have hl : cs.size = l.length := by have := h.length; simpa using this
 refine ⟨cs, t, (0, 0), rfl, rfl, by omega, ?_, fun _ => rfl⟩
 rw [← hl, List.take_of_length_le (by simp)]
 exact h
theorem ofBytes_length : ∀ l : List Nat, (ofBytes l).length = l.length
 | [] => rfl
 | _ :: l => by simp [ofBytes, ofBytes_length l]
theorem ofBytes_ok (e : Env) : ∀ q : List UInt8, VRL e (ofBytes (q.map UInt8.toNat)) (q.map fun b => Value.int .u8 b.toNat)
 | [] => VRL.nil
 | b :: q => VRL.cons rfl (ofBytes_ok e q)
theorem bsl_bld {z : Nat} : ∀ {ps : List (Nat × AV)} {l q : List AV}, bsl z ps l = some q → bld ⟨fun i => some (Nat.mul i z, z)⟩ ps l = some q
 | [], l, q, h => h
 | (i, v) :: ps, l, q, h => by
  simp only [bsl] at h
  simp only [bld]
  cases hb : (Nat.beq (ln (cells v)) z && Nat.ble (Nat.add (Nat.mul i z) z) (ln l)) with
  | false => rw [hb] at h; cases h
  | true =>
   rw [hb] at h
   simp only [cond_true] at h ⊢
   split at h
   · exact bsl_bld h
   cases h
section
variable {P : Program} {e : Env} {ρ : Operand → Value} {w : World} {R : Type} {ev : Ev R} {r : R} (hs : Std ρ) (hE : EvOK e ev r ρ)
include hs hE
abbrev Made (P : Program) (e : Env) (ρ : Operand → Value) (w : World) (op : Op) (c : AO) (mk : Mk) : Prop :=
 ∃ v w' o s, New w w' o ∧ OR e s c (some o) ∧ (∀ e' id, e' id = some (w.heap.size, s) → VR e' (mk.av id) v) ∧ ∀ d T p af g, (execOp ρ ⟨d, op, T, p, af, g⟩).run P w = .ok (.value v) w'
theorem nop_ok {o : Op} {c : AO} {mk : Mk} (hq : (nop ev P o).run r = some (c, mk)) : Made P e ρ w o c mk := by
 unfold nop at hq
 split at hq
 ·
  rename_i t
  cases hft : Nat.beq t fT with
  | true => rw [hft] at hq; cases hq
  | false =>
  rw [hft] at hq
  simp only [cond_false] at hq
  split at hq
  ·
   rename_i z hz
   obtain ⟨rfl, rfl⟩ := Prod.mk.inj (Option.some.inj hq)
   obtain ⟨zv, hzv, hzr, -⟩ := run_zro (P := P) (w := w) (e := e) hz
   refine ⟨.pointer (some ⟨w.heap.size, 0, none⟩), w.alloc (.cells zv.cells t), _, _, new_alloc _ _ (cty (nft hft)), row_new (VRL.cells hzv), fun e' id he => ⟨_, _, he, rfl⟩, fun d T p af g => ?_⟩
   simp [execOp, Instr.alloc, hzr, newVar, newRow]
  cases hq
 ·
  rename_i t x
  cases hft : Nat.beq t fT with
  | true => rw [hft] at hq; cases hq
  | false =>
  rw [hft] at hq
  simp only [cond_false] at hq
  split at hq
  ·
   rename_i v hx
   obtain ⟨rfl, rfl⟩ := Prod.mk.inj (Option.some.inj hq)
   refine ⟨.pointer (some ⟨w.heap.size, 0, none⟩), w.alloc (.cells (ρ x).cells t), _, _, new_alloc _ _ (cty (nft hft)), row_new (VRL.cells (hE _ _ hx)), fun e' id he => ⟨_, _, he, rfl⟩, fun d T p af g => ?_⟩
   simp [execOp, Instr.box, newVar, newRow]
  cases hq
 ·
  rename_i t n parts
  split at hq
  ·
   rename_i el hu
   split at hq
   ·
    rename_i z s hz hsz
    cases hb : (Nat.beq (ln (cells z)) s && Nat.blt 0 s && Nat.ble (Nat.mul n s) 16777216 && !Nat.beq el fT) with
    | false => rw [hb] at hq; cases hq
    | true =>
     rw [hb] at hq
     simp only [cond_true] at hq
     obtain ⟨hb, b4⟩ := and_t hb
     obtain ⟨hb, b3⟩ := and_t hb
     obtain ⟨b1, b2⟩ := and_t hb
     have b1' := Nat.eq_of_beq_eq_true b1
     have b2' : 0 < s := (Nat.blt_eq).mp b2
     have b3' : n * s ≤ 16777216 := Nat.le_of_ble_eq_true b3
     split at hq
     ·
      rename_i ps hps
      split at hq
      ·
       rename_i cs hcs
       obtain ⟨rfl, rfl⟩ := Prod.mk.inj (Option.some.inj hq)
       obtain ⟨zv, hzv, hzr, inf, hinf, hiz⟩ := run_zro (P := P) (w := w) (e := e) hz
       obtain ⟨inf', hinf', hsz'⟩ := tsz_info hsz
       have hzs : zv.cells.size = s := by
        have := (VRL.cells hzv).length
        rw [ln_eq] at b1'
        simpa [b1'] using this
       have hrep := VRL.reps (VRL.cells hzv) n
       have hpr := evp_ok hE hps
       obtain ⟨B, hB, hB2⟩ := fill_ok (pl := ⟨fun i => some (Nat.mul i s, s)⟩) (place := fun i => some (i * s, s)) (A := (Iv.reps zv.cells.toList n).toArray) (fun i x hx => hx) hpr (by simpa using hrep) (bsl_bld hcs)
       refine ⟨.slice (some ⟨w.heap.size, 0, none⟩) n n, w.alloc (.cells B el), _, _, new_alloc _ _ (cty (nft' b4)), row_new hB2, fun e' id he => ⟨_, _, he, rfl⟩, fun d T p af g => ?_⟩
       have e1 : (parts.map fun (i, x) => (i, ρ x)) = (parts.toList.map fun (i, x) => (i, ρ x)).toArray := by apply Array.toList_inj.1; simp
       have hbig : ¬ (16777216 < n * s) := by omega
       by_cases h0 : n = 0
       · subst h0
         have hB' : Instr.fill (fun i => some (i * s, s)) #[] (parts.toList.map fun x => (x.fst, ρ x.snd)) = some B := hB
         have e0 : (Array.range 0).map (fun _ => (default : Value)) = #[] := by simp
         simp only [execOp, e1]
         simp [Instr.buildSlice, run_underlying hu, run_tsz hsz, e0, hB', newRow]
       have hn : n * s ≠ 0 := Nat.mul_ne_zero h0 (by omega)
       have hz2 : (Array.range (n * s)).map (fun i => zv.cells[i % zv.cells.size]!) = (Iv.reps zv.cells.toList n).toArray := by
        have := zeros_reps zv.cells n (by omega)
        rwa [hzs] at this ⊢
       have h0' : ¬ (n = 0 ∨ s = 0) := by omega
       have hB' : Instr.fill (fun i => some (i * s, s)) (Iv.reps zv.cells.toList n).toArray (parts.toList.map fun x => (x.fst, ρ x.snd)) = some B := hB
       simp only [execOp, e1]
       simp [Instr.buildSlice, run_underlying hu, run_tsz hsz, hbig, hn, hzr, hz2, hB', newRow]
      cases hq
     cases hq
   cases hq
  cases hq
 ·
  rename_i t x y
  split at hq
  ·
   rename_i el hu
   split at hq
   ·
    rename_i z inf hz hinf
    cases hb : (Nat.beq (ln (cells z)) inf.size && Nat.blt 0 inf.size && !Nat.beq el fT) with
    | false => rw [hb] at hq; cases hq
    | true =>
     rw [hb] at hq
     simp only [cond_true] at hq
     obtain ⟨hb, b4⟩ := and_t hb
     obtain ⟨b1, b2⟩ := and_t hb
     have b1' := Nat.eq_of_beq_eq_true b1
     have b2' : 0 < inf.size := (Nat.blt_eq).mp b2
     split at hq
     ·
      rename_i n hx
      split at hq
      ·
       rename_i c hy
       cases hb : (Nat.ble n c && Nat.blt (Nat.mul c inf.bytes) 1000000 && Nat.blt c 1000000) with
       | false => rw [hb] at hq; cases hq
       | true =>
        rw [hb] at hq
        obtain ⟨rfl, rfl⟩ := Prod.mk.inj (Option.some.inj hq)
        obtain ⟨hb, c3⟩ := and_t hb
        obtain ⟨c1, c2⟩ := and_t hb
        have c1' := Nat.le_of_ble_eq_true c1
        have c2' : c * inf.bytes < 1000000 := (Nat.blt_eq).mp c2
        have c3' : c < 1000000 := (Nat.blt_eq).mp c3
        obtain ⟨zv, hzv, hzr, inf', hinf', hiz⟩ := run_zro (P := P) (w := w) (e := e) hz
        obtain rfl : inf = inf' := Option.some.inj (hinf.symm.trans hinf')
        have hx' : ρ x = .int .i64 (n : Int) := hE _ _ hx
        have hy' : ρ y = .int .i64 (c : Int) := hE _ _ hy
        have hzs : zv.cells.size = inf.size := by
         have := (VRL.cells hzv).length
         rw [ln_eq] at b1'
         simpa [b1'] using this
        have hrep := VRL.reps (VRL.cells hzv) c
        refine ⟨.slice (some ⟨w.heap.size, 0, none⟩) n c, w.alloc (.cells (Iv.reps zv.cells.toList c).toArray el), _, _, new_alloc _ _ (cty (nft' b4)), row_new (by simpa using hrep), fun e' id he => ⟨_, _, he, rfl⟩, fun d T p af g => ?_⟩
        have w1 : IntKind.i64.wrap (n : Int) = (n : Int) := wrap_i64 _ (by omega)
        have w2 : IntKind.i64.wrap (c : Int) = (c : Int) := wrap_i64 _ (by omega)
        have h6 : ¬ (281474976710656 < (inf.bytes : Int) * (c : Int)) := by
         have : ((inf.bytes : Int) * (c : Int)) = ((c * inf.bytes : Nat) : Int) := by rw [Nat.mul_comm]; simp
         rw [this]; omega
        have h7 : ¬ ((c : Int) < 0) := by omega
        have h8 : ¬ ((n : Int) < 0) := by omega
        have h9 : ¬ ((c : Int) < (n : Int)) := by omega
        have h10 : ∀ W : World, (askRoom (c * inf.bytes)).run P W = .ok () W := by
         intro W; unfold askRoom; split <;> simp [mark, Sem.run]
        by_cases h0 : c = 0
        · subst h0
          have n0 : n = 0 := by omega
          subst n0
          have h10' : ∀ W : World, (askRoom 0).run P W = .ok () W := by simp only [Nat.zero_mul] at h10; exact h10
          have w0 : IntKind.i64.wrap 0 = 0 := w1
          have e0 : (Array.range 0).map (fun _ => (default : Value)) = #[] := by simp
          simp [execOp, hx', hy', Instr.makeSlice, run_underlying hu, asInt, asIntOf, typeInfo, sizeOf, hinf, w0, h10', newRow, Iv.reps, e0]
        have hn : c * inf.size ≠ 0 := Nat.mul_ne_zero h0 (by omega)
        have hz2 : (Array.range (c * inf.size)).map (fun i => zv.cells[i % zv.cells.size]!) = (Iv.reps zv.cells.toList c).toArray := by
         have := zeros_reps zv.cells c (by omega)
         rwa [hzs] at this ⊢
        simp [execOp, hx', hy', Instr.makeSlice, run_underlying hu, asInt, asIntOf, typeInfo, sizeOf, hinf, w1, w2, h6, h7, h8, h9, h10, hn, hzr, hz2, newRow]
      cases hq
     cases hq
   cases hq
  cases hq
 ·
  obtain ⟨rfl, rfl⟩ := Prod.mk.inj (Option.some.inj hq)
  refine ⟨.map (some w.heap.size), w.alloc (.map #[] 0), _, 0, new_alloc _ _ (fun _ _ _ e => by cases e), ⟨#[], 0, rfl, rfl⟩, fun e' id he => ⟨_, _, he, rfl⟩, fun d T p af g => ?_⟩
  simp [execOp, Instr.makeMap]
 ·
  rename_i s t x
  split at hq
  ·
   rename_i el hu1 hu2
   cases hb0 : (isU8 P el && !Nat.beq el fT) with
   | false => rw [hb0] at hq; cases hq
   | true =>
    rw [hb0] at hq
    simp only [cond_true] at hq
    obtain ⟨hb, b4⟩ := and_t hb0
    have hel : P.underlying el = some (.int .u8) := by
     unfold isU8 at hb
     split at hb
     · assumption
     cases hb
    split at hq
    ·
     rename_i l hx
     cases hb : Nat.blt (ln l) 1000000 with
     | false => rw [hb] at hq; cases hq
     | true =>
      rw [hb] at hq
      obtain ⟨rfl, rfl⟩ := Prod.mk.inj (Option.some.inj hq)
      obtain ⟨q, hx, rfl⟩ := hE _ _ hx
      have hlt : q.length < 1000000 := by have := (Nat.blt_eq).mp hb; rwa [ln_eq, List.length_map] at this
      have hge := grownCap_ge w (str q).size 0 el
      have hle := grownCap_le_maxLen w (str q).size 0 el (by rw [str_size]; simp only [maxLen]; omega)
      have hrun := run_bytes_of_string (P := P) w s t el (str q) hu1 hu2 hel
      have hsz : (bytesRow (str q) (grownCap w (str q).size 0 el)).size = grownCap w (str q).size 0 el := by
       simp [bytesRow]
       rw [str_size] at hge ⊢
       omega
      have hcs : VRL e (ofBytes (q.map UInt8.toNat)) ((bytesRow (str q) (grownCap w (str q).size 0 el)).toList.take (ofBytes (q.map UInt8.toNat)).length) := by
       have e2 : (bytesRow (str q) (grownCap w (str q).size 0 el)).toList.take (ofBytes (q.map UInt8.toNat)).length = q.map fun b => Value.int .u8 b.toNat := by
        rw [ofBytes_length, List.length_map]
        simp only [bytesRow, Array.toList_append, Array.toList_map, str_data]
        rw [List.take_append_of_le_length (by simp)]
        exact List.take_of_length_le (by simp)
       rw [e2]
       exact ofBytes_ok e q
      have hx' : ρ x = .string (str q) := by assumption
      refine ⟨.slice (some ⟨w.heap.size, 0, none⟩) (str q).size (grownCap w (str q).size 0 el), w.drew.alloc (.cells (bytesRow (str q) (grownCap w (str q).size 0 el)) el ((bytesRow (str q) (grownCap w (str q).size 0 el)).size, (bytesRow (str q) (grownCap w (str q).size 0 el)).size + 1)), _, grownCap w (str q).size 0 el, new_drew w _ (cty (nft' b4)), ⟨_, _, _, rfl, hsz, ?_, hcs, by simp⟩, fun e' id he => ?_, fun d T p af g => ?_⟩
      · rw [ofBytes_length, List.length_map]; rw [str_size] at hge; rw [str_size]; omega
      ·
       refine ⟨w.heap.size, grownCap w (str q).size 0 el, he, Nat.one_pos, ?_, ?_⟩
       · rw [Nat.sub_zero, Nat.div_one]; exact hle
       rw [Nat.sub_zero, Nat.div_one, ln_eq, List.length_map]; rfl
      simp only [execOp, hx']
      rw [Sem.run_bind, hrun]
      rfl
    cases hq
  cases hq
 cases hq
end
end Go.Iv
/- The interpreter's heap as it turns: a row written, a block made, a row that has grown. No program in sight. -/
namespace Go.Iv
open Go Go.Gam
variable {W0 : Option Asked}
def ext (e : Env) (b : Nat) (x : Nat × Nat) : Env := fun i => if i = b then some x else e i
theorem ext_at (e : Env) (b : Nat) (x : Nat × Nat) : ext e b x b = some x := by simp [ext]
theorem le_ext {e : Env} {b : Nat} {x : Nat × Nat} (h : e b = none) : Le e (ext e b x) := by
 intro i y hy
 by_cases hi : i = b
 · subst hi; rw [h] at hy; cases hy
 simp [ext, hi, hy]
structure Gr (e : Env) (h : AH) (e' : Env) (h' : AH) : Prop where
 le : Le e e'
 keep : ∀ b, b < h.nx → e' b = e b
 nx : h.nx ≤ h'.nx
theorem Gr.same {e : Env} {h h' : AH} (hn : h'.nx = h.nx) : Gr e h e h' := ⟨Le.refl e, fun _ _ => rfl, Nat.le_of_eq hn.symm⟩
theorem Gr.refl (e : Env) (h : AH) : Gr e h e h := .same rfl
theorem Gr.trans {e1 e2 e3 : Env} {h1 h2 h3 : AH} (a : Gr e1 h1 e2 h2) (b : Gr e2 h2 e3 h3) : Gr e1 h1 e3 h3 :=
 ⟨a.le.trans b.le, fun i hi => (b.keep i (Nat.lt_of_lt_of_le hi a.nx)).trans (a.keep i hi), Nat.le_trans a.nx b.nx⟩
theorem gr_ext {e : Env} {h h' : AH} {x : Nat × Nat} (he : e h.nx = none) (hn : h'.nx = h.nx + 1) : Gr e h (ext e h.nx x) h' :=
 ⟨le_ext he, fun b hb => by simp [ext, Nat.ne_of_lt hb], by omega⟩
theorem fresh {e : Env} {h : AH} {w : World} (hH : HW W0 e h w) : e h.nx = none := by
 cases hc : e h.nx with
 | none => rfl
 | some x => have := hH.dom _ _ hc; omega
section
variable {W : World} {B : Nat}
theorem PVs.mb {w w' : World} {bb : Option Nat} {r : Nat} {o : AO} (hm : Mb FDi B bb w w') (hr : r < w.heap.size) (hp : PVs W B w r o) : PVs W B w' r o := by
 have hn : notT FDi w r → notT FDi w' r := fun hn => by
  by_cases hb : some r = bb
  · exact (hm.own r hb.symm).2.2.2.1
  exact notT_of (hm.keep r hr hb) hn
 cases o with
 | fld wb p => exact hm.fok hp
 | row l ro => exact ⟨hp.1.imp id hn, fun h => ⟨hn (hp.2 h).1, (hp.2 h).2.1, hm.priv (hp.2 h).2.2⟩⟩
 | mp l => exact ⟨hn hp.1, hp.2.1, hm.priv hp.2.2⟩
theorem PVs.own {w : World} {r : Nat} {o : AO} (hp : PVs W B w r o) (ho : isRo o = false) : notT FDi w r ∧ W.heap.size ≤ r ∧ Priv FDi B w r := by
 cases o with
 | fld wb p => cases ho
 | row l ro => exact hp.2 ho
 | mp l => exact hp
theorem PV.mb0 {W : Asked} {w w' : World} {r : Nat} {o : AO} (hm : ∀ B, Mb FDi B none w w') (hr : r < w.heap.size) (hp : PV W w r o) : PV W w' r o := ⟨fun B h => (hp.1 B h).mb (hm B) hr, hp.2⟩
theorem SV.mb0 {W : Asked} {w w' : World} (h : SV W w) (hm : ∀ B, Mb FDi B none w w') : SV W w' :=
 ⟨h.le, fun B h' => (h.st B h').mb0 (hm B), fun hn => (h.bel hn).trans ⟨(hm 0).os, (hm 0).tape, (hm 0).output, (hm 0).size, fun k hk => (hm 0).keep k (Nat.lt_of_lt_of_le hk h.size) (by simp)⟩⟩
theorem PV.same {W : Asked} {w : World} {r : Nat} {o o' : AO} (h : PV W w r o) (ho : isRo o = false) (ho' : (match o' with | .fld _ _ => false | _ => true) = true) : PV W w r o' := by
 refine ⟨fun B h2 => ?_, fun _ => h.2 ho⟩
 obtain ⟨p1, p2, p3⟩ := (h.1 B h2).own ho
 cases o' with
 | fld wb p => cases ho'
 | row l ro => exact ⟨.inr p1, fun _ => ⟨p1, p2, p3⟩⟩
 | mp l => exact ⟨p1, p2, p3⟩
theorem mb_heap {w w' : World} (hw : w'.heap = w.heap) (ho : w'.os = w.os ∧ w'.tape = w.tape ∧ w'.output = w.output) : Mb FDi B none w w' :=
 ⟨ho.1, ho.2.1, ho.2.2, by rw [hw]; exact Nat.le_refl _, fun k _ _ => by rw [hw], fun k hk c fr hc => (by rw [hw, Array.getElem?_eq_none hk] at hc; cases hc), fun k e => by cases e⟩
theorem mb_new {w w' : World} {o : Obj} (hn : New w w' o) : Mb FDi B none w w' := by
 refine ⟨hn.os, hn.tape, hn.output, by rw [hn.size]; omega, fun k hk _ => hn.old k hk, fun k hk c fr hc => ?_, fun k e => by cases e⟩
 by_cases hk' : k = w.heap.size
 ·
  subst hk'
  rw [hn.new] at hc
  exact hn.ty c fT fr (Option.some.inj hc) rfl
 rw [Array.getElem?_eq_none (by rw [hn.size]; omega)] at hc; cases hc
theorem pv_new {W : Asked} {w w' : World} {o : Obj} {e : Env} {s : Nat} {c : AO} (hS : SV W w) (hn : New w w' o) (hc : OR e s c (some o)) : PV W w' w.heap.size c := by
 refine ⟨fun B h => ?_, fun _ => hS.size⟩
 have hnt : notT FDi w' w.heap.size := fun c fr hc' => by rw [hn.new] at hc'; exact hn.ty c fT fr (Option.some.inj hc') rfl
 have hpr := (mb_new (B := B) hn).priv ((hS.st B h).inv.priv_new (Nat.le_refl w.heap.size))
 cases c with
 | fld wb p =>
  obtain ⟨c, hc⟩ := hc
  exact absurd rfl (hn.ty c fT _ (Option.some.inj hc))
 | row l ro => exact ⟨.inr hnt, fun _ => ⟨hnt, hS.size, hpr⟩⟩
 | mp l => exact ⟨hnt, hS.size, hpr⟩
end
theorem HW.heap {e : Env} {h : AH} {w w' : World} (hH : HW W0 e h w) (hw : w'.heap = w.heap) (ho : w'.os = w.os ∧ w'.tape = w.tape ∧ w'.output = w.output) : HW W0 e h w' :=
 ⟨⟨by rw [hw]; exact hH.obj, hH.inj, by rw [hw]; exact hH.bnd, hH.gl⟩, hH.dom, fun W hW => (hH.st W hW).mb0 (fun _ => mb_heap hw ho), fun W hW b o hb r s he => (hH.prv W hW b o hb r s he).mb0 (fun _ => mb_heap hw ho) (hH.bnd b r s he)⟩
theorem HW.turned {e : Env} {h : AH} {w w' : World} {b r s : Nat} {o : AO} (hH : HW W0 e h w) (hb : h.at b = some o) (ho : isRo o = false) (he : e b = some (r, s)) (h1 : w'.os = w.os ∧ w'.tape = w.tape ∧ w'.output = w.output) (h2 : w'.heap.size = w.heap.size)
  (h3 : ∀ k, k ≠ r → w'.heap[k]? = w.heap[k]?) (h4 : notT FDi w r → notT FDi w' r) : (∀ W, W0 = some W → SV W w') ∧ ∀ W, W0 = some W → ∀ b o, h.at b = some o → ∀ r s, e b = some (r, s) → PV W w' r o := by
 have hr := hH.bnd b r s he
 have turn : ∀ W : Asked, W0 = some W → ∀ B, W.2 = some B → Mb FDi B (some r) w w' := fun W hW B h2' => by
  obtain ⟨p1, p2, p3⟩ := ((hH.prv W hW b o hb r s he).1 B h2').own ho
  refine ⟨h1.1, h1.2.1, h1.2.2, by omega, fun k _ hk => h3 k (fun h => hk (by rw [h])), fun k hk c fr hc => ?_, fun k hk => ?_⟩
  · rw [Array.getElem?_eq_none (by omega)] at hc; cases hc
  obtain rfl := Option.some.inj hk
  exact ⟨hr, Nat.le_trans ((hH.st W hW).le B h2') p2, p1, h4 p1, p3⟩
 refine ⟨fun W hW => ⟨(hH.st W hW).le, fun B h => ?_, fun h => ?_⟩, fun W hW b' o' hb' r' s' he' => ⟨fun B h => ?_, (hH.prv W hW b' o' hb' r' s' he').2⟩⟩
 · exact ((hH.st W hW).st B h).mb (turn W hW B h) (fun k hk => by cases hk; exact (hH.prv W hW b o hb r s he).2 ho)
 · have hge := (hH.prv W hW b o hb r s he).2 ho
   exact ((hH.st W hW).bel h).trans ⟨h1.1, h1.2.1, h1.2.2, by omega, fun k hk => h3 k (by omega)⟩
 exact ((hH.prv W hW b' o' hb' r' s' he').1 B h).mb (turn W hW B h) (hH.bnd _ _ _ he')
theorem hr_new {e : Env} {h : AH} {w w' : World} {o : Obj} {c : AO} {s : Nat} (hH : HW W0 e h w) (hn : New w w' o) (hc : OR e s c (some o)) : Gr e h (ext e h.nx (w.heap.size, s)) (h.new c) ∧ HW W0 (ext e h.nx (w.heap.size, s)) (h.new c) w' := by
 have hl := le_ext (x := (w.heap.size, s)) (fresh hH)
 have old : ∀ b x, b ≠ h.nx → ext e h.nx (w.heap.size, s) b = some x → e b = some x := fun b x hb hx => by simpa [ext, hb] using hx
 have new : ∀ x, ext e h.nx (w.heap.size, s) h.nx = some x → x = (w.heap.size, s) := fun x hx => by rw [ext_at] at hx; exact (Option.some.inj hx).symm
 refine ⟨gr_ext (fresh hH) rfl, ⟨⟨fun b o' hb r s' he => ?_, fun b b' o1 o2 r s1 s2 h1 h2 e1 e2 hne => ?_, fun b r s' he => ?_, hH.gl.mono hl⟩, fun b x hx => ?_, fun W hW => (hH.st W hW).mb0 (fun _ => mb_new hn), fun W hW b o' hb r s' he => ?_⟩⟩
 ·
  rcases at_new hb with ⟨rfl, rfl⟩ | ⟨hne, hb⟩
  · obtain ⟨rfl, rfl⟩ := Prod.mk.inj (new _ he)
    rw [hn.new]; exact hc.mono hl
  have he := old _ _ hne he
  rw [hn.old r (hH.bnd _ _ _ he)]
  exact (hH.obj b o' hb r s' he).mono hl
 ·
  rcases at_new h1 with ⟨rfl, rfl⟩ | ⟨hn1, h1⟩
  ·
   rcases at_new h2 with ⟨rfl, rfl⟩ | ⟨hn2, h2⟩
   · exact absurd rfl hne
   have e2 := old _ _ hn2 e2
   obtain ⟨rfl, -⟩ := Prod.mk.inj (new _ e1)
   have := hH.bnd _ _ _ e2; omega
  have e1 := old _ _ hn1 e1
  rcases at_new h2 with ⟨rfl, rfl⟩ | ⟨hn2, h2⟩
  · obtain ⟨rfl, -⟩ := Prod.mk.inj (new _ e2)
    have := hH.bnd _ _ _ e1; omega
  exact hH.inj b b' o1 o2 r s1 s2 h1 h2 e1 (old _ _ hn2 e2) hne
 ·
  rw [hn.size]
  by_cases hb : b = h.nx
  · subst hb; obtain ⟨rfl, -⟩ := Prod.mk.inj (new _ he); omega
  have := hH.bnd _ _ _ (old _ _ hb he); omega
 ·
  rw [nx_new]
  by_cases hb : b = h.nx
  · omega
  have := hH.dom _ _ (old _ _ hb hx); omega
 rcases at_new hb with ⟨rfl, rfl⟩ | ⟨hne, hb⟩
 · obtain ⟨rfl, rfl⟩ := Prod.mk.inj (new _ he)
   exact pv_new (hH.st W hW) hn hc
 have he := old _ _ hne he
 exact (hH.prv W hW b o' hb r s' he).mb0 (fun _ => mb_new hn) (hH.bnd _ _ _ he)
theorem hr_drop {e : Env} {h : AH} {w : World} (hH : HW W0 e h w) (b : Nat) : HW W0 e (h.drop b) w :=
 ⟨⟨fun b' o hb => hH.obj b' o (at_drop hb).2, fun b1 b2 o1 o2 r s1 s2 h1 h2 => hH.inj b1 b2 o1 o2 r s1 s2 (at_drop h1).2 (at_drop h2).2, hH.bnd, hH.gl⟩, hH.dom, hH.st, fun W hW b' o hb => hH.prv W hW b' o (at_drop hb).2⟩
theorem setRow_size (w : World) (g : Nat) (cs : Array Value) : (w.setRow g cs).heap.size = w.heap.size := by simp [World.setRow]
theorem hr_row {e : Env} {h : AH} {w : World} {b r s : Nat} {l l' : List AV} {c c' : Array Value} {t : TypeId} {fz : Nat × Nat} {ro' : Bool} (hH : HW W0 e h w) (hb : h.at b = some (.row l false)) (he : e b = some (r, s)) (hr : w.heap[r]? = some (.cells c t fz))
  (hc : c'.size = s) (hl : l'.length ≤ s) (hv : VRL e l' (c'.toList.take l'.length)) : HW W0 e (h.put b (.row l' ro')) (w.setRow r c') := by
 have hfz : fz = (0, 0) := by
  obtain ⟨c0, t0, fz0, h1, -, -, -, h5⟩ := hH.obj b _ hb r s he
  rw [hr] at h1
  obtain ⟨rfl, rfl, rfl⟩ := Obj.cells.inj (Option.some.inj h1)
  exact h5 rfl
 have hT := HW.turned (w' := w.setRow r c') hH hb rfl he ⟨rfl, rfl, rfl⟩ (setRow_size w r c') (fun k hk => setRow_other w r k c' hk) (fun hn c2 fr hc2 => by
  rw [setRow_heap w r c c' t fz hr] at hc2
  obtain ⟨-, rfl, -⟩ := Obj.cells.inj (Option.some.inj hc2)
  exact hn c fz hr)
 refine ⟨⟨fun b' o hb' r' s' he' => ?_, fun b1 b2 o1 o2 r1 s1 s2 h1 h2 e1 e2 hne => ?_, fun b' r' s' he' => ?_, hH.gl⟩, fun b' x hx => by rw [nx_put]; exact hH.dom b' x hx, hT.1, fun W hW b' o hb' r' s' he' => ?_⟩
 ·
  rcases at_put hb' with ⟨rfl, rfl⟩ | ⟨hne, hb'⟩
  · obtain ⟨rfl, rfl⟩ := Prod.mk.inj (Option.some.inj (he.symm.trans he'))
    rw [setRow_heap w r c c' t fz hr]
    exact ⟨c', t, fz, rfl, hc, hl, hv, fun _ => hfz⟩
  have hrr : r' ≠ r := by
   rintro rfl
   have := (hH.inj b b' _ _ _ _ _ hb hb' he he' (Ne.symm hne)).1
   simp [isRo] at this
  rw [setRow_other w r r' c' hrr]
  exact hH.obj b' o hb' r' s' he'
 ·
  rcases at_put h1 with ⟨rfl, rfl⟩ | ⟨hn1, h1⟩
  ·
   rcases at_put h2 with ⟨rfl, rfl⟩ | ⟨hn2, h2⟩
   · exact absurd rfl hne
   have := (hH.inj b1 b2 _ _ _ _ _ hb h2 e1 e2 hne).1
   simp [isRo] at this
  rcases at_put h2 with ⟨n2, rfl⟩ | ⟨hn2, h2⟩
  · rw [n2] at e2 hne
    have := (hH.inj b1 b _ _ _ _ _ h1 hb e1 e2 hne).2
    simp [isRo] at this
  exact hH.inj b1 b2 o1 o2 r1 s1 s2 h1 h2 e1 e2 hne
 · rw [setRow_size]; exact hH.bnd b' r' s' he'
 rcases at_put hb' with ⟨rfl, rfl⟩ | ⟨hne, hb'⟩
 · exact (hT.2 W hW b' _ hb r' s' he').same rfl rfl
 exact hT.2 W hW b' o hb' r' s' he'
theorem hr_grow {e : Env} {h : AH} {w : World} {b r s : Nat} {l l' : List AV} {c c' : Array Value} {t : TypeId} {fz : Nat × Nat} (hH : HW W0 e h w) (hb : h.at b = some (.row l false)) (he : e b = some (r, s)) (hr : w.heap[r]? = some (.cells c t fz))
  (hc : c'.size = s) (hl : l'.length ≤ s) (hv : VRL e l' (c'.toList.take l'.length)) : Gr e h (ext e h.nx (r, s)) ((h.drop b).new (.row l' false)) ∧ HW W0 (ext e h.nx (r, s)) ((h.drop b).new (.row l' false)) (w.setRow r c') := by
 have hfz : fz = (0, 0) := by
  obtain ⟨c0, t0, fz0, h1, -, -, -, h5⟩ := hH.obj b _ hb r s he
  rw [hr] at h1
  obtain ⟨rfl, rfl, rfl⟩ := Obj.cells.inj (Option.some.inj h1)
  exact h5 rfl
 have hle := le_ext (x := (r, s)) (fresh hH)
 have old : ∀ b x, b ≠ h.nx → ext e h.nx (r, s) b = some x → e b = some x := fun b x hb hx => by simpa [ext, hb] using hx
 have new : ∀ x, ext e h.nx (r, s) h.nx = some x → x = (r, s) := fun x hx => by rw [ext_at] at hx; exact (Option.some.inj hx).symm
 have other : ∀ b' o r' s', b' ≠ b → h.at b' = some o → e b' = some (r', s') → r' ≠ r := by
  rintro b' o r' s' hne hb' he' rfl
  have := (hH.inj b b' _ _ _ _ _ hb hb' he he' (Ne.symm hne)).1
  simp [isRo] at this
 have hT := HW.turned (w' := w.setRow r c') hH hb rfl he ⟨rfl, rfl, rfl⟩ (setRow_size w r c') (fun k hk => setRow_other w r k c' hk) (fun hn c2 fr hc2 => by
  rw [setRow_heap w r c c' t fz hr] at hc2
  obtain ⟨-, rfl, -⟩ := Obj.cells.inj (Option.some.inj hc2)
  exact hn c fz hr)
 refine ⟨gr_ext (fresh hH) rfl, ⟨⟨fun b' o hb' r' s' he' => ?_, fun b1 b2 o1 o2 r1 s1 s2 h1 h2 e1 e2 hne => ?_, fun b' r' s' he' => ?_, hH.gl.mono hle⟩, fun b' x hx => ?_, hT.1, fun W hW b' o hb' r' s' he' => ?_⟩⟩
 ·
  rcases at_new hb' with ⟨h1, rfl⟩ | ⟨hne, hb'⟩
  ·
   rw [nx_drop] at h1
   subst h1
   obtain ⟨rfl, rfl⟩ := Prod.mk.inj (new _ he')
   rw [setRow_heap w r' c c' t fz hr]
   exact ⟨c', t, fz, rfl, hc, hl, VRL.mono hle _ _ hv, fun _ => hfz⟩
  rw [nx_drop] at hne
  obtain ⟨hne2, hb'⟩ := at_drop hb'
  have he' := old _ _ hne he'
  rw [setRow_other w r r' c' (other b' o r' s' hne2 hb' he')]
  exact (hH.obj b' o hb' r' s' he').mono hle
 ·
  rcases at_new h1 with ⟨n1, rfl⟩ | ⟨hn1, h1⟩
  ·
   rw [nx_drop] at n1
   subst n1
   rcases at_new h2 with ⟨n2, rfl⟩ | ⟨hn2, h2⟩
   · rw [nx_drop] at n2; exact absurd n2.symm hne
   rw [nx_drop] at hn2
   obtain ⟨hb2, h2⟩ := at_drop h2
   obtain ⟨rfl, -⟩ := Prod.mk.inj (new _ e1)
   exact absurd rfl (other b2 o2 _ s2 hb2 h2 (old _ _ hn2 e2))
  rw [nx_drop] at hn1
  obtain ⟨hb1, h1⟩ := at_drop h1
  have e1' := old _ _ hn1 e1
  rcases at_new h2 with ⟨n2, rfl⟩ | ⟨hn2, h2⟩
  ·
   rw [nx_drop] at n2
   subst n2
   obtain ⟨rfl, -⟩ := Prod.mk.inj (new _ e2)
   exact absurd rfl (other b1 o1 _ s1 hb1 h1 e1')
  rw [nx_drop] at hn2
  obtain ⟨hb2, h2⟩ := at_drop h2
  exact hH.inj b1 b2 o1 o2 r1 s1 s2 h1 h2 e1' (old _ _ hn2 e2) hne
 ·
  rw [setRow_size]
  by_cases hb' : b' = h.nx
  · subst hb'; obtain ⟨rfl, -⟩ := Prod.mk.inj (new _ he'); exact hH.bnd _ _ _ he
  exact hH.bnd _ _ _ (old _ _ hb' he')
 ·
  rw [nx_new, nx_drop]
  by_cases hb' : b' = h.nx
  · omega
  have := hH.dom _ _ (old _ _ hb' hx); omega
 rcases at_new hb' with ⟨h1, rfl⟩ | ⟨hne, hb'⟩
 ·
  rw [nx_drop] at h1
  subst h1
  obtain ⟨rfl, rfl⟩ := Prod.mk.inj (new _ he')
  exact (hT.2 W hW b _ hb _ _ he).same rfl rfl
 rw [nx_drop] at hne
 obtain ⟨-, hb'⟩ := at_drop hb'
 have he' := old _ _ hne he'
 exact hT.2 W hW b' o hb' r' s' he'
theorem scs_ok {e : Env} : ∀ {l : List AV} {vs : List Value}, scs l = true → VRL e l vs → ∀ v ∈ vs, v.oneCell' = true
 | [], vs, h, hv, v, hm => by rw [show vs = [] from hv] at hm; simp at hm
 | a :: l, vs, h, ⟨u, r, h1, h2, h3⟩, v, hm => by
  subst h1
  have hl : scs l = true := by cases a <;> first | exact h | (simp [scs] at h)
  rcases List.mem_cons.1 hm with rfl | hm
  ·
   cases a with
   | agg l => simp [scs] at h
   | tup l => simp [scs] at h
   | bool b => rw [show v = _ from h2]; rfl
   | int k n => rw [show v = _ from h2]; rfl
   | cap b o z m => obtain ⟨r, s, _, _, _, rfl⟩ := h2; rfl
   | str l => obtain ⟨s, rfl, _⟩ := h2; rfl
   | nilp => rw [show v = _ from h2]; rfl
   | ptr b o => obtain ⟨r, s, _, rfl⟩ := h2; rfl
   | nils => rw [show v = _ from h2]; rfl
   | sl b o n c z => obtain ⟨r, s, cap, _, rfl, _⟩ := sl_shape h2; rfl
   | nilm => rw [show v = _ from h2]; rfl
   | mp b => obtain ⟨r, s, _, rfl⟩ := h2; rfl
   | nilf => rw [show v = _ from h2]; rfl
   | fn f x y => obtain ⟨vs, ws, rfl, _⟩ := h2; rfl
   | nili => rw [show v = _ from h2]; rfl
   | emp => obtain ⟨a, c, rfl⟩ := h2; rfl
  exact scs_ok hl h3 v hm
theorem wri_nx {h h' : AH} {b o : Nat} {xs : List AV} (hq : wri h b o xs = some h') : h'.nx = h.nx := by
 unfold wri at hq
 split at hq
 ·
  cases hsc : scs xs with
  | false => rw [hsc] at hq; cases hq
  | true =>
   rw [hsc] at hq
   simp only [cond_true] at hq
   split at hq
   · obtain rfl := Option.some.inj hq; rfl
   cases hq
 cases hq
theorem wri_ok {P : Program} {e : Env} {h h' : AH} {w : World} {b o r s : Nat} {xs : List AV} {vs : List Value} (hH : HW W0 e h w) (he : e b = some (r, s)) (hx : VRL e xs vs) (hq : wri h b o xs = some h') :
  ∃ w', (storeCells ⟨r, o, none⟩ vs).run P w = .ok () w' ∧ HW W0 e h' w' := by
 unfold wri at hq
 split at hq
 ·
  rename_i l hb
  cases hsc : scs xs with
  | false => rw [hsc] at hq; cases hq
  | true =>
   rw [hsc] at hq
   simp only [cond_true] at hq
   split at hq
   ·
    rename_i l' hl'
    obtain rfl := Option.some.inj hq
    obtain ⟨c, t, fz, h1, h2, h3, h4, h5⟩ := hH.obj b _ hb r s he
    obtain rfl := h5 rfl
    have hone := scs_ok hsc hx
    have hlen := hx.length
    obtain ⟨g1, g2⟩ := lay_eq _ _ _ _ hl'
    by_cases hn : xs = []
    ·
     subst hn
     obtain rfl : vs = [] := by simpa using hlen
     obtain rfl : l' = l := by rw [g2]; simp
     refine ⟨w, by simp [storeCells], ?_⟩
     have hr := hr_row (c' := c) (ro' := false) hH hb he h1 h2 h3 h4
     rwa [setRow_self w r c t (0, 0) h1] at hr
    have g3 := g1 hn
    have hst := run_storeCells_at (P := P) r o t vs 0 c w h1 (by omega) hone
    simp only [Nat.add_zero] at hst
    refine ⟨_, hst, hr_row hH hb he h1 (by simp; omega) (by rw [g2]; simp; omega) ?_⟩
    have hll : l'.length = l.length := by rw [g2]; simp; omega
    have e1 : (c.toList.take o ++ vs ++ c.toList.drop (o + vs.length)).take l'.length = (c.toList.take l.length).take o ++ vs ++ (c.toList.take l.length).drop (o + vs.length) := by
     rw [hll, List.take_take, Nat.min_eq_left (by omega), List.take_append, List.take_of_length_le (by simp; omega), List.drop_take]
     congr 2
     simp
     omega
    rw [show ((c.toList.take o ++ vs ++ c.toList.drop (o + vs.length)).toArray.toList) = c.toList.take o ++ vs ++ c.toList.drop (o + vs.length) from rfl, e1, g2, ← hlen]
    exact VRL.append (VRL.append (VRL.take o h4) hx) (VRL.drop _ h4)
   cases hq
 cases hq
end Go.Iv
/- The interpreter's append: the model's does as it tells, whether there is room or not. No program in sight. -/
namespace Go.Iv
open Go Go.Gam
variable {W0 : Option Asked}
section
variable {P : Program} {w : World}
theorem run_app_room {t tx ty el : TypeId} {i : TypeInfo} (ht : P.underlying t = some (.slice el)) (hi : P.info? el = some i) {base : Option Addr} {m c n : Nat} {x : Value} {news : List Value} {w' : World} (hs : Src P i.size tx x n news w) (hroom : m + n ≤ c)
  (hst : match base with | none => w' = w | some a => (storeCells (a.add (m * i.size)) news).run P w = .ok () w') : (Builtin.append_ #[t, tx] ty #[.slice base m c, x]).run P w = .ok (.slice base (m + n) c) w' := by
 cases base with
 | none => subst hst; rcases hs.kind with ⟨e', hk⟩ | hk <;> simp [Builtin.append_, run_underlying ht, run_underlying hk, sizeOf, typeInfo, hi, hs.len, hroom, hs.cells]
 | some a => simp only at hst; rcases hs.kind with ⟨e', hk⟩ | hk <;> simp [Builtin.append_, run_underlying ht, run_underlying hk, sizeOf, typeInfo, hi, hs.len, hroom, hs.cells, hst]
theorem new_row_cap {e : Env} {old xs : List AV} {olds news : List Value} {zc : Array Value} {cap need z : Nat} {el : TypeId} (h1 : VRL e old olds) (h2 : VRL e xs news) (hl : (old ++ xs).length = need * z) (hz : zc.size = z) (hc : need ≤ cap) :
  OR e (cap * z) (.row (old ++ xs) false) (some (.cells ((olds ++ news).toArray ++ Builtin.zeroCells zc (cap - need)) el (0, 0))) := by
 have h3 := VRL.append h1 h2
 have hll : (olds ++ news).length = need * z := by rw [h3.length, hl]
 have hsz : (Builtin.zeroCells zc (cap - need)).size = (cap - need) * z := by rw [size_zeroCells, hz]
 have hmul : need * z + (cap - need) * z = cap * z := by rw [← Nat.add_mul]; congr 1; omega
 refine ⟨_, el, (0, 0), rfl, ?_, ?_, ?_, fun _ => rfl⟩
 · rw [Array.size_append, hsz, List.size_toArray, hll, hmul]
 · rw [hl]; omega
 rw [hl, Array.toList_append, List.take_append_of_le_length (by simp only [List.length_append] at hll ⊢; omega)]
 rw [← hll, List.take_of_length_le (Nat.le_refl _)]
 exact h3
end
section
variable {P : Program} {e : Env} {w : World} {h h' : AH}
abbrev AppPost (W0 : Option Asked) (P : Program) (e : Env) (h h' : AH) (a : AV) (args : Sem Value) (w : World) : Prop := ∃ v w' e', args.run P w = .ok v w' ∧ Gr e h e' h' ∧ VR e' a v ∧ HW W0 e' h' w'
theorem app_new (hH : HW W0 e h w) {t tx ty el : TypeId} (hel : el ≠ fT) {i : TypeInfo} {zv : Value} (ht : P.underlying t = some (.slice el)) (hi : P.info? el = some i) (hz : i.zero = some zv) (hzs : zv.cells.size = i.size) (hz0 : 0 < i.size) {base : Option Addr} {m c n : Nat} {x : Value} {old xs : List AV} {olds news : List Value}
  (hold : (Builtin.firstCells i.size m (.slice base m c)).run P w.drew = .ok olds.toArray w.drew) (ho : VRL e old olds) (hol : olds.length = m * i.size) (hs : Src P i.size tx x n news w) (hx : VRL e xs news) (hg : c < m + n) (hb1 : (m + n) * i.bytes < 1000000) (hb2 : m + n < 1000000) :
  AppPost W0 P e h (h.new (.row (old ++ xs) false)) (.sl h.nx 0 (m + n) none i.size) (Builtin.append_ #[t, tx] ty #[.slice base m c, x]) w := by
 have hrun := run_append_grow_src (P := P) w t tx ty el i zv ht hi hz base m c olds hold x n news hs hg (by omega) (growslice_fits hg (by omega))
 have hge := grownCap_ge w (m + n) c el
 have hle := grownCap_le_maxLen w (m + n) c el (by simp only [maxLen]; omega)
 have hlen : (old ++ xs).length = (m + n) * i.size := by
  rw [List.length_append, ← ho.length, ← hx.length, hol, hs.newsLen, Nat.add_mul]
 have hor := new_row_cap (el := el) (zc := zv.cells) ho hx hlen hzs hge
 obtain ⟨l1, l2⟩ := hr_new hH (new_drew w _ (cty hel)) hor
 refine ⟨_, _, _, hrun, l1, ⟨w.heap.size, _, ext_at _ _ _, hz0, ?_, ?_⟩, l2⟩
 · rw [Nat.sub_zero, Nat.mul_div_cancel _ hz0]; exact hle
 rw [Nat.sub_zero, Nat.mul_div_cancel _ hz0]
theorem app_ok (hH : HW W0 e h w) {t tx ty el : TypeId} (hel : el ≠ fT) {i : TypeInfo} {zv : Value} (ht : P.underlying t = some (.slice el)) (hi : P.info? el = some i) (hz : i.zero = some zv) (hzs : zv.cells.size = i.size) (hz0 : 0 < i.size) {s a : AV} {S x : Value} {n : Nat} {xs : List AV} {news : List Value}
  (hS : VR e s S) (hs : Src P i.size tx x n news w) (hx : VRL e xs news) (hq : app h i.bytes s i.size n xs = some (a, h')) : AppPost W0 P e h h' a (Builtin.append_ #[t, tx] ty #[S, x]) w := by
 unfold app at hq
 have nil0 : n = 0 → news = [] := fun h0 => by have := hs.newsLen; rw [h0, Nat.zero_mul] at this; exact List.eq_nil_of_length_eq_zero this
 split at hq
 ·
  obtain rfl : S = .slice none 0 0 := hS
  split at hq
  · obtain ⟨rfl, rfl⟩ := Prod.mk.inj (Option.some.inj hq)
    exact ⟨_, w, e, run_app_room ht hi hs (by omega) rfl, Gr.refl e _, rfl, hH⟩
  rename_i k
  cases hb : (Nat.blt (Nat.mul (Nat.succ k) i.bytes) 1000000 && Nat.blt (Nat.succ k) 1000000) with
  | false => rw [hb] at hq; cases hq
  | true =>
   rw [hb] at hq
   obtain ⟨rfl, rfl⟩ := Prod.mk.inj (Option.some.inj hq)
   obtain ⟨b1, b2⟩ := and_t hb
   have b1' : (k + 1) * i.bytes < 1000000 := (Nat.blt_eq).mp b1
   have b2' : k + 1 < 1000000 := (Nat.blt_eq).mp b2
   have := app_new (ty := ty) (base := none) (m := 0) (c := 0) (old := []) (olds := []) hH hel ht hi hz hzs hz0 (run_firstCells_none w.drew i.size 0 0 0) VRL.nil (by simp) hs hx (by omega) (by simpa using b1') (by omega)
   simpa using this
 ·
  rename_i b o m c z'
  cases hb : (Nat.beq i.size z' && Nat.blt (Nat.mul (Nat.add m n) i.bytes) 1000000 && Nat.blt (Nat.add m n) 1000000) with
  | false => rw [hb] at hq; cases hq
  | true =>
   rw [hb] at hq
   simp only [cond_true] at hq
   obtain ⟨hb, b3⟩ := and_t hb
   obtain ⟨b1, b2⟩ := and_t hb
   obtain rfl := Nat.eq_of_beq_eq_true b1
   have b2' : (m + n) * i.bytes < 1000000 := (Nat.blt_eq).mp b2
   have b3' : m + n < 1000000 := (Nat.blt_eq).mp b3
   split at hq
   ·
    rename_i l ro hrow
    obtain ⟨r, sz, cap, he, rfl, k1, k2⟩ := sl_shape hS
    obtain ⟨cs, hcs, hcell, hlsz⟩ := row_cells hH.toHR hrow he
    -- nothing to be laid
    have none_ : n = 0 → m ≤ cap → ∀ a', VR e a' (.slice (some ⟨r, o, none⟩) m cap) → AppPost W0 P e h h a' (Builtin.append_ #[t, tx] ty #[.slice (some ⟨r, o, none⟩) m cap, x]) w := by
     intro h0 hm a' ha'
     have hn := nil0 h0
     subst h0
     refine ⟨_, w, e, run_app_room (w' := w) ht hi hs (by omega) (by rw [hn]; simp [storeCells]), Gr.refl e _, ha', hH⟩
    -- laid in place
    have place : ∀ l', ro = false → scs xs = true → lay (o + m * i.size) xs l = some l' → m + n ≤ cap → ∀ a', VR e a' (.slice (some ⟨r, o, none⟩) (m + n) cap) → AppPost W0 P e h (h.put b (.row l' false)) a' (Builtin.append_ #[t, tx] ty #[.slice (some ⟨r, o, none⟩) m cap, x]) w := by
     intro l' hro hsc hl' hroom a' ha'
     subst hro
     have hw : wri h b (o + m * i.size) xs = some (h.put b (.row l' false)) := by simp only [wri, hrow, hsc, cond_true, hl']
     obtain ⟨w', h1, h2⟩ := wri_ok (P := P) hH he hx hw
     refine ⟨_, w', e, run_app_room (w' := w') ht hi hs hroom (by simp only [Addr.add_eq]; exact h1), Gr.same rfl, ha', h2⟩
    -- a new row
    have grow : ∀ old, seg o (m * i.size) l = some old → cap < m + n → AppPost W0 P e h (h.new (.row (old ++ xs) false)) (.sl h.nx 0 (m + n) none i.size) (Builtin.append_ #[t, tx] ty #[.slice (some ⟨r, o, none⟩) m cap, x]) w := by
     intro old hseg hg
     obtain ⟨g1, rfl⟩ := seg_eq hseg
     have hlen : ((cs.drop o).take (m * i.size)).length = m * i.size := by have := hcs.length; simp; omega
     refine app_new hH hel ht hi hz hzs hz0 (run_firstCells_some (P := P) w.drew i.size m ⟨r, o, none⟩ m cap _ hlen (fun j v hv => ?_)) (VRL.take _ (VRL.drop o hcs)) hlen hs hx hg b2' b3'
     rw [Addr.add_eq]
     rw [List.getElem?_take] at hv
     split at hv
     · rw [List.getElem?_drop] at hv
       exact hcell (o + j) v hv
     cases hv
    split at hq
    ·
     rename_i c
     obtain rfl := k1 c rfl
     cases hb : Nat.ble (Nat.add m n) cap with
     | true =>
      rw [hb] at hq
      have hroom : m + n ≤ cap := Nat.le_of_ble_eq_true hb
      simp only [cond_true] at hq
      split at hq
      · obtain ⟨rfl, rfl⟩ := Prod.mk.inj (Option.some.inj hq)
        exact none_ rfl (by omega) _ hS
      rename_i k
      cases hr : (ro || !scs xs) with
      | true => rw [hr] at hq; cases hq
      | false =>
       rw [hr] at hq
       simp only [cond_false] at hq
       simp only [Bool.or_eq_false_iff, Bool.not_eq_false'] at hr
       split at hq
       · rename_i l' hl'
         obtain ⟨rfl, rfl⟩ := Prod.mk.inj (Option.some.inj hq)
         exact place l' hr.1 hr.2 hl' hroom _ ⟨r, sz, he, rfl⟩
       cases hq
     | false =>
      rw [hb] at hq
      simp only [cond_false] at hq
      have hg : cap < m + n := Nat.lt_of_not_le fun hh => by rw [show Nat.ble (Nat.add m n) cap = true from Nat.ble_eq_true_of_le hh] at hb; cases hb
      split at hq
      · rename_i old hseg
        obtain ⟨rfl, rfl⟩ := Prod.mk.inj (Option.some.inj hq)
        exact grow old hseg hg
      cases hq
    obtain ⟨k3, k4, k5⟩ := k2 rfl
    split at hq
    ·
     cases hb : Nat.ble (Nat.add o (Nat.mul m i.size)) (ln l) with
     | false => rw [hb] at hq; cases hq
     | true =>
      rw [hb] at hq
      obtain ⟨rfl, rfl⟩ := Prod.mk.inj (Option.some.inj hq)
      have h1 : o + m * i.size ≤ l.length := by have := Nat.le_of_ble_eq_true hb; rw [ln_eq] at this; exact this
      exact none_ rfl (by rw [k4]; exact le_div k3 h1 hlsz) _ hS
    rename_i k hk0
    cases hr : (ro || !scs xs) with
    | true => rw [hr] at hq; cases hq
    | false =>
     rw [hr] at hq
     simp only [cond_false] at hq
     simp only [Bool.or_eq_false_iff, Bool.not_eq_false'] at hr
     obtain ⟨hro, hsc⟩ := hr
     cases hb : Nat.ble (Nat.add o (Nat.mul (Nat.add m (Nat.succ k)) i.size)) (ln l) with
     | true =>
      rw [hb] at hq
      simp only [cond_true] at hq
      have h1 : o + (m + (k + 1)) * i.size ≤ l.length := by have := Nat.le_of_ble_eq_true hb; rw [ln_eq] at this; exact this
      split at hq
      · rename_i l' hl'
        obtain ⟨rfl, rfl⟩ := Prod.mk.inj (Option.some.inj hq)
        exact place l' hro hsc hl' (by rw [k4]; exact le_div k3 h1 hlsz) _ ⟨r, sz, he, k3, by rw [← k4]; exact k5, by rw [← k4]; rfl⟩
      cases hq
     | false =>
      rw [hb] at hq
      simp only [cond_false] at hq
      cases hb2 : Nat.beq o 0 with
      | false => rw [hb2] at hq; cases hq
      | true =>
       rw [hb2] at hq
       simp only [cond_true] at hq
       obtain rfl := Nat.eq_of_beq_eq_true hb2
       split at hq
       ·
        rename_i old hold
        obtain ⟨rfl, rfl⟩ := Prod.mk.inj (Option.some.inj hq)
        obtain ⟨t1, t2⟩ := tk_eq _ _ _ hold
        have t1' : m * i.size ≤ l.length := t1
        have t2' : old = l.take (m * i.size) := t2
        subst t2'
        clear t2
        have hold' : (cs.take (m * i.size)).length = m * i.size := by have := hcs.length; simp; omega
        by_cases hroom : m + (k + 1) ≤ cap
        ·
         obtain ⟨c0, t0, fz, g1, g2, g3, g4, g5⟩ := hH.obj b _ hrow r sz he
         obtain rfl := g5 hro
         subst hro
         have hfit : (m + (k + 1)) * i.size ≤ sz := by
          rw [k4, Nat.le_div_iff_mul_le k3] at hroom
          omega
         have hnl : news.length = (k + 1) * i.size := hs.newsLen
         rw [Nat.add_mul] at hfit
         have hst := run_storeCells_at (P := P) r (0 + m * i.size) t0 news 0 c0 w g1 (by omega) (scs_ok hsc hx)
         have hrun := run_app_room (ty := ty) (base := some ⟨r, 0, none⟩) ht hi hs hroom (by simp only [Addr.add_eq]; exact hst)
         have hxl := hx.length
         have hcl : c0.toList.length = sz := by simpa using g2
         have hlen : (l.take (m * i.size) ++ xs).length = m * i.size + (k + 1) * i.size := by simp; omega
         have hgr := hr_grow (l' := l.take (m * i.size) ++ xs) (c' := (c0.toList.take (0 + m * i.size + 0) ++ news ++ c0.toList.drop (0 + m * i.size + 0 + news.length)).toArray) hH hrow he g1 (by simp; omega) (by omega) (by
          have e1 : (c0.toList.take (0 + m * i.size + 0) ++ news ++ c0.toList.drop (0 + m * i.size + 0 + news.length)).take (l.take (m * i.size) ++ xs).length = (c0.toList.take l.length).take (m * i.size) ++ news := by
           rw [hlen, List.take_take, Nat.min_eq_left t1', List.take_append_of_le_length (by simp; omega), List.take_of_length_le (by simp; omega)]
           simp
          rw [show ((c0.toList.take (0 + m * i.size + 0) ++ news ++ c0.toList.drop (0 + m * i.size + 0 + news.length)).toArray.toList) = c0.toList.take (0 + m * i.size + 0) ++ news ++ c0.toList.drop (0 + m * i.size + 0 + news.length) from rfl, e1]
          exact VRL.append (VRL.take _ g4) hx)
         exact ⟨_, _, _, hrun, hgr.1, ⟨r, sz, ext_at _ _ _, k3, by rw [← k4]; exact k5, by rw [← k4]; rfl⟩, hgr.2⟩
        obtain ⟨y1, y2, y3, y4, y5, y6⟩ := app_new (h := h.drop b) (ty := ty) (old := l.take (m * i.size)) (hr_drop hH b) hel ht hi hz hzs hz0 (run_firstCells_some (P := P) w.drew i.size m ⟨r, 0, none⟩ m cap _ hold' (fun j v hv => by
         rw [Addr.add_eq]
         rw [List.getElem?_take] at hv
         split at hv
         · have := hcell j v hv
           rwa [Nat.zero_add]
         cases hv)) (VRL.take _ hcs) hold' hs hx (by omega) b2' b3'
        exact ⟨y1, y2, y3, y4, ⟨y5.le, y5.keep, y5.nx⟩, y6⟩
       cases hq
   cases hq
 cases hq
end
end Go.Iv
