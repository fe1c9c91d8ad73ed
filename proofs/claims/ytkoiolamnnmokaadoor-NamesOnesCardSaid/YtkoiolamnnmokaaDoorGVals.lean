/- What each operation yields that leaves the world as it is: one lemma a kind of operation. No program in sight. -/
import Derived.Test.YtkoiolamnnmokaaDoorGCore
set_option linter.unusedVariables false
set_option linter.unusedSimpArgs false
namespace Go.Gam
open Go

section
variable {P : Program} {T : TypeId} {F : Fs} {w : World} {x y c : Operand} {v u : Value}

theorem v_move (hx : ev F x = some v) : Val P (.move x) T F w v := fun ρ h d p af g => by simp [execOp, h x v hx]
theorem v_assign (hx : ev F x = some v) : Val P (.assign x) T F w v := fun ρ h d p af g => by simp [execOp, h x v hx]
theorem v_pickT (hc : ev F c = some (.bool true)) (hx : ev F x = some v) : Val P (.pick c x y) T F w v :=
  fun ρ h d p af g => by simp [execOp, h c _ hc, h x v hx, asBool]
theorem v_pickF (hc : ev F c = some (.bool false)) (hy : ev F y = some v) : Val P (.pick c x y) T F w v :=
  fun ρ h d p af g => by simp [execOp, h c _ hc, h y v hy, asBool]
theorem v_not {b : Bool} {t : TypeId} (hx : ev F x = some (.bool b)) : Val P (.unOp .not t x) T F w (.bool (!b)) :=
  fun ρ h d p af g => by simp [execOp, h x _ hx, Op.unary]

/-! ### whole numbers -/
section ints
variable {k : IntKind} {X Y : Int} {t s : TypeId}

theorem v_add (hx : ev F x = some (.int k X)) (hy : ev F y = some (.int k Y)) : Val P (.binOp .add t x y s) T F w (.int k (k.wrap (X + Y))) :=
  fun ρ h d p af g => by simp [execOp, h x _ hx, h y _ hy, eqGuard, binOp, Op.intArith]
theorem v_sub (hx : ev F x = some (.int k X)) (hy : ev F y = some (.int k Y)) : Val P (.binOp .sub t x y s) T F w (.int k (k.wrap (X - Y))) :=
  fun ρ h d p af g => by simp [execOp, h x _ hx, h y _ hy, eqGuard, binOp, Op.intArith]
theorem v_mul (hx : ev F x = some (.int k X)) (hy : ev F y = some (.int k Y)) : Val P (.binOp .mul t x y s) T F w (.int k (k.wrap (X * Y))) :=
  fun ρ h d p af g => by simp [execOp, h x _ hx, h y _ hy, eqGuard, binOp, Op.intArith]
theorem v_quo (hx : ev F x = some (.int k X)) (hy : ev F y = some (.int k Y)) (h0 : Y ≠ 0) : Val P (.binOp .quo t x y s) T F w (.int k (k.wrap (X.tdiv Y))) :=
  fun ρ h d p af g => by simp [execOp, h x _ hx, h y _ hy, eqGuard, binOp, Op.intDiv, h0]
theorem v_rem (hx : ev F x = some (.int k X)) (hy : ev F y = some (.int k Y)) (h0 : Y ≠ 0) : Val P (.binOp .rem t x y s) T F w (.int k (X.tmod Y)) :=
  fun ρ h d p af g => by simp [execOp, h x _ hx, h y _ hy, eqGuard, binOp, Op.intDiv, h0]
theorem v_lss (hx : ev F x = some (.int k X)) (hy : ev F y = some (.int k Y)) : Val P (.binOp .lss t x y s) T F w (.bool (decide (X < Y))) :=
  fun ρ h d p af g => by simp [execOp, h x _ hx, h y _ hy, eqGuard, binOp, Op.intCmp]
theorem v_leq (hx : ev F x = some (.int k X)) (hy : ev F y = some (.int k Y)) : Val P (.binOp .leq t x y s) T F w (.bool (decide (X ≤ Y))) :=
  fun ρ h d p af g => by simp [execOp, h x _ hx, h y _ hy, eqGuard, binOp, Op.intCmp]
theorem v_gtr (hx : ev F x = some (.int k X)) (hy : ev F y = some (.int k Y)) : Val P (.binOp .gtr t x y s) T F w (.bool (decide (Y < X))) :=
  fun ρ h d p af g => by simp [execOp, h x _ hx, h y _ hy, eqGuard, binOp, Op.intCmp]
theorem v_geq (hx : ev F x = some (.int k X)) (hy : ev F y = some (.int k Y)) : Val P (.binOp .geq t x y s) T F w (.bool (decide (Y ≤ X))) :=
  fun ρ h d p af g => by simp [execOp, h x _ hx, h y _ hy, eqGuard, binOp, Op.intCmp]
theorem v_eql (hx : ev F x = some (.int k X)) (hy : ev F y = some (.int k Y)) : Val P (.binOp .eql t x y s) T F w (.bool (decide (X = Y))) :=
  fun ρ h d p af g => by simp [execOp, h x _ hx, h y _ hy, eqGuard, binOp, Op.intCmp]; rfl
theorem v_neq (hx : ev F x = some (.int k X)) (hy : ev F y = some (.int k Y)) : Val P (.binOp .neq t x y s) T F w (.bool (decide (X ≠ Y))) :=
  fun ρ h d p af g => by simp [execOp, h x _ hx, h y _ hy, eqGuard, binOp, Op.intCmp, bne]; rfl

theorem wrap_i64 (n : Int) (h : -9223372036854775808 ≤ n ∧ n ≤ 9223372036854775807) : IntKind.i64.wrap n = n := by
  have e : ∀ m : Int, (IntKind.i64.signed && decide (m ≥ (2 : Int) ^ (IntKind.i64.bits - 1))) = decide (9223372036854775808 ≤ m) := fun m => rfl
  have e2 : (2 : Int) ^ IntKind.i64.bits = 18446744073709551616 := rfl
  simp only [IntKind.wrap, e, e2, decide_eq_true_eq]
  split <;> omega
theorem wrap_u64 (n : Int) (h : 0 ≤ n ∧ n < 18446744073709551616) : IntKind.u64.wrap n = n := by
  simp only [IntKind.wrap, IntKind.bits, IntKind.signed, Bool.false_and, Bool.false_eq_true, if_false]
  omega
theorem wrap_u32 (n : Int) (h : 0 ≤ n ∧ n < 4294967296) : IntKind.u32.wrap n = n := by
  simp only [IntKind.wrap, IntKind.bits, IntKind.signed, Bool.false_and, Bool.false_eq_true, if_false]
  omega
theorem wrap_u16 (n : Int) (h : 0 ≤ n ∧ n < 65536) : IntKind.u16.wrap n = n := by
  simp only [IntKind.wrap, IntKind.bits, IntKind.signed, Bool.false_and, Bool.false_eq_true, if_false]
  omega
theorem wrap_u8 (n : Int) (h : 0 ≤ n ∧ n < 256) : IntKind.u8.wrap n = n := by
  simp only [IntKind.wrap, IntKind.bits, IntKind.signed, Bool.false_and, Bool.false_eq_true, if_false]
  omega
theorem wrap_u64' (n : Int) : IntKind.u64.wrap n = n % 18446744073709551616 := by simp [IntKind.wrap, IntKind.bits, IntKind.signed]
theorem wrap_u32' (n : Int) : IntKind.u32.wrap n = n % 4294967296 := by simp [IntKind.wrap, IntKind.bits, IntKind.signed]
theorem wrap_u8' (n : Int) : IntKind.u8.wrap n = n % 256 := by simp [IntKind.wrap, IntKind.bits, IntKind.signed]

theorem v_addI (hx : ev F x = some (.int .i64 X)) (hy : ev F y = some (.int .i64 Y)) (hb : -9223372036854775808 ≤ X + Y ∧ X + Y ≤ 9223372036854775807) :
    Val P (.binOp .add t x y s) T F w (.int .i64 (X + Y)) := (v_add hx hy).as (by rw [wrap_i64 _ hb])
theorem v_subI (hx : ev F x = some (.int .i64 X)) (hy : ev F y = some (.int .i64 Y)) (hb : -9223372036854775808 ≤ X - Y ∧ X - Y ≤ 9223372036854775807) :
    Val P (.binOp .sub t x y s) T F w (.int .i64 (X - Y)) := (v_sub hx hy).as (by rw [wrap_i64 _ hb])
theorem v_subN {m n : Nat} (hx : ev F x = some (.int .i64 (m : Int))) (hy : ev F y = some (.int .i64 (n : Int))) (h : n ≤ m) (hb : m < 9223372036854775808) :
    Val P (.binOp .sub t x y s) T F w (.int .i64 ((m - n : Nat) : Int)) := (v_sub hx hy).as (by rw [wrap_i64 _ (by omega)]; congr 1; omega)
theorem v_negI {t : TypeId} (hx : ev F x = some (.int .i64 X)) (hb : -9223372036854775808 ≤ 0 - X ∧ 0 - X ≤ 9223372036854775807) : Val P (.unOp .neg t x) T F w (.int .i64 (0 - X)) :=
  fun ρ h d p af g => by
    have e := wrap_i64 (0 - X) hb
    simp only [execOp, h x _ hx, Op.unary, Op.intArith]
    simp [Sem.run]
    simpa using e
theorem v_mulI (hx : ev F x = some (.int .i64 X)) (hy : ev F y = some (.int .i64 Y)) (hb : -9223372036854775808 ≤ X * Y ∧ X * Y ≤ 9223372036854775807) :
    Val P (.binOp .mul t x y s) T F w (.int .i64 (X * Y)) := (v_mul hx hy).as (by rw [wrap_i64 _ hb])
theorem v_quoI (hx : ev F x = some (.int .i64 X)) (hy : ev F y = some (.int .i64 Y)) (h0 : 0 ≤ X) (hX : X ≤ 9223372036854775807) (hY : 0 < Y) :
    Val P (.binOp .quo t x y s) T F w (.int .i64 (X / Y)) := (v_quo hx hy (by omega)).as (by
      rw [Int.tdiv_eq_ediv_of_nonneg h0, wrap_i64]
      have h1 := Int.ediv_nonneg h0 (Int.le_of_lt hY)
      have h2 : X / Y ≤ X := Int.ediv_le_self Y h0
      omega)
theorem v_remI (hx : ev F x = some (.int k X)) (hy : ev F y = some (.int k Y)) (h0 : 0 ≤ X) (hY : 0 < Y) : Val P (.binOp .rem t x y s) T F w (.int k (X % Y)) :=
  (v_rem hx hy (by omega)).as (by rw [Int.tmod_eq_emod_of_nonneg h0])

/-! ### bits: numbers as casts of natural ones -/
/-- A natural number fits a kind. -/
def fits (k : IntKind) (n : Nat) : Prop := n < 2 ^ (if k.signed then k.bits - 1 else k.bits)

theorem fits_lt {n : Nat} (h : fits k n) : n < 2 ^ k.bits := by
  unfold fits at h
  split at h
  · exact Nat.lt_of_lt_of_le h (Nat.pow_le_pow_right (by decide) (Nat.sub_le _ _))
  · exact h

theorem wrap_fits {n : Nat} (h : fits k n) : k.wrap (n : Int) = (n : Int) := by
  have h1 := fits_lt h
  have e1 : ((n : Int) % (2 ^ k.bits : Int)) = (n : Int) := by
    have : ((2 : Int) ^ k.bits) = ((2 ^ k.bits : Nat) : Int) := by simp
    rw [this, ← Int.natCast_emod, Nat.mod_eq_of_lt h1]
  simp only [IntKind.wrap, e1]
  unfold fits at h
  split
  · rename_i hc
    simp only [Bool.and_eq_true, decide_eq_true_eq] at hc
    rw [if_pos hc.1] at h
    have : ((2 : Int) ^ (k.bits - 1)) = ((2 ^ (k.bits - 1) : Nat) : Int) := by simp
    rw [this] at hc
    omega
  · rfl

theorem ofInt_nat {b n : Nat} : BitVec.ofInt b (n : Int) = BitVec.ofNat b n := by simp

theorem v_xorN {m n : Nat} (hx : ev F x = some (.int k (m : Int))) (hy : ev F y = some (.int k (n : Int))) (hm : fits k m) (hn : fits k n) :
    Val P (.binOp .xor t x y s) T F w (.int k ((m ^^^ n : Nat) : Int)) :=
  fun ρ h d p af g => by
    have e : ((BitVec.ofInt k.bits (m : Int)) ^^^ (BitVec.ofInt k.bits (n : Int))).toNat = m ^^^ n := by
      rw [ofInt_nat, ofInt_nat, BitVec.toNat_xor, BitVec.toNat_ofNat, BitVec.toNat_ofNat, Nat.mod_eq_of_lt (fits_lt hm), Nat.mod_eq_of_lt (fits_lt hn)]
    have hf : fits k (m ^^^ n) := Nat.xor_lt_two_pow hm hn
    simp only [execOp, h x _ hx, h y _ hy, eqGuard, binOp, Op.intBits, ne_eq, not_true_eq_false, if_false, e, wrap_fits hf]
    simp
theorem v_andN {m n : Nat} (hx : ev F x = some (.int k (m : Int))) (hy : ev F y = some (.int k (n : Int))) (hm : fits k m) (hn : fits k n) :
    Val P (.binOp .and t x y s) T F w (.int k ((m &&& n : Nat) : Int)) :=
  fun ρ h d p af g => by
    have e : ((BitVec.ofInt k.bits (m : Int)) &&& (BitVec.ofInt k.bits (n : Int))).toNat = m &&& n := by
      rw [ofInt_nat, ofInt_nat, BitVec.toNat_and, BitVec.toNat_ofNat, BitVec.toNat_ofNat, Nat.mod_eq_of_lt (fits_lt hm), Nat.mod_eq_of_lt (fits_lt hn)]
    have hf : fits k (m &&& n) := Nat.lt_of_le_of_lt Nat.and_le_left hm
    simp only [execOp, h x _ hx, h y _ hy, eqGuard, binOp, Op.intBits, ne_eq, not_true_eq_false, if_false, e, wrap_fits hf]
    simp
theorem v_quoN {m n : Nat} (hx : ev F x = some (.int k (m : Int))) (hy : ev F y = some (.int k (n : Int))) (h0 : 0 < n) (hm : fits k m) :
    Val P (.binOp .quo t x y s) T F w (.int k ((m / n : Nat) : Int)) := (v_quo hx hy (by omega)).as (by
      have hf : fits k (m / n) := Nat.lt_of_le_of_lt (Nat.div_le_self _ _) hm
      have e : (m : Int).tdiv (n : Int) = ((m / n : Nat) : Int) := by rw [Int.tdiv_eq_ediv_of_nonneg (Int.natCast_nonneg _)]; simp
      rw [e, wrap_fits hf])
theorem v_shrN {m : Nat} {j : IntKind} {Z : Int} (hx : ev F x = some (.int k (m : Int))) (hy : ev F y = some (.int j Z)) (h0 : 0 ≤ Z) :
    Val P (.binOp .shr t x y s) T F w (.int k ((m / 2 ^ (min Z.toNat k.bits) : Nat) : Int)) :=
  fun ρ h d p af g => by
    have e : ((m : Int).fdiv (2 ^ (min Z.toNat k.bits))) = ((m / 2 ^ (min Z.toNat k.bits) : Nat) : Int) := by
      have : ((2 : Int) ^ (min Z.toNat k.bits)) = ((2 ^ (min Z.toNat k.bits) : Nat) : Int) := by simp
      rw [this, Int.fdiv_eq_ediv_of_nonneg _ (Int.natCast_nonneg _)]
      simp
    have hz : ¬ (Z < 0) := by omega
    simp only [execOp, h x _ hx, h y _ hy, eqGuard, binOp, Op.shift, hz, if_false, e]
    simp
theorem v_shl {j : IntKind} {Z : Int} (hx : ev F x = some (.int k X)) (hy : ev F y = some (.int j Z)) (h0 : 0 ≤ Z) :
    Val P (.binOp .shl t x y s) T F w (.int k (k.wrap (X * 2 ^ (min Z.toNat k.bits)))) :=
  fun ρ h d p af g => by
    have hz : ¬ (Z < 0) := by omega
    simp only [execOp, h x _ hx, h y _ hy, eqGuard, binOp, Op.shift, hz, if_false]
    simp

theorem v_conv {dx : TypeDesc} (hs : P.underlying s = some dx) (ht : P.underlying t = some (.int k)) {j : IntKind} (hx : ev F x = some (.int j X)) :
    Val P (.convert s t x) T F w (.int k (k.wrap X)) :=
  fun ρ h d p af g => by
    simp only [execOp, h x _ hx, convert]
    simp [underlying, hs, ht, Conv.intToInt, program, Sem.run]
/-- A conversion that changes no number. -/
theorem v_cv {dx : TypeDesc} {Y : Int} (hs : P.underlying s = some dx) (ht : P.underlying t = some (.int k)) {j : IntKind} (hx : ev F x = some (.int j X)) (hw : k.wrap X = Y) :
    Val P (.convert s t x) T F w (.int k Y) := (v_conv hs ht hx).as (by rw [hw])
theorem fits_u64 {n : Nat} (h : n < 18446744073709551616) : fits .u64 n := h
theorem fits_u32 {n : Nat} (h : n < 4294967296) : fits .u32 n := h
theorem fits_u16 {n : Nat} (h : n < 65536) : fits .u16 n := h
theorem fits_u8 {n : Nat} (h : n < 256) : fits .u8 n := h
theorem fits_i64 {n : Nat} (h : n < 9223372036854775808) : fits .i64 n := h
end ints

/-! ### Bools, pointers -/
theorem v_eqlB {a b : Bool} {t s : TypeId} (hb : P.underlying t = some .bool) (hx : ev F x = some (.bool a)) (hy : ev F y = some (.bool b)) : Val P (.binOp .eql t x y s) T F w (.bool (decide (a = b))) :=
  fun ρ h d p af g => by
    simp only [execOp, h x _ hx, h y _ hy, eqGuard, binOp]
    have he : ∀ (e : Nat) (a b : Bool), (Op.equalIn (e + 1) t (.bool a) (.bool b)).run P w = .ok (decide (a = b)) w := by
      intro e a b
      cases a <;> cases b <;> simp [Op.equalIn, underlying, hb, program, Sem.run]
    have he' : (Op.equal t (.bool a) (.bool b)).run P w = .ok (decide (a = b)) w := he 9999 a b
    simp [he']
theorem v_eqlNil {a : Option Addr} {t e s : TypeId} (hb : P.underlying t = some (.pointer e)) (hx : ev F x = some (.pointer a)) (hy : ev F y = some (.pointer none)) : Val P (.binOp .eql t x y s) T F w (.bool a.isNone) :=
  fun ρ h d p af g => by
    simp only [execOp, h x _ hx, h y _ hy, eqGuard, binOp]
    have he : ∀ (e : Nat), (Op.equalIn (e + 1) t (.pointer a) (.pointer none)).run P w = .ok a.isNone w := by
      intro e
      cases a <;> simp [Op.equalIn, underlying, hb, program, Sem.run]
    have he' : (Op.equal t (.pointer a) (.pointer none)).run P w = .ok a.isNone w := he 9999
    simp [he']
theorem v_neqNil {a : Option Addr} {t e s : TypeId} (hb : P.underlying t = some (.pointer e)) (hx : ev F x = some (.pointer a)) (hy : ev F y = some (.pointer none)) : Val P (.binOp .neq t x y s) T F w (.bool (!a.isNone)) :=
  fun ρ h d p af g => by
    simp only [execOp, h x _ hx, h y _ hy, eqGuard, binOp]
    have he : ∀ (e : Nat), (Op.equalIn (e + 1) t (.pointer a) (.pointer none)).run P w = .ok a.isNone w := by
      intro e
      cases a <;> simp [Op.equalIn, underlying, hb, program, Sem.run]
    have he' : (Op.equal t (.pointer a) (.pointer none)).run P w = .ok a.isNone w := he 9999
    simp [he']
theorem v_nil {a : Addr} (hx : ev F x = some (.pointer (some a))) : Val P (.nilCheck x) T F w (.pointer (some a)) := fun ρ h d p af g => by simp [execOp, h x _ hx]

/-- Field f of the struct type s lies off cells behind its head. -/
def FieldFact (P : Program) (s : TypeId) (f off : Nat) : Prop := ∃ fs fd i, P.underlying s = some (.struct fs) ∧ fs[f]? = some fd ∧ P.info? fd.type = some i ∧ i.size ≠ 0 ∧ fd.offset = off

theorem Addr.add_eq (b o n : Nat) : (⟨b, o, none⟩ : Addr).add n = ⟨b, o + n, none⟩ := by
  unfold Addr.add
  split
  · rename_i h; subst h; rfl
  · rfl

theorem ff_of {s f off sz : Nat} {fs : Array Field} (h1 : P.underlying s = some (.struct fs)) (h : (fs[f]?).bind (fun fd => (P.info? fd.type).map fun i => (fd.offset, i.size)) = some (off, sz + 1)) : FieldFact P s f off := by
  cases hf : fs[f]? with
  | none => rw [hf] at h; cases h
  | some fd =>
    rw [hf, Option.bind_some] at h
    cases hi : P.info? fd.type with
    | none => rw [hi] at h; cases h
    | some i =>
      rw [hi] at h
      simp only [Option.map_some, Option.some.injEq, Prod.mk.injEq] at h
      exact ⟨fs, fd, i, h1, hf, hi, by omega, h.1⟩

theorem v_fieldAddr {s f off b o : Nat} (hf : FieldFact P s f off) (hx : ev F x = some (.pointer (some ⟨b, o, none⟩))) : Val P (.fieldAddr s x f) T F w (.pointer (some ⟨b, o + off, none⟩)) :=
  fun ρ h d p af g => by
    obtain ⟨fs, fd, i, h1, h2, h3, h4, h5⟩ := hf
    simp [execOp, h x _ hx, Instr.fieldAt, underlying, h1, h2, Instr.sureAddr, fieldPlace, sizeOf, typeInfo, h3, h4, h5, program, Sem.run, Addr.add_eq]

/-- A type whose variables are one cell that is loaded as it is. -/
def Scalar (P : Program) (t : TypeId) : Prop := ∃ d, P.underlying t = some d ∧ (∀ fs, d ≠ .struct fs) ∧ (∀ n e, d ≠ .array n e)

theorem run_isAgg {t : TypeId} (hs : Scalar P t) : (isAgg t).run P w = .ok false w := by
  obtain ⟨d, h1, h2, h3⟩ := hs
  simp only [isAgg, underlying, program]
  cases d <;> simp_all [Sem.run]

theorem v_load {t : TypeId} {a : Addr} (hs : Scalar P t) (hx : ev F x = some (.pointer (some a))) (hc : w.cell? a = some v) : Val P (.load t x) T F w v :=
  fun ρ h d p af g => by
    simp only [execOp, h x _ hx, Instr.loadAt, Instr.sureAddr, loadVar]
    simp [run_isAgg hs, load, Sem.run, hc]

/-- The elements of slice type t are of type e: one cell each, z where nothing was stored, of so many bytes. -/
def Sl (P : Program) (t e : TypeId) (z : Value) (by_ : Nat) : Prop := P.underlying t = some (.slice e) ∧ z.cells = #[z] ∧ ∃ i, P.info? e = some i ∧ i.size = 1 ∧ i.zero = some z ∧ i.bytes = by_

theorem sl_of {t e by_ : Nat} {z : Value} (h1 : P.underlying t = some (.slice e)) (hz : z.cells = #[z]) (h : (P.info? e).map (fun i => (i.zero, i.size, i.bytes)) = some (some z, 1, by_)) : Sl P t e z by_ := by
  refine ⟨h1, hz, ?_⟩
  cases hi : P.info? e with
  | none => rw [hi] at h; cases h
  | some i =>
    rw [hi] at h
    simp only [Option.map_some, Option.some.injEq, Prod.mk.injEq] at h
    exact ⟨i, rfl, h.2.1, h.1, h.2.2⟩

theorem v_ixS {t e b o len cap by_ : Nat} {z : Value} {i : Operand} {k : IntKind} {I : Int} (ht : Sl P t e z by_) (hx : ev F x = some (.slice (some ⟨b, o, none⟩) len cap)) (hi : ev F i = some (.int k I)) (h0 : 0 ≤ I) (hl : I < len) :
    Val P (.indexAddr t x i) T F w (.pointer (some ⟨b, o + I.toNat, none⟩)) :=
  fun ρ h d p af g => by
    obtain ⟨h1, _, j, h2, h3, _⟩ := ht
    simp [execOp, h x _ hx, h i _ hi, Instr.indexAt, asIntOf, underlying, h1, sizeOf, typeInfo, h2, h3, program, Sem.run, h0, hl, Addr.add_eq]

/-- Array type t has n elements of one cell each. -/
def ArrOf (P : Program) (t n : Nat) : Prop := ∃ e i, P.underlying t = some (.array n e) ∧ P.info? e = some i ∧ i.size = 1
theorem ar_of {t n e : Nat} (h1 : P.underlying t = some (.array n e)) (h : (P.info? e).map (fun i => i.size) = some 1) : ArrOf P t n := by
  cases hi : P.info? e with
  | none => rw [hi] at h; cases h
  | some i =>
    rw [hi] at h
    simp only [Option.map_some, Option.some.injEq] at h
    exact ⟨e, i, h1, hi, h⟩

theorem v_ixA {t n b o : Nat} {i : Operand} {k : IntKind} {I : Int} (ht : ArrOf P t n)
    (hx : ev F x = some (.pointer (some ⟨b, o, none⟩))) (hi : ev F i = some (.int k I)) (h0 : 0 ≤ I) (hl : I < n) :
    Val P (.indexAddr t x i) T F w (.pointer (some ⟨b, o + I.toNat, none⟩)) :=
  fun ρ h d p af g => by
    obtain ⟨e, info, h1, hin, hsz⟩ := ht
    simp [execOp, h x _ hx, h i _ hi, Instr.indexAt, Instr.sureAddr, asIntOf, underlying, h1, sizeOf, typeInfo, hin, hsz, program, Sem.run, h0, hl, Addr.add_eq]

theorem v_ext {vs : List Value} {i : Nat} (hx : ev F x = some (.tuple vs.toArray)) (hi : nth vs i = some v) : Val P (.extract x i) T F w v :=
  fun ρ h d p af g => by
    rw [nth_eq] at hi
    simp [execOp, h x _ hx, Instr.extract, hi]

theorem v_lenS {t e by_ : Nat} {z : Value} {ats : Array TypeId} {a : Option Addr} {n c : Nat} (hat : ats = #[t]) (ht : Sl P t e z by_) (hx : ev F x = some (.slice a n c)) :
    Val P (.call ⟨.builtin .len, #[x], ats⟩) T F w (.int .i64 (n : Int)) :=
  fun ρ h d p af g => by
    subst hat
    simp [execOp, resolve, invoke, builtin, Builtin.len_, h x _ hx, underlying, ht.1, program, Sem.run, goInt]
theorem v_lenStr {t : TypeId} {ats : Array TypeId} {s : ByteArray} (hat : ats = #[t]) (ht : P.underlying t = some .string) (hx : ev F x = some (.string s)) :
    Val P (.call ⟨.builtin .len, #[x], ats⟩) T F w (.int .i64 (s.size : Int)) :=
  fun ρ h d p af g => by
    subst hat
    simp [execOp, resolve, invoke, builtin, Builtin.len_, h x _ hx, underlying, ht, program, Sem.run, goInt]

theorem v_ixStr {t : TypeId} {s : ByteArray} {i : Operand} {k : IntKind} {I : Int} {b : UInt8} (ht : P.underlying t = some .string) (hx : ev F x = some (.string s)) (hi : ev F i = some (.int k I)) (h0 : 0 ≤ I) (hb : s.data.toList[I.toNat]? = some b) :
    Val P (.index t x i) T F w (.int .u8 (b.toNat : Int)) :=
  fun ρ h d p af g => by
    have hb' : s[I.toNat]? = some b := by
      have h1 := (List.getElem?_eq_some_iff.1 hb).1
      have h2 := (List.getElem?_eq_some_iff.1 hb).2
      have h3 : I.toNat < s.size := by simpa using h1
      rw [getElem?_pos s _ h3]
      exact congrArg some h2
    simp [execOp, h x _ hx, h i _ hi, Instr.index, asIntOf, underlying, ht, program, Sem.run, h0, hb']

theorem v_mkf {fn : Fn} {cs : List Operand} {vs : List Value} (hc : evs F cs = some vs) : Val P (.makeFunc fn #[] cs.toArray) T F w (.func fn ([] : List Value).toArray vs.toArray) :=
  fun ρ h d p af g => by
    have := h.list cs vs hc
    simp [execOp, Instr.makeFunc, this]
end
end Go.Gam
