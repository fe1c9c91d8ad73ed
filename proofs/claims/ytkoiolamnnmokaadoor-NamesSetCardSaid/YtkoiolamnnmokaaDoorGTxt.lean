/- Texts as lists of bytes: values, steps. No program in sight. -/
import Derived.Test.YtkoiolamnnmokaaDoorGStr
import Derived.Test.YtkoiolamnnmokaaDoorGRecN
set_option linter.unusedVariables false
set_option linter.unusedSimpArgs false
set_option linter.unusedSectionVars false
namespace Go.Gam

/-- A text of these bytes. -/
def str (l : List UInt8) : ByteArray := ⟨l.toArray⟩
theorem str_data (l : List UInt8) : (str l).data.toList = l := rfl
theorem str_of (s : ByteArray) : s = str s.data.toList := by
  obtain ⟨⟨l⟩⟩ := s
  rfl
theorem str_size (l : List UInt8) : (str l).size = l.length := rfl
theorem str_inj {a b : List UInt8} (h : str a = str b) : a = b := by
  have := congrArg (fun s => s.data.toList) h
  exact this
theorem str_beq (a b : List UInt8) : (str a == str b) = decide (a = b) := by
  rw [Bool.eq_iff_iff, MapKept.bytes_beq, decide_eq_true_iff]
  exact ⟨str_inj, fun h => h ▸ rfl⟩
theorem str_app (a b : List UInt8) : str a ++ str b = str (a ++ b) := by
  show ByteArray.append _ _ = _
  apply ByteArray.ext
  simp [str, ByteArray.data_append]
theorem bstr_str (l : List UInt8) : bstr (l.map UInt8.toNat) = str l := by
  unfold bstr str
  rw [List.map_map]
  congr 2
  refine (List.map_congr_left (g := id) fun x _ => ?_).trans (List.map_id l)
  simp
section
variable {P : Program} {F : Fs} {T : TypeId} {w : World} {x y : Operand} {D : FD} {B : Nat}
theorem v_catT {a b : List UInt8} {t s : TypeId} (hx : ev F x = some (.string (str a))) (hy : ev F y = some (.string (str b))) (h : a.length + b.length ≤ maxLen) : Val P (.binOp .add t x y s) T F w (.string (str (a ++ b))) :=
  fun ρ hr d p af g => by
    simp only [execOp, hr x _ hx, hr y _ hy, eqGuard, binOp]
    have hb : ¬ (((str a).size + (str b).size : Nat) : Int) > IntKind.i64.max := by
      rw [str_size, str_size]
      have e : IntKind.i64.max = 9223372036854775807 := by decide
      rw [e]
      unfold maxLen at h
      omega
    simp [Op.stringOp, str_app]
    rw [str_size, str_size] at hb
    rw [str_size, str_size]
    simpa using hb
theorem v_eqlT {a b : List UInt8} {t s : TypeId} (hx : ev F x = some (.string (str a))) (hy : ev F y = some (.string (str b))) : Val P (.binOp .eql t x y s) T F w (.bool (decide (a = b))) := by
  rw [← str_beq]
  exact v_eqlS hx hy
theorem v_neqT {a b : List UInt8} {t s : TypeId} (hx : ev F x = some (.string (str a))) (hy : ev F y = some (.string (str b))) : Val P (.binOp .neq t x y s) T F w (.bool (!decide (a = b))) := by
  rw [← str_beq]
  exact v_neqS hx hy
theorem v_lenT {t : TypeId} {ats : Array TypeId} {a : List UInt8} (hat : ats = #[t]) (ht : P.underlying t = some .string) (hx : ev F x = some (.string (str a))) :
    Val P (.call ⟨.builtin .len, #[x], ats⟩) T F w (.int .i64 (a.length : Int)) := v_lenStr hat ht hx
theorem v_ixT {t : TypeId} {a : List UInt8} {i : Operand} {k : IntKind} {I : Int} {b : UInt8} (ht : P.underlying t = some .string) (hx : ev F x = some (.string (str a))) (hi : ev F i = some (.int k I)) (h0 : 0 ≤ I) (hb : a[I.toNat]? = some b) :
    Val P (.index t x i) T F w (.int .u8 (b.toNat : Int)) := v_ixStr ht hx hi h0 hb
theorem str_extract (a : List UInt8) (l h : Nat) : (str a).extract l h = str ((a.take h).drop l) := by
  apply ByteArray.ext
  simp [str, ByteArray.data_extract, List.extract_eq_take_drop, List.drop_take]
theorem v_slHiT {t : TypeId} {a : List UInt8} {k : IntKind} {h : Nat} {y : Operand} (ht : P.underlying t = some .string) (hx : ev F x = some (.string (str a))) (hy : ev F y = some (.int k (h : Int))) (h1 : h ≤ a.length) :
    Val P (.slice t x none (some y) none) T F w (.string (str (a.take h))) :=
  fun ρ hρ d p af g => by
    have hs : (h : Int) ≤ ((str a).size : Int) := by rw [str_size]; omega
    have e := str_extract a 0 h
    rw [List.drop_zero] at e
    simp [execOp, hρ x _ hx, hρ y _ hy, Instr.sliceAt, Instr.slice, Instr.sliceBounds, Instr.sliceBound, asIntOf, underlying, ht, program, Sem.run, str_size, h1, e]
theorem v_slLoHiT {t : TypeId} {a : List UInt8} {k k' : IntKind} {l h : Nat} {y y' : Operand} (ht : P.underlying t = some .string) (hx : ev F x = some (.string (str a))) (hy : ev F y = some (.int k (l : Int))) (hy' : ev F y' = some (.int k' (h : Int))) (h0 : l ≤ h) (h1 : h ≤ a.length) :
    Val P (.slice t x (some y) (some y') none) T F w (.string (str ((a.take h).drop l))) :=
  fun ρ hρ d p af g => by
    have e := str_extract a l h
    simp [execOp, hρ x _ hx, hρ y _ hy, hρ y' _ hy', Instr.sliceAt, Instr.slice, Instr.sliceBounds, Instr.sliceBound, asIntOf, underlying, ht, program, Sem.run, str_size, h0, h1, e]
theorem v_slLoT {t : TypeId} {a : List UInt8} {k : IntKind} {l : Nat} {y : Operand} (ht : P.underlying t = some .string) (hx : ev F x = some (.string (str a))) (hy : ev F y = some (.int k (l : Int))) (h1 : l ≤ a.length) :
    Val P (.slice t x (some y) none none) T F w (.string (str (a.drop l))) :=
  fun ρ hρ d p af g => by
    have e := str_extract a l a.length
    rw [List.take_length] at e
    simp [execOp, hρ x _ hx, hρ y _ hy, Instr.sliceAt, Instr.slice, Instr.sliceBounds, Instr.sliceBound, asIntOf, underlying, ht, program, Sem.run, str_size, h1, e]
theorem v_bstrT {src dst e M cap n : Nat} {sa : Option Addr} {l : List UInt8} (hs : P.underlying src = some (.slice e)) (he : P.underlying e = some (.int .u8)) (hd : P.underlying dst = some .string)
    (hx : ev F x = some (.slice sa n cap)) (hr : Row D B M w (.slice sa n cap) (byt (l.map UInt8.toNat))) (hn : n = l.length) : Val P (.convert src dst x) T F w (.string (str l)) := by
  subst hn
  rw [← bstr_str]
  have e : l.length = (l.map UInt8.toNat).length := (List.length_map _).symm
  rw [e] at hx hr
  exact v_bstr hs he hd hx hr
end
end Go.Gam
