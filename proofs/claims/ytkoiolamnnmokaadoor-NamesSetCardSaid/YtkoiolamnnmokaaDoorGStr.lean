/- Rows of bytes as strings. No program in sight. -/
import Derived.Test.YtkoiolamnnmokaaDoorGReg
import Derived.Laws.BytesString
import Derived.MapKept
import Derived.Laws.StructEq
set_option linter.unusedVariables false
set_option linter.unusedSimpArgs false
namespace Go.Gam

def bstr (l : List Nat) : ByteArray := ⟨(l.map UInt8.ofNat).toArray⟩

theorem push_all : ∀ (l : List Nat) (s : ByteArray), ((l.map fun (n : Nat) => (n : Int)).foldl (fun r n => r.push (UInt8.ofNat n.toNat)) s) = ⟨s.data ++ (l.map UInt8.ofNat).toArray⟩
  | [], s => by simp
  | n :: l, s => by
    simp only [List.map_cons, List.foldl_cons]
    rw [push_all l]
    simp [ByteArray.push]

theorem bstr_eq {x y : List Nat} (hx : ∀ u ∈ x, u < 256) (hy : ∀ u ∈ y, u < 256) : (bstr x == bstr y) = decide (x = y) := by
  have key : bstr x = bstr y ↔ x = y := by
    constructor
    · intro h
      have h2 : x.map UInt8.ofNat = y.map UInt8.ofNat := by
        have := congrArg ByteArray.data h
        simpa [bstr] using this
      have h3 : ∀ l : List Nat, (∀ u ∈ l, u < 256) → (l.map UInt8.ofNat).map UInt8.toNat = l := by
        intro l hl
        rw [List.map_map]
        conv => rhs; rw [← List.map_id l]
        refine List.map_congr_left fun u hu => ?_
        have := hl u hu
        simp [Function.comp]
        omega
      rw [← h3 x hx, ← h3 y hy, h2]
    · rintro rfl; rfl
  rw [Bool.eq_iff_iff, MapKept.bytes_beq, decide_eq_true_iff, key]

theorem bstr_lit {l : List Nat} (a : ByteArray) (h : a = bstr l) : a = bstr l := h

section
variable {P : Program} {F : Fs} {T : TypeId} {w : World} {x y : Operand} {D : FD} {B : Nat}
theorem v_bstr {src dst e M cap : Nat} {sa : Option Addr} {bs : List Nat} (hs : P.underlying src = some (.slice e)) (he : P.underlying e = some (.int .u8)) (hd : P.underlying dst = some .string)
    (hx : ev F x = some (.slice sa bs.length cap)) (hr : Row D B M w (.slice sa bs.length cap) (byt bs)) : Val P (.convert src dst x) T F w (.string (bstr bs)) :=
  fun ρ h d p af g => by
    have hrun : (Conv.bytesToString (.slice sa bs.length cap)).run P w = .ok (.string (bstr bs)) w := by
      rcases hr with ⟨a9, c9, h1, h2⟩ | ⟨gb, o, cap', h1, h0, h2, h3, h4, h5⟩
      · have : bs = [] := List.map_eq_nil_iff.1 h2
        subst this
        cases sa <;> simp [Conv.bytesToString, bstr, loadCells, loadCellsFrom] <;> rfl
      · obtain ⟨rfl, -, -⟩ := Value.slice.inj h1
        have hl := run_loadCells_list (P := P) (w := w) ⟨gb, o, none⟩ (byt bs) (fun j v hv => by rw [Addr.add_eq]; exact h5 j v hv)
        rw [byt_length] at hl
        have := run_bytesToString (P := P) w ⟨gb, o, none⟩ bs.length cap (bs.map fun (n : Nat) => (n : Int)) (by rw [hl]; simp [byt, Function.comp_def])
        rw [this, push_all]
        simp [bstr]
    simp only [execOp, h x _ hx, run_convert_bytes_string w src dst e sa bs.length cap hs he hd]
    simp [run_convert_bytes_string w src dst e sa bs.length cap hs he hd, hrun]
theorem v_eqlS {a b : ByteArray} {t s : TypeId} (hx : ev F x = some (.string a)) (hy : ev F y = some (.string b)) : Val P (.binOp .eql t x y s) T F w (.bool (a == b)) :=
  fun ρ h d p af g => by
    simp only [execOp, h x _ hx, h y _ hy, eqGuard, binOp]
    simp [Op.stringOp, beq_toListBytes]
theorem v_neqS {a b : ByteArray} {t s : TypeId} (hx : ev F x = some (.string a)) (hy : ev F y = some (.string b)) : Val P (.binOp .neq t x y s) T F w (.bool (!(a == b))) :=
  fun ρ h d p af g => by
    simp only [execOp, h x _ hx, h y _ hy, eqGuard, binOp]
    simp [Op.stringOp, beq_toListBytes]
end
end Go.Gam
