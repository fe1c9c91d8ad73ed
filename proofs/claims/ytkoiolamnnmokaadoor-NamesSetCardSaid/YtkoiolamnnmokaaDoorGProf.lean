/- The table of profiles. No program in sight. -/
import Derived.Test.YtkoiolamnnmokaaDoorGRecN
import Derived.Test.YtkoiolamnnmokaaDoorGCau
set_option linter.unusedVariables false
set_option linter.unusedSimpArgs false
set_option linter.unusedSectionVars false
namespace Go.Gam

/-- A profile, cell by cell. -/
def prf (a b : UInt8) (bits poly : Int) (l : Int) (m : Int) : List Value := [.string ⟨#[a, b]⟩, .int .i64 bits, .int .u32 poly, .int .u8 l, .int .i64 m]
def prz : List Value := [.string ⟨#[]⟩, .int .i64 0, .int .u32 0, .int .u8 0, .int .i64 0]
def prN : Nat → List Value
  | 0 => prf 106 118 8 285 106 4
  | 1 => prf 106 99 16 69643 106 4
  | 2 => prf 105 114 8 285 105 3
  | 3 => prf 105 99 8 285 105 4
  | 4 => prf 98 98 8 285 98 4
  | _ => prf 107 112 8 285 112 4
def prAll : List Value := prN 0 ++ (prN 1 ++ (prN 2 ++ (prN 3 ++ (prN 4 ++ prN 5))))
def prOf (p : Int) : List Value := if 1 ≤ p ∧ p ≤ 6 then prN (p - 1).toNat else prz
theorem prN_len (i : Nat) : (prN i).length = 5 := by unfold prN; split <;> rfl
theorem prOf_len (p : Int) : (prOf p).length = 5 := by unfold prOf; split; exact prN_len _; rfl
theorem prOf_one (p : Int) : (prOf p).toArray.toList.all (·.oneCell') = true := by
  unfold prOf prN
  split
  · split <;> rfl
  · rfl
theorem prOf_ext {p : Int} (h1 : 1 ≤ p) (h2 : p ≤ 6) : prAll.toArray.extract ((p - 1).toNat * 5) ((p - 1).toNat * 5 + 5) = (prOf p).toArray := by
  have : p = 1 ∨ p = 2 ∨ p = 3 ∨ p = 4 ∨ p = 5 ∨ p = 6 := by omega
  rcases this with rfl | rfl | rfl | rfl | rfl | rfl <;> rfl
theorem prOf_no {p : Int} (h : ¬ (1 ≤ p ∧ p ≤ 6)) : prOf p = prz := if_neg h
def tagS : Nat → ByteArray
  | 0 => ⟨#[106, 118]⟩
  | 1 => ⟨#[106, 99]⟩
  | 2 => ⟨#[105, 114]⟩
  | 3 => ⟨#[105, 99]⟩
  | 4 => ⟨#[98, 98]⟩
  | _ => ⟨#[107, 112]⟩
theorem prN_tag (i : Nat) : nth (prN i).toArray.toList 0 = some (.string (tagS i)) := by unfold prN tagS; split <;> rfl
theorem prN_one (i : Nat) : (prN i).toArray.toList.all (·.oneCell') = true := by unfold prN; split <;> rfl
theorem prN_ext {i : Nat} (h : i < 6) : prAll.toArray.extract ((i : Int).toNat * 5) ((i : Int).toNat * 5 + 5) = (prN i).toArray := by
  have : i = 0 ∨ i = 1 ∨ i = 2 ∨ i = 3 ∨ i = 4 ∨ i = 5 := by omega
  rcases this with rfl | rfl | rfl | rfl | rfl | rfl <;> rfl
/-- The first tag from i on that is s. -/
def tagR (s : ByteArray) : Nat → Nat → Int × Bool
  | _, 0 => (0, false)
  | i, d + 1 => if tagS i = s then (((i + 1 : Nat) : Int), true) else tagR s (i + 1) d
def maxM (p : Int) : Int := if p = 3 then 3 else 4
theorem prOf_max {p : Int} (h1 : 1 ≤ p) (h2 : p ≤ 6) : nth (prOf p).toArray.toList 4 = some (.int .i64 (maxM p)) := by
  have : p = 1 ∨ p = 2 ∨ p = 3 ∨ p = 4 ∨ p = 5 ∨ p = 6 := by omega
  rcases this with rfl | rfl | rfl | rfl | rfl | rfl <;> rfl
def mayP (p k m : Int) : Bool := decide (1 ≤ p ∧ p ≤ 6 ∧ 1 ≤ k ∧ k ≤ 8 ∧ 1 ≤ m ∧ m ≤ maxM p)
/-- A profile's field. -/
def pfl (p : Int) : Nat × Nat := if p = 2 then (16, 69643) else (8, 285)
theorem prOf_bits {p : Int} (h1 : 1 ≤ p) (h2 : p ≤ 6) : nth (prOf p).toArray.toList 1 = some (.int .i64 (((pfl p).1 : Nat) : Int)) := by
  have : p = 1 ∨ p = 2 ∨ p = 3 ∨ p = 4 ∨ p = 5 ∨ p = 6 := by omega
  rcases this with rfl | rfl | rfl | rfl | rfl | rfl <;> rfl
theorem prOf_poly {p : Int} (h1 : 1 ≤ p) (h2 : p ≤ 6) : nth (prOf p).toArray.toList 2 = some (.int .u32 (((pfl p).2 : Nat) : Int)) := by
  have : p = 1 ∨ p = 2 ∨ p = 3 ∨ p = 4 ∨ p = 5 ∨ p = 6 := by omega
  rcases this with rfl | rfl | rfl | rfl | rfl | rfl <;> rfl
theorem pfl_new (p : Int) : newF ((pfl p).1 : Int) (pfl p).2 = some (pfl p) := by
  unfold pfl
  split
  · exact newF_p prm_69643
  · exact newF_p prm_285
theorem pfl_lt (p : Int) : (pfl p).1 ≤ 16 ∧ (pfl p).2 < 4294967296 := by unfold pfl; split <;> decide
section
variable {wb q : Nat} (hp : Prm wb q)
def behM (k m : Int) : Option Mtx := if fitB (some (wb, q)) k m = true then some (tab m.toNat k.toNat fun i j => sysT hp k.toNat (k.toNat + i) j) else none
end

/-! ### parity rows of a profile -/
theorem rnL_nodup (fr n : Nat) : (rnL fr n).Nodup := by
  unfold rnL
  rw [List.nodup_iff_pairwise_ne, List.pairwise_map]
  exact List.nodup_range.imp fun h e => h (by omega)
theorem rnL_mem {fr n : Nat} {z : Int} : z ∈ rnL fr n ↔ ∃ j, j < n ∧ z = ((fr + j : Nat) : Int) := by
  unfold rnL
  simp only [List.mem_map, List.mem_range]
  exact ⟨fun ⟨j, h, e⟩ => ⟨j, h, e.symm⟩, fun ⟨j, h, e⟩ => ⟨j, h, e.symm⟩⟩
theorem rn_ok {wb a n b m : Nat} (hw : wb = 8 ∨ wb = 16) (h1 : 1 ≤ n) (h2 : 1 ≤ m) (h3 : n + m ≤ 20) (hd : a + n = b ∧ a = 0 ∨ b + m = a ∧ b = 0) : ofB wb (rnL a n) (rnL b m) = true := by
  have hs : 2 ^ wb ≥ 256 := by rcases hw with h | h <;> rw [h] <;> decide
  refine ofB_ok (by rw [rnL_length, rnL_length]; omega) (List.nodup_append.2 ⟨rnL_nodup _ _, rnL_nodup _ _, fun x hx y hy e => ?_⟩) fun z hz => ?_
  · obtain ⟨i, hi, rfl⟩ := rnL_mem.1 hx
    obtain ⟨j, hj, rfl⟩ := rnL_mem.1 hy
    omega
  · rcases List.mem_append.1 hz with hz | hz <;> obtain ⟨i, hi, rfl⟩ := rnL_mem.1 hz <;> constructor <;> omega
section
variable {wb q : Nat} (hp : Prm wb q)
theorem origM_is {k m : Nat} (h1 : 1 ≤ k) (h2 : 1 ≤ m) (h3 : k + m ≤ 20) : origM hp (k : Int) (m : Int) = some (tab m k (ofT hp (rnL 0 m) (rnL m k))) := by
  unfold origM
  rw [if_pos (fitB_ok rfl h1 h2 h3), Int.toNat_natCast, Int.toNat_natCast, ofM_is hp (rn_ok hp.w (by omega) (by omega) (by omega) (by omega)), rnL_length, rnL_length]
theorem cisaM_is {k m : Nat} (h1 : 1 ≤ k) (h2 : 1 ≤ m) (h3 : k + m ≤ 20) : cisaM hp (k : Int) (m : Int) = some (tab m k (ofT hp (rnL k m) (rnL 0 k))) := by
  unfold cisaM
  rw [if_pos (fitB_ok rfl h1 h2 h3), Int.toNat_natCast, Int.toNat_natCast, ofM_is hp (rn_ok hp.w (by omega) (by omega) (by omega) (by omega)), rnL_length, rnL_length]
end
def prT (p : Int) (k m : Nat) : Tb :=
  if p = 1 then parT prm_285 k m else if p = 2 then ofT prm_69643 (rnL 0 m) (rnL m k) else if p = 3 then isT (some (8, 285)) else if p = 4 then ofT prm_285 (rnL k m) (rnL 0 k) else fun i j => sysT prm_285 k (k + i) j
theorem mayP_of {p k m : Int} (h : mayP p k m = true) : 1 ≤ p ∧ p ≤ 6 ∧ ∃ kn mn : Nat, k = (kn : Int) ∧ m = (mn : Int) ∧ 1 ≤ kn ∧ kn ≤ 8 ∧ 1 ≤ mn ∧ mn ≤ 4 ∧ (p = 3 → mn ≤ 3) := by
  unfold mayP maxM at h
  have h := of_decide_eq_true h
  refine ⟨h.1, h.2.1, k.toNat, m.toNat, ?_⟩
  split at h <;> omega
theorem mayP_is {p : Int} {kn mn : Nat} (h1 : 1 ≤ p ∧ p ≤ 6) (h2 : 1 ≤ kn ∧ kn ≤ 8) (h3 : 1 ≤ mn ∧ mn ≤ 4) (h4 : p = 3 → mn ≤ 3) : mayP p (kn : Int) (mn : Int) = true := by
  unfold mayP maxM
  refine decide_eq_true ?_
  split <;> omega
/-! ### plain laws of layer 9 -/
theorem pick4p (n : Nat) : [Value.int .i64 3, Value.int .i64 4, Value.int .i64 5, Value.int .i64 6][n % 4]? = some (.int .i64 ((3 + n % 4 : Nat) : Int)) := by
  have h : n % 4 = 0 ∨ n % 4 = 1 ∨ n % 4 = 2 ∨ n % 4 = 3 := by omega
  rcases h with h | h | h | h <;> rw [h] <;> rfl
theorem rnL_get {fr n i : Nat} (h : i < n) : (rnL fr n).getD i 0 = ((fr + i : Nat) : Int) := by
  rw [List.getD_eq_getElem?_getD, rnL_at h]; rfl
theorem prT_more {p : Int} (h : 3 ≤ p) {k m : Nat} : tab m k (prT p k (m + 1)) = tab m k (prT p k m) := by
  refine tab_congr fun i j hi hj => ?_
  unfold prT
  simp only [show ¬ p = 1 by omega, show ¬ p = 2 by omega, if_false]
  split
  · rfl
  · split
    · unfold ofT
      rw [rnL_get (show i < m + 1 by omega), rnL_get hi]
    · rfl
theorem prT_twin {k m : Nat} : prT 5 k m = prT 6 k m := rfl
theorem aw9_par : tab 2 2 (prT 3 2 2) = [[1, 1], [1, 2]] := by
  have h1 := isalM_is (o := some (8, 285)) rfl (k := 2) (m := 2) (by decide) (by decide) (by decide)
  have e : prT 3 2 2 = isT (some (8, 285)) := by unfold prT; simp
  rw [e]
  exact Option.some.inj (h1.symm.trans aw6_isal)
theorem prOf_N {i : Nat} (h : i < 6) : prOf ((i + 1 : Nat) : Int) = prN i := by
  unfold prOf
  rw [if_pos (by omega), show (((i + 1 : Nat) : Int) - 1).toNat = i by omega]
theorem prOf_tag {i : Nat} (h : i < 6) : nth (prOf ((i + 1 : Nat) : Int)).toArray.toList 0 = some (.string (tagS i)) := by rw [prOf_N h]; exact prN_tag i
theorem tag_of {i : Nat} (h : i < 6) : tagR (tagS i) 0 6 = (((i + 1 : Nat) : Int), true) := by
  have : i = 0 ∨ i = 1 ∨ i = 2 ∨ i = 3 ∨ i = 4 ∨ i = 5 := by omega
  rcases this with rfl | rfl | rfl | rfl | rfl | rfl <;> decide
def fns (a b c d e f : FuncId) : List Value := [.func (.func a) #[] #[], .func (.func b) #[] #[], .func (.func c) #[] #[], .func (.func d) #[] #[], .func (.func e) #[] #[], .func (.func f) #[] #[]]
end Go.Gam
