/- Texts of the claim ProfileTells (part 7), put together in the order of their imports. -/
import Derived.Test.YtkoiolamnnmokaaGreatKProfileTells6
import Derived.Deep.WholeRow
import Derived.MapKept
/- Matrices of powers: what package vander tells; rows that are chosen. No program in sight. -/
set_option linter.unusedVariables false
set_option linter.unusedSimpArgs false
namespace Go.Gam
open Px
theorem gpow_nn {wb p : Nat} (hp : Prm wb p) (x n : Int) : 0 ≤ gpow (some (wb, p)) x n ∧ gpow (some (wb, p)) x n < ((2 ^ wb : Nat) : Int) := by
  have h0 := hp.size.1
  unfold gpow
  split
  · have := hp.pow_lt x.toNat n.toNat
    exact ⟨Int.natCast_nonneg _, by show ((Px.pow x.toNat p n.toNat : Nat) : Int) < _; omega⟩
  · exact ⟨by omega, by omega⟩
def pwT (o : Fq) : Tb := fun i j => (gpow o (i : Int) (j : Int)).toNat
def isT (o : Fq) : Tb := fun i j => (gpow o (gpow o 2 (i : Int)) (j : Int)).toNat
def fitB (o : Fq) (k m : Int) : Bool := o.isSome && decide (1 ≤ k ∧ 1 ≤ m ∧ k < 20 ∧ m < 20 ∧ k + m ≤ 20)
def rawB (o : Fq) (k m : Int) : Bool := o.isSome && decide (1 ≤ k ∧ k ≤ 20 ∧ 1 ≤ m ∧ m ≤ 20)
def rawM (o : Fq) (k m : Int) : Option Mtx := if rawB o k m = true then some (tab k.toNat m.toNat (pwT o)) else none
def isalM (o : Fq) (k m : Int) : Option Mtx := if fitB o k m = true then some (tab m.toNat k.toNat (isT o)) else none
section
variable {wb p : Nat} (hp : Prm wb p)
def vinv (k : Nat) : Tb := (hp.fld.iv k fun i j => hp.fld.pow i j).getD I1
def sysT (k : Nat) : Tb := hp.fld.mm k (fun i j => hp.fld.pow i j) (vinv hp k)
def sysM (k m : Int) : Option Mtx := if fitB (some (wb, p)) k m = true then some (tab (k + m).toNat k.toNat (sysT hp k.toNat)) else none
theorem pwT_pow {i j : Nat} (hi : i < 256) : pwT (some (wb, p)) i j = hp.fld.pow i j := by
  unfold pwT
  have := hp.size.1
  rw [gpow_fld hp (by omega), Int.toNat_natCast]
theorem isT_pow {i j : Nat} : isT (some (wb, p)) i j = hp.fld.pow (hp.fld.pow 2 i) j := by
  unfold isT
  have := hp.size.1
  have h2 : hp.fld.pow 2 i < 2 ^ wb := by have := hp.fld.pow_lt 2 i; rwa [hp.fld_w] at this
  rw [show (2 : Int) = ((2 : Nat) : Int) from rfl, gpow_fld hp (by omega), gpow_fld hp h2, Int.toNat_natCast]
theorem vinv_ok {k : Nat} (hk : k ≤ 256) : hp.fld.iv k (fun i j => hp.fld.pow i j) = some (vinv hp k) ∧ hp.fld.Iv k (fun i j => hp.fld.pow i j) (vinv hp k) := by
  have h16 := hp.size.1
  have hb : hp.fld.Bd fun i j => hp.fld.pow i j := fun i j => hp.fld.pow_lt _ _
  obtain ⟨g, hg⟩ := hp.fld.vander (n := k) (x := fun i => if i < 256 then i else 0) (fun i => by rw [hp.fld_w]; split <;> omega) (fun i j hi hj e => by
    rw [if_pos (by omega), if_pos (by omega)] at e
    exact e)
  have hc := hp.fld.iv_congr (n := k) (f := fun i j => hp.fld.pow i j) (g := fun i k => hp.fld.pow (if i < 256 then i else 0) k) hb (fun i j => hp.fld.pow_lt _ _) fun i j hi _ => by rw [if_pos (by omega)]
  rw [hg] at hc
  obtain ⟨g', hg'⟩ := Option.isSome_iff_exists.1 hc
  have e : vinv hp k = g' := by unfold vinv; rw [hg']; rfl
  rw [e]
  exact ⟨hg', hp.fld.iv_some hb hg'⟩
theorem tab_take {n k m : Nat} {f : Tb} (h : k ≤ n) : (tab n m f).take k = tab k m f := by
  unfold tab
  rw [← List.map_take, List.take_range, Nat.min_eq_left h]
theorem tab_drop {n k m : Nat} {f : Tb} (h : k ≤ n) : (tab n m f).drop k = tab (n - k) m fun i j => f (k + i) j := by
  unfold tab
  apply List.ext_getElem?
  intro i
  rw [List.getElem?_drop, List.getElem?_map, List.getElem?_map]
  by_cases hi : i < n - k
  · rw [List.getElem?_range hi, List.getElem?_range (show k + i < n by omega)]; rfl
  · rw [List.getElem?_eq_none (by simp; omega), List.getElem?_eq_none (by simp; omega)]; rfl
theorem raw_inv {k : Nat} (h1 : 1 ≤ k) (h2 : k ≤ 20) : invR hp (tab k k (pwT (some (wb, p)))) = (0, tab k k (vinv hp k)) := by
  have e : tab k k (pwT (some (wb, p))) = tab k k fun i j => hp.fld.pow i j := tab_congr fun i j hi _ => pwT_pow hp (by omega)
  rw [e]
  have hb : hp.fld.Bd fun i j => hp.fld.pow i j := fun i j => hp.fld.pow_lt _ _
  have hm := mx_tab hp (n := k) (m := k) hb
  have hl : (tab k k fun i j => hp.fld.pow i j).length = k := tab_length _ _ _
  obtain ⟨hi, hI⟩ := vinv_ok hp (k := k) (by omega)
  have hI2 := hI.congr hp.fld (hm.bd hp) fun i j hi hj => (en_tab hi hj : en (tab k k fun i j => hp.fld.pow i j) i j = _)
  obtain ⟨g, hg⟩ := hp.fld.iv_of_Iv hI2
  have hu := (hp.fld.iv_some (hm.bd hp) hg).uniq hp.fld hI.bd' fun i j hi hj => hI2.r i j hi hj
  rw [invR_some hp (hm.sq h1 h2) (g := g) (by rw [hl]; exact hg), hl]
  congr 1
  exact tab_congr fun i j hi hj => (hu i j hi hj).symm
theorem sys_mul {k m : Nat} (h1 : 1 ≤ k) (h2 : 1 ≤ m) (h3 : k + m ≤ 20) : mulM (some (wb, p)) (tab (k + m) k (pwT (some (wb, p)))) (tab k k (vinv hp k)) = some (tab (k + m) k (sysT hp k)) := by
  have hb : hp.fld.Bd fun i j => hp.fld.pow i j := fun i j => hp.fld.pow_lt _ _
  have e : tab (k + m) k (pwT (some (wb, p))) = tab (k + m) k fun i j => hp.fld.pow i j := tab_congr fun i j hi _ => pwT_pow hp (by omega)
  rw [e, mulM_tab hp (mx_tab hp hb) (mx_tab hp (vinv_ok hp (show k ≤ 256 by omega)).2.bd') ⟨by omega, by omega⟩ ⟨h1, by omega⟩ ⟨h1, by omega⟩]
  congr 1
  exact tab_congr fun i j hi hj => xsum_congr fun l hl => by rw [en_tab hi hl, en_tab hl hj]
end
/-! ### rows chosen -/
def stC (rows step : Nat) (s : List Nat × Nat × Nat) : List Nat × Nat × Nat :=
  let o := if s.2.1.testBit s.2.2 then s.1 else s.1 ++ [s.2.2]
  let b := if s.2.1.testBit s.2.2 then s.2.1 else s.2.1 ||| 1 <<< s.2.2
  let a := (s.2.2 + step) % rows
  (o, b, if b.testBit a then (a + 1) % rows else a)
def chS (rows step at0 : Nat) : Nat → List Nat × Nat × Nat
  | 0 => ([], 0, at0)
  | i + 1 => stC rows step (chS rows step at0 i)
def chI (rows step : Nat) : Nat → List Nat × Nat × Nat → List Nat × Nat × Nat
  | 0, s => s
  | i + 1, s => chI rows step i (stC rows step s)
def chN (rows step : Nat) : Nat → Nat → Nat → Nat → Nat
  | 0, n, _, _ => n
  | i + 1, n, b, t =>
    bif Nat.beq ((b >>> t) % 2) 1 then
      (bif Nat.beq ((b >>> ((t + step) % rows)) % 2) 1 then chN rows step i n b (((t + step) % rows + 1) % rows) else chN rows step i n b ((t + step) % rows))
    else
      (bif Nat.beq (((b ||| 1 <<< t) >>> ((t + step) % rows)) % 2) 1 then chN rows step i (n + 1) (b ||| 1 <<< t) (((t + step) % rows + 1) % rows) else chN rows step i (n + 1) (b ||| 1 <<< t) ((t + step) % rows))
def chOk : Bool := (List.range 21).all fun rows => (List.range rows).all fun t => (List.range rows).all fun step => Nat.ble (rows - 1) (chN rows step (2 * rows) 0 0 t)
def bls (b : Nat) : List Value := (List.range 20).map fun x => .bool (b.testBit x)
@[simp] theorem bls_length (b : Nat) : (bls b).length = 20 := by simp [bls]
theorem Fo.ptr {D : FD} {B : Nat} {w : World} {v : Value} {o : Fq} (h : Fo D B w v o) : ∃ a, v = .pointer a ∧ a.isSome = o.isSome := by
  cases o with
  | none => exact ⟨none, h, rfl⟩
  | some q => obtain ⟨-, k, rfl, -⟩ := h; exact ⟨_, rfl, rfl⟩
theorem rawM_no {o : Fq} {k m : Int} (h : rawB o k m = false) : rawM o k m = none := by unfold rawM; rw [h]; rfl
theorem isalM_no {o : Fq} {k m : Int} (h : fitB o k m = false) : isalM o k m = none := by unfold isalM; rw [h]; rfl
theorem fitB_iff {o : Fq} {k m : Int} : fitB o k m = true ↔ o.isSome = true ∧ 1 ≤ k ∧ 1 ≤ m ∧ k < 20 ∧ m < 20 ∧ k + m ≤ 20 := by unfold fitB; rw [Bool.and_eq_true, decide_eq_true_iff]
theorem pwT_nn {o : Fq} (h : ∀ wb p, o = some (wb, p) → Prm wb p) (x n : Int) : ((gpow o x n).toNat : Int) = gpow o x n := by
  cases o with
  | none => unfold gpow; split <;> simp [fpow]
  | some q => obtain ⟨wb, p⟩ := q; have := gpow_nn (h wb p rfl) x n; omega
theorem Fo.prms {D : FD} {B : Nat} {w : World} {v : Value} {o : Fq} (h : Fo D B w v o) : ∀ wb p, o = some (wb, p) → Prm wb p := fun wb p e => by subst e; exact h.1
end Go.Gam

/- Rows of the identity with other rows behind it: which of them, as many as columns, have an inverse; minors. No program in sight. -/
namespace Go.Gam
open Px
/-! ### sums over a list -/
def xsumL : List Nat → (Nat → Nat) → Nat
  | [], _ => 0
  | j :: r, f => f j ^^^ xsumL r f
/-! ### minors -/
def parR (k : Nat) (l : List Nat) : List Nat := (l.filter fun x => decide (k ≤ x)).map (· - k)
def misJ (k : Nat) (l : List Nat) : List Nat := (List.range k).filter fun j => !decide (j ∈ l)
def mnr (C : Tb) (R J : List Nat) : Tb := fun a b => C (R.getD a 0) (J.getD b 0)
def beh (k : Nat) (C : Tb) : Tb := fun i j => if i < k then I1 i j else C (i - k) j
namespace Fld
variable (F : Fld)
theorem beh_bd {k : Nat} {C : Tb} (h : F.Bd C) : F.Bd (beh k C) := fun i j => by unfold beh; split; exact F.I1_bd _ _; exact h _ _
theorem getD_mem {L : List Nat} {i : Nat} (h : i < L.length) : L.getD i 0 ∈ L := by rw [getD_of h]; exact List.getElem_mem h
/-! ### rows of powers, columns for rows -/
end Fld
end Go.Gam

/- What the statements of layer 6 ask of matrices of powers. No program in sight. -/
namespace Go.Gam
open Px
def casts (l : List Nat) : List Int := l.map fun (x : Nat) => (x : Int)
section
variable {wb p : Nat} (hp : Prm wb p)
theorem tab_lens {n m : Nat} {f : Tb} (hn : n ≤ 20) (hm : m ≤ 20) : (tab n m f).length ≤ 20 ∧ ∀ r ∈ tab n m f, r.length ≤ 20 :=
  ⟨by rw [tab_length]; exact hn, fun r hr => by obtain ⟨i, _, rfl⟩ := List.mem_map.1 hr; simpa using hm⟩
/-! ### with the identity ahead -/
theorem sysM_is {k m : Nat} (h1 : 1 ≤ k) (h2 : 1 ≤ m) (h3 : k + m ≤ 20) : sysM hp (k : Int) (m : Int) = some (tab (k + m) k (sysT hp k)) := by
  unfold sysM fitB
  rw [if_pos (by rw [decide_eq_true (by omega)]; rfl)]
  rfl
theorem isalM_is {o : Fq} (ho : o.isSome = true) {k m : Nat} (h1 : 1 ≤ k) (h2 : 1 ≤ m) (h3 : k + m ≤ 20) : isalM o (k : Int) (m : Int) = some (tab m k (isT o)) := by
  unfold isalM fitB
  rw [if_pos (by rw [ho, decide_eq_true (by omega)]; rfl)]
  rfl
theorem pts_inv {k : Nat} {l : List Nat} (hl : l.length = k) (hn : l.Nodup) (h : ∀ x ∈ l, x < 256) : ∃ g, hp.fld.iv k (fun i j => hp.fld.pow (l.getD i 0) j) = some g := by
  have h16 := hp.size.1
  refine hp.fld.vander (x := fun i => l.getD i 0) (fun i => ?_) fun i j hi hj e => ?_
  · rw [hp.fld_w, List.getD_eq_getElem?_getD]
    cases hi : l[i]? with
    | none => simp; omega
    | some x => have := h x (List.mem_of_getElem? hi); simp; omega
  · rw [getD_of (show i < l.length by omega), getD_of (show j < l.length by omega)] at e
    refine Classical.byContradiction fun hne => ?_
    rcases Nat.lt_or_gt_of_ne hne with h' | h'
    · exact List.pairwise_iff_getElem.1 hn i j _ _ h' e
    · exact List.pairwise_iff_getElem.1 hn j i _ _ h' e.symm
/-! ### ISA-L's -/
include hp in
theorem isT_zero_r (i : Nat) : isT (some (wb, p)) i 0 = 1 := by rw [isT_pow hp]; rfl
include hp in
theorem isT_zero_l (j : Nat) : isT (some (wb, p)) 0 j = 1 := by rw [isT_pow hp]; exact hp.fld.one_pow j
include hp in
end
theorem aw6_isal : isalM (some (8, 285)) 2 2 = some [[1, 1], [1, 2]] := by
  rw [show isalM (some (8, 285)) 2 2 = some (tab 2 2 (isT (some (8, 285)))) from isalM_is rfl (k := 2) (m := 2) (by decide) (by decide) (by decide)]
  show some [[((isT (some (8, 285)) 0 0 : Nat) : Int), ((isT (some (8, 285)) 0 1 : Nat) : Int)], [((isT (some (8, 285)) 1 0 : Nat) : Int), ((isT (some (8, 285)) 1 1 : Nat) : Int)]] = _
  rw [isT_zero_r prm_285, isT_zero_l prm_285, isT_zero_r prm_285, isT_pow prm_285, prm_285.fld.pow_one _ (prm_285.fld.pow_lt _ _), prm_285.fld.pow_one 2 (by rw [prm_285.fld_w]; decide)]
  rfl
theorem aw6_len (a b c d : Int) : ([[a, b], [c, d]] : Mtx).length ≤ 1000 ∧ ∀ r ∈ ([[a, b], [c, d]] : Mtx), r.length ≤ 1000 := by
  refine ⟨by simp, fun r hr => ?_⟩
  simp only [List.mem_cons, List.mem_nil_iff, or_false] at hr
  rcases hr with rfl | rfl <;> simp
end Go.Gam

/- Jerasure's rows of powers, their columns reduced, what is left behind the identity. No program in sight. -/
set_option linter.unusedSectionVars false
namespace Go.Gam
open Px
def colS (i q x : Nat) (f : Tb) : Tb := fun r j => if r < x then f r (Fld.sw i q j) else f r j
namespace Fld
variable (F : Fld)
def scC (fr j c x : Nat) (f : Tb) : Tb := fun r l => if fr ≤ r ∧ r < x ∧ l = j then F.mul (f r l) c else f r l
def clC (i j x : Nat) (f : Tb) : Tb := fun r l => if l ≠ i ∧ (l < j ∨ l = j ∧ r < x) then f r l ^^^ F.mul (f r i) (f i l) else f r l
theorem colS_bd {i q x : Nat} {f : Tb} (h : F.Bd f) : F.Bd (colS i q x f) := fun r j => by unfold colS; split <;> exact h _ _
theorem scC_bd {fr j c x : Nat} {f : Tb} (h : F.Bd f) : F.Bd (F.scC fr j c x f) := fun r l => by unfold scC; split; exact F.lt _ _; exact h _ _
theorem clC_bd {i j x : Nat} {f : Tb} (h : F.Bd f) : F.Bd (F.clC i j x f) := fun r l => by unfold clC; split; exact Px.xor_lt (h _ _) (F.lt _ _); exact h _ _
def stC (n k i : Nat) (f : Tb) : Tb := tr (F.stp (tr f) k i i).1
theorem stC_is {n k i q : Nat} {f : Tb} (hq : piv (tr f) k i i (k - i) = some q) (hi : i < n) : ∀ r, r < n → ∀ l, l < k → F.clC i k 0 (F.scC 0 i (F.inv (f i q)) n (colS i q n f)) r l = F.stC n k i f r l := by
  intro r hr l hl
  unfold stC stp
  rw [hq]
  show _ = F.op i q (F.inv (f i q)) (fun a => f i (sw i q a)) (tr f) l r
  have e1 : ∀ a j, a < n → colS i q n f a j = f a (sw i q j) := fun a j ha => if_pos ha
  have e2 : ∀ a j, a < n → F.scC 0 i (F.inv (f i q)) n (colS i q n f) a j = if j = i then F.mul (f a (sw i q j)) (F.inv (f i q)) else f a (sw i q j) := fun a j ha => by
    unfold scC; rw [e1 a j ha]
    by_cases h : j = i
    · rw [if_pos ⟨Nat.zero_le _, ha, h⟩, if_pos h]
    · rw [if_neg (fun c => h c.2.2), if_neg h]
  have e3 : sw i q i = q := if_pos rfl
  unfold clC Fld.op tr
  rw [e2 r l hr, e2 r i hr, e2 i l hi, e3, if_pos rfl]
  by_cases h : l = i
  · rw [if_neg (fun c => c.1 h), if_pos h, if_pos h, h, e3]
  · rw [if_pos ⟨h, .inl hl⟩, if_neg h, if_neg h, if_neg h, F.comm (F.mul (f r q) _)]
theorem red_all {n k : Nat} {f : Tb} (hf : F.Bd f) (h : (F.red n f k).2 = k) : ∀ d c, c + d = k → (F.red n f c).2 = c
  | 0, c, e => by obtain rfl : c = k := e; exact h
  | d + 1, c, e => by
    have ih := red_all hf h d (c + 1) (by omega)
    have h1 := (F.red_ok (n := n) hf c).tc
    have h2 : (F.red n f (c + 1)).2 = (F.stp (F.red n f c).1 n c (F.red n f c).2).2 := rfl
    rw [ih] at h2
    unfold stp at h2
    split at h2
    · dsimp only at h2; omega
    · dsimp only at h2; omega
end Fld
def extT (o : Fq) (k m : Nat) : Tb := fun i j => if i = k + m - 1 then (if j = k - 1 then 1 else 0) else pwT o i j
def extM (o : Fq) (k m : Int) : Option Mtx := if fitB o k m = true then some (tab (k + m).toNat k.toNat (extT o k.toNat m.toNat)) else none
theorem extM_no {o : Fq} {k m : Int} (h : fitB o k m = false) : extM o k m = none := by unfold extM; rw [h]; rfl
section
variable {wb p : Nat} (hp : Prm wb p)
include hp in
theorem pwT_bd : hp.fld.Bd (pwT (some (wb, p))) := fun i j => by
  have := gpow_nn hp (i : Int) (j : Int)
  unfold pwT
  rw [hp.fld_w]; omega
include hp in
theorem extT_bd (k m : Nat) : hp.fld.Bd (extT (some (wb, p)) k m) := fun i j => by
  have := hp.fld.one_lt; have := hp.fld.zero_lt
  unfold extT
  split
  · split <;> omega
  · exact pwT_bd hp i j
theorem ext_iv {k m : Nat} {l : List Nat} (hk : 1 ≤ k) (h20 : k + m ≤ 20) (hl : l.length = k) (hn : l.Nodup) (h : ∀ x ∈ l, x < k + m) : ∃ g, hp.fld.iv k (fun i j => extT (some (wb, p)) k m (l.getD i 0) j) = some g := by
  have hbd : hp.fld.Bd (fun i j => extT (some (wb, p)) k m (l.getD i 0) j) := fun i j => extT_bd hp k m _ _
  have hot : ∀ x, x < k + m → x ≠ k + m - 1 → ∀ j, extT (some (wb, p)) k m x j = hp.fld.pow x j := fun x hx hne j => by
    unfold extT; rw [if_neg hne]; exact pwT_pow hp (by omega)
  by_cases hlast : k + m - 1 ∈ l
  · refine hp.fld.iv_ofR hbd fun y h1 h2 => ?_
    have hrow : ∀ x ∈ l, (xsum k fun s => hp.fld.mul (extT (some (wb, p)) k m x s) (y s)) = 0 := fun x hx => by
      obtain ⟨i, hi⟩ := List.getElem?_of_mem hx
      have hil := (List.getElem?_eq_some_iff.1 hi).1
      have := h2 i (by omega)
      rw [List.getD_eq_getElem?_getD, hi] at this
      exact this
    have hy : y (k - 1) = 0 := by
      have e := hrow _ hlast
      rw [xsum_single (i := k - 1) (by omega) (fun j _ hj => by unfold extT; rw [if_pos rfl, if_neg hj, hp.fld.zero_mul])] at e
      unfold extT at e
      rw [if_pos rfl, if_pos rfl, hp.fld.one _ (h1 _)] at e
      exact e
    obtain ⟨g, hg⟩ := pts_inv hp (k := k - 1) (l := l.erase (k + m - 1)) (by rw [List.length_erase_of_mem hlast, hl]) (hn.erase _) (fun x hx => by have := h x (List.mem_of_mem_erase hx); omega)
    have hI := hp.fld.iv_some (fun i j => hp.fld.pow_lt _ _) hg
    have hz := hI.right hp.fld h1 (fun j hj => by
      have hjl : j < (l.erase (k + m - 1)).length := by rw [List.length_erase_of_mem hlast, hl]; exact hj
      have hx := Fld.getD_mem hjl
      generalize (l.erase (k + m - 1)).getD j 0 = x at hx
      have hxl := List.mem_of_mem_erase hx
      have hne : x ≠ k + m - 1 := ((hn.mem_erase_iff).1 hx).1
      have e := hrow x hxl
      obtain ⟨k', rfl⟩ : ∃ k', k = k' + 1 := ⟨k - 1, by omega⟩
      rw [xsum_congr (g := fun s => hp.fld.mul (hp.fld.pow x s) (y s)) fun s _ => by rw [hot x (h x hxl) hne]] at e
      have e2 : xsum (k' + 1) (fun s => hp.fld.mul (hp.fld.pow x s) (y s)) = xsum k' (fun s => hp.fld.mul (hp.fld.pow x s) (y s)) ^^^ hp.fld.mul (hp.fld.pow x k') (y k') := rfl
      rw [e2, show y k' = 0 from hy, hp.fld.mul_zero, Nat.xor_zero] at e
      exact e)
    intro i hi
    by_cases e : i = k - 1
    · rw [e]; exact hy
    · exact hz i (by omega)
  · obtain ⟨g, hg⟩ := pts_inv hp hl hn (fun x hx => by have := h x hx; omega)
    have := hp.fld.iv_congr (f := fun i j => hp.fld.pow (l.getD i 0) j) (g := fun i j => extT (some (wb, p)) k m (l.getD i 0) j) (n := k) (fun i j => hp.fld.pow_lt _ _) hbd (fun i j hi _ => by
      have hx := Fld.getD_mem (L := l) (i := i) (by omega)
      exact (hot _ (h _ hx) (fun e => hlast (e ▸ hx)) j).symm)
    rw [hg] at this
    exact Option.isSome_iff_exists.1 this.symm
theorem ext_top {k m : Nat} (hk : 1 ≤ k) (hm : 1 ≤ m) (h20 : k + m ≤ 20) : ∃ g, hp.fld.iv k (extT (some (wb, p)) k m) = some g := by
  obtain ⟨g, hg⟩ := ext_iv hp (l := List.range k) hk h20 (by simp) List.nodup_range (fun x hx => by have := List.mem_range.1 hx; omega)
  have := hp.fld.iv_congr (f := fun i j => extT (some (wb, p)) k m ((List.range k).getD i 0) j) (g := extT (some (wb, p)) k m) (n := k) (fun i j => extT_bd hp k m _ _) (extT_bd hp k m) (fun i j hi _ => by
    rw [getD_of (show i < (List.range k).length by simpa using hi), List.getElem_range])
  rw [hg] at this
  exact Option.isSome_iff_exists.1 this.symm
def redC (k m i : Nat) : Tb := Fld.tr (hp.fld.red k (Fld.tr (extT (some (wb, p)) k m)) i).1
theorem tr_bd {f : Tb} (h : hp.fld.Bd f) : hp.fld.Bd (Fld.tr f) := fun i j => h j i
theorem redC_bd (k m i : Nat) : hp.fld.Bd (redC hp k m i) := tr_bd hp (hp.fld.red_ok (tr_bd hp (extT_bd hp k m)) i).bd
theorem redC_full {k m : Nat} (hk : 1 ≤ k) (hm : 1 ≤ m) (h20 : k + m ≤ 20) : ∀ c, c ≤ k → (hp.fld.red k (Fld.tr (extT (some (wb, p)) k m)) c).2 = c := fun c hc => by
  obtain ⟨g, hg⟩ := ext_top hp hk hm h20
  have h1 := (hp.fld.iv_some (extT_bd hp k m) hg).tr hp.fld
  obtain ⟨g', hg'⟩ := hp.fld.iv_of_Iv h1
  have h2 := hp.fld.rk_iv (n := k) (f := Fld.tr (extT (some (wb, p)) k m)) (by rw [hg']; rfl)
  exact hp.fld.red_all (tr_bd hp (extT_bd hp k m)) h2 (k - c) c (by omega)
theorem redC_piv {k m i : Nat} (hk : 1 ≤ k) (hm : 1 ≤ m) (h20 : k + m ≤ 20) (hi : i < k) : ∃ q, Fld.piv (Fld.tr (redC hp k m i)) k i i (k - i) = some q ∧ redC hp k m (i + 1) = hp.fld.stC (k + m) k i (redC hp k m i) := by
  have h1 := redC_full hp hk hm h20 i (by omega)
  have h2 := redC_full hp hk hm h20 (i + 1) hi
  have e : hp.fld.red k (Fld.tr (extT (some (wb, p)) k m)) (i + 1) = hp.fld.stp (hp.fld.red k (Fld.tr (extT (some (wb, p)) k m)) i).1 k i i := by
    show hp.fld.stp _ k i _ = _
    rw [h1]
  rw [e] at h2
  unfold redC Fld.stC
  rw [e]
  unfold Fld.stp at h2
  show ∃ q, Fld.piv (hp.fld.red k (Fld.tr (extT (some (wb, p)) k m)) i).1 k i i (k - i) = some q ∧ _
  cases hq : Fld.piv (hp.fld.red k (Fld.tr (extT (some (wb, p)) k m)) i).1 k i i (k - i) with
  | none => rw [hq] at h2; dsimp only at h2; omega
  | some q => exact ⟨q, rfl, rfl⟩
def jG (k m : Nat) : Tb := fun r j => redC hp k m k (k + r) j
theorem jG_bd (k m : Nat) : hp.fld.Bd (jG hp k m) := fun r j => redC_bd hp k m k _ _
theorem jG_ex {k m : Nat} (hk : 1 ≤ k) (hm : 1 ≤ m) (h20 : k + m ≤ 20) : ∃ C C', hp.fld.Iv k C C' ∧ ∀ i j, j < k → beh k (jG hp k m) i j = hp.fld.mm k (extT (some (wb, p)) k m) C i j := by
  have hr := hp.fld.red_ok (n := k) (tr_bd hp (extT_bd hp k m)) k
  have ht := redC_full hp hk hm h20 k (Nat.le_refl _)
  obtain ⟨E, E', hE, he⟩ := hr.ex
  obtain ⟨q, hq, hqe⟩ := hr.pv
  refine ⟨Fld.tr E, Fld.tr E', hE.tr hp.fld, fun i j hj => ?_⟩
  have hx : redC hp k m k i j = hp.fld.mm k (extT (some (wb, p)) k m) (Fld.tr E) i j := 
    (he j i hj).trans (hp.fld.mm_tr k (Fld.tr (extT (some (wb, p)) k m)) E i j).symm
  rw [← hx]
  unfold beh
  split
  · rename_i hi
    have := (hq i (by rw [ht]; exact hi)).2 j hj
    rw [hqe ht i (by rw [ht]; exact hi)] at this
    show _ = (hp.fld.red k (Fld.tr (extT (some (wb, p)) k m)) k).1 j i
    rw [this]
    unfold I1
    by_cases e : i = j
    · rw [if_pos e, if_pos e.symm]
    · rw [if_neg e, if_neg (Ne.symm e)]
  · show redC hp k m k (k + (i - k)) j = _
    rw [show k + (i - k) = i by omega]
theorem jG_any {k m : Nat} {l : List Nat} (hk : 1 ≤ k) (hm : 1 ≤ m) (h20 : k + m ≤ 20) (hl : l.length = k) (hn : l.Nodup) (h : ∀ x ∈ l, x < k + m) : ∃ g, hp.fld.iv k (fun i j => beh k (jG hp k m) (l.getD i 0) j) = some g := by
  obtain ⟨C, C', hC, he⟩ := jG_ex hp hk hm h20
  obtain ⟨g, hg⟩ := ext_iv hp hk h20 hl hn h
  have h1 := (hp.fld.iv_some (fun i j => extT_bd hp k m _ _) hg).mul hp.fld hC
  exact hp.fld.iv_of_Iv (h1.congr hp.fld (fun i j => hp.fld.beh_bd (jG_bd hp k m) _ _) fun i j _ hj => he _ j hj)
theorem jG_ne {k m r j : Nat} (hk : 1 ≤ k) (hm : 1 ≤ m) (h20 : k + m ≤ 20) (hr : r < m) (hj : j < k) : jG hp k m r j ≠ 0 := fun h0 => by
  obtain ⟨g, hg⟩ := jG_any hp (l := (List.range k).set j (k + r)) hk hm h20 (by simp) (by
    refine List.pairwise_iff_getElem.2 fun a b ha hb hab => ?_
    simp only [List.length_set, List.length_range] at ha hb
    rw [List.getElem_set, List.getElem_set]
    simp only [List.getElem_range]
    split <;> split <;> omega) (fun x hx => by
      rcases List.mem_or_eq_of_mem_set hx with h | h
      · have := List.mem_range.1 h; omega
      · omega)
  have hI := hp.fld.iv_some (fun i j => hp.fld.beh_bd (jG_bd hp k m) _ _) hg
  have := hI.right hp.fld (y := fun s => if s = j then 1 else 0) (fun s => by have := hp.fld.one_lt; have := hp.fld.zero_lt; show (if s = j then 1 else 0) < _; split <;> omega) (fun i hi => by
    rw [xsum_single (i := j) hj (fun s _ hs => by rw [if_neg hs, hp.fld.mul_zero])]
    by_cases e : i = j
    · rw [e, getD_of (show j < ((List.range k).set j (k + r)).length by simpa using hj), List.getElem_set_self]
      unfold beh; rw [if_neg (by omega), show k + r - k = r by omega, h0, hp.fld.zero_mul]
    · rw [getD_of (show i < ((List.range k).set j (k + r)).length by simpa using hi), List.getElem_set_ne (Ne.symm e), List.getElem_range]
      unfold beh I1; rw [if_pos hi, if_neg e, hp.fld.zero_mul]) j hj
  simp at this
def jA (k m : Nat) : Nat → Nat := fun j => hp.fld.inv (jG hp k m 0 j)
def jC (k m : Nat) : Tb := fun r j => hp.fld.mul (jG hp k m r j) (jA hp k m j)
def jB (k m : Nat) : Nat → Nat := fun r => if r = 0 then 1 else hp.fld.inv (jC hp k m r 0)
def parT (k m : Nat) : Tb := fun r j => hp.fld.mul (jC hp k m r j) (jB hp k m r)
def parM (k m : Int) : Option Mtx := if fitB (some (wb, p)) k m = true then some (tab m.toNat k.toNat (parT hp k.toNat m.toNat)) else none
theorem jA_lt (k m j : Nat) : jA hp k m j < 2 ^ hp.fld.w := hp.fld.inv_lt _
theorem jC_bd (k m : Nat) : hp.fld.Bd (jC hp k m) := fun r j => hp.fld.lt _ _
theorem parT_zero {k m j : Nat} : parT hp k m 0 j = jC hp k m 0 j := by unfold parT jB; rw [if_pos rfl, hp.fld.mul_one _ (jC_bd hp k m _ _)]
theorem parT_pos {k m r j : Nat} (h : r ≠ 0) : parT hp k m r j = hp.fld.mul (jC hp k m r j) (hp.fld.inv (jC hp k m r 0)) := by unfold parT jB; rw [if_neg h]
variable {k m : Nat} (hk : 1 ≤ k) (hm : 1 ≤ m) (h20 : k + m ≤ 20)
include hk hm h20
theorem jA_ne {j : Nat} (hj : j < k) : jA hp k m j ≠ 0 := hp.fld.inv_ne (jG_bd hp k m _ _) (jG_ne hp hk hm h20 (by omega) hj)
theorem jC_ne {r j : Nat} (hr : r < m) (hj : j < k) : jC hp k m r j ≠ 0 := fun h => by
  rcases hp.fld.nzd _ _ (jG_bd hp k m _ _) (jA_lt hp k m j) h with e | e
  · exact jG_ne hp hk hm h20 hr hj e
  · exact jA_ne hp hk hm h20 hj e
theorem parT_top {j : Nat} (hj : j < k) : parT hp k m 0 j = 1 := by
  rw [parT_zero]; exact hp.fld.mul_inv (jG_bd hp k m _ _) (jG_ne hp hk hm h20 (by omega) hj)
end
end Go.Gam

/- Records of two fields of one cell each; rows that are a walk's own, as they are gathered. No program in sight. -/
set_option linter.unusedSectionVars false
namespace Go.Gam
open Px
theorem agg_cells (cs : Array Value) : (Value.agg cs).cells = cs := rfl
def Rec2 (P : Program) (t : TypeId) (z1 z2 : Value) : Prop :=
  ∃ f0 f1 i0 i1 i, P.underlying t = some (.struct #[f0, f1]) ∧ P.info? f0.type = some i0 ∧ i0.size = 1 ∧ f0.offset = 0 ∧ P.info? f1.type = some i1 ∧ i1.size = 1 ∧ f1.offset = 1 ∧ P.info? t = some i ∧ i.size = 2 ∧ i.zero = some (.agg #[z1, z2])
theorem rec2_of {P : Program} {t : TypeId} {z1 z2 : Value} {f0 f1 : Field} (h : P.underlying t = some (.struct #[f0, f1])) (h0 : (P.info? f0.type).map (fun i => (i.size, f0.offset)) = some (1, 0)) (h1 : (P.info? f1.type).map (fun i => (i.size, f1.offset)) = some (1, 1))
    (hz : (P.info? t).map (fun i => (i.size, i.zero)) = some (2, some (.agg #[z1, z2]))) : Rec2 P t z1 z2 := by
  cases e0 : P.info? f0.type with
  | none => rw [e0] at h0; cases h0
  | some i0 =>
    cases e1 : P.info? f1.type with
    | none => rw [e1] at h1; cases h1
    | some i1 =>
      cases e : P.info? t with
      | none => rw [e] at hz; cases hz
      | some i =>
        rw [e0] at h0; rw [e1] at h1; rw [e] at hz
        simp only [Option.map_some, Option.some.injEq, Prod.mk.injEq] at h0 h1 hz
        exact ⟨f0, f1, i0, i1, i, h, e0, h0.1, h0.2, e1, h1.1, h1.2, e, hz.1, hz.2⟩
section
variable {P : Program} {ops : Array Oper} {K : Kont} {rest : List Oper} {n : NN} {F : Fs} {T : TypeId} {pp : String} {af : Array Edge} {v : Value} {d : Nat} {a : Act} {w : World} {x y : Operand} {D : FD} {B : Nat} {z1 z2 : Value}
theorem v_loadR {t E g : Nat} {u v : Value} (ht : Rec2 P t z1 z2) (hx : ev F x = some (.pointer (some ⟨g, 0, none⟩))) (hb : Blk w g E [u, v]) : Val P (.load t x) T F w (.agg #[u, v]) :=
  fun ρ h d p af g' => by
    obtain ⟨f0, f1, i0, i1, i, h1, h2, h3, h4, h5, h6, h7, h8, h9, h10⟩ := ht
    have := run_loadVar_row (P := P) w g E t #[u, v] (0, 0) _ hb h1 rfl (by rw [h8]; simp [h9])
    simp only [execOp, h x _ hx, Instr.loadAt, Instr.sureAddr]
    simp [this]
theorem v_buildR {t : Nat} {u v : Value} (ht : Rec2 P t z1 z2) (hx : ev F x = some u) (hy : ev F y = some v) (hu : u.cells = #[u]) (hv : v.cells = #[v]) : Val P (.build t #[(0, x), (1, y)]) T F w (.agg #[u, v]) :=
  fun ρ h d p af g' => by
    obtain ⟨f0, f1, i0, i1, i, h1, h2, h3, h4, h5, h6, h7, h8, h9, h10⟩ := ht
    simp [execOp, h x _ hx, h y _ hy, Instr.build, zeroValue, typeInfo, h8, h10, underlying, h1, sizeOf, h2, h3, h4, h5, h6, h7, program, Sem.run, Instr.fill, hu, hv, agg_cells]
theorem v_mkfF {fn : Fn} {cs : List Operand} {vs : List Value} (hc : evs F cs = some vs) : Val P (.makeFunc fn cs.toArray #[]) T F w (.func fn vs.toArray ([] : List Value).toArray) :=
  fun ρ h d p af g => by
    have := h.list cs vs hc
    simp [execOp, Instr.makeFunc, this]
theorem s_newR {t : Nat} {u v : Value} {T' : TypeId} {pp' : String} {af' : Array Edge} (hF : Fr n F a) (ht : Rec2 P t z1 z2) (he : t ≠ D.T) (hy : ∀ q, ev ((d, q) :: F) y = some (.agg #[u, v])) (hu : u.oneCell' = true) (hv : v.oneCell' = true) (hd : Nat.blt d n.n = true)
    (k : ∀ w' a, Mb D B none w w' → Blk w' w.heap.size t [u, v] → w'.heap.size = w.heap.size + 1 → Fr n ((d, .pointer (some ⟨w.heap.size, 0, none⟩)) :: F) a → WL P ops K rest a w') :
    WL P ops K (⟨some d, .alloc t, T, pp, af, none⟩ :: ⟨none, .store t (.tmp d) y, T', pp', af', none⟩ :: rest) a w := by
  obtain ⟨f0, f1, i0, i1, i, h1, h2, h3, h4, h5, h6, h7, h8, h9, h10⟩ := ht
  refine s_run (v := .pointer (some ⟨w.heap.size, 0, none⟩)) (w' := w.alloc (.cells #[z1, z2] t)) hF (fun ρ h => ?_) hd fun a hF => ?_
  · simp [execOp, Instr.alloc, zeroValue, typeInfo, h8, h10, newVar, newRow, newObj, Sem.run, Value.cells]
  · have hst := run_storeCells_new (P := P) w t #[z1, z2] #[u, v] (by rw [h8]; simp [h9]) rfl (by simp [hu, hv])
    have hrun : (execOp a.eval ⟨none, .store t (.tmp d) y, T', pp', af', none⟩).run P (w.alloc (.cells #[z1, z2] t)) = .ok .skip (w.alloc (.cells #[u, v] t)) := by
      have hd' : ev ((d, Value.pointer (some ⟨w.heap.size, 0, none⟩)) :: F) (.tmp d) = some (.pointer (some ⟨w.heap.size, 0, none⟩)) := by simp [ev, look_cons]
      simp only [execOp, hF.reads y _ (hy _), hF.reads (.tmp d) _ hd', Instr.storeAt, Instr.sureAddr, storeVar]
      simp [sizeOf, typeInfo, h8, h9, agg_cells, hst]
    unfold WL wpList
    rw [if_pos (by simp [Region.wanted])]
    refine .inl ?_
    unfold Oper.wp
    rw [hrun]
    exact k _ a (Mb.alloc D B w _ t (0, 0) he) (alloc_new w _) (by simp) hF
end
theorem slA_of {g lo cap : Nat} (h : lo < cap) : slA (some ⟨g, 0, none⟩) lo cap = some ⟨g, 0 + lo, none⟩ := by unfold slA; rw [if_neg (by omega)]; simp [Addr.add_eq]
section
variable {P : Program} {D : FD} {B : Nat} {a : Act} {w : World} {ops : Array Oper} {K : Kont} {fuel : Nat} {L : Array Bool}
end
theorem Blk.ne_own {D : FD} {B N' : Nat} {w : World} {g : Nat} {E E' : TypeId} {cs : List Value} {u : Value} {b : Option Nat} {xs : List Value} (h : Blk w g E cs) (ho : Own D B N' w E' u b xs) (hE : E ≠ E') : b ≠ some g := by
  intro e
  rcases ho with ⟨_, h', _⟩ | ⟨g', cap', cur, rfl, hb, h1, hB, h2, h3⟩
  · rw [h'] at e; cases e
  · rw [hb] at e; obtain rfl := Option.some.inj e
    have hk : w.heap[g']? = _ := h
    rw [h2] at hk
    exact hE (Obj.cells.inj (Option.some.inj hk)).2.1.symm
theorem StZ.cut {D : FD} {B : Nat} {Z : Nat → Prop} {w w' : World} (h : StZ D B (fun k => Z k ∨ w.heap.size ≤ k) w w') : StZ D B Z w w' :=
  ⟨⟨h.ext.os, h.ext.tape, h.ext.output, h.ext.size, fun k hk hz hc => h.ext.keep k hk (fun e => e.elim hz (by omega)) hc, h.ext.oth, h.ext.fld, h.ext.priv, h.ext.made⟩, h.inv⟩
theorem StZ.mbn {D : FD} {B : Nat} {Z : Nat → Prop} {b : Option Nat} {w0 w w' : World} (hs : StZ D B Z w0 w) (h : Mb D B b w w') (hb : ∀ k, b = some k → w0.heap.size ≤ k ∧ ∃ c e fr, w.heap[k]? = some (.cells c e fr)) : StZ D B Z w0 w' :=
  ((hs.weak (Z' := fun k => Z k ∨ w0.heap.size ≤ k) fun k z => .inl z).mb h (fun k e => ⟨.inr (hb k e).1, (hb k e).2⟩)).cut
/-! ### steps of the tables -/
theorem ext_cell {o : Fq} (hprm : ∀ wb p, o = some (wb, p) → Prm wb p) {k m i j : Nat} (h : i < k + m - 1) : ((extT o k m i j : Nat) : Int) = gpow o (i : Int) (j : Int) := by
  unfold extT; rw [if_neg (by omega)]; exact pwT_nn hprm _ _
theorem ext_last {o : Fq} {k m : Nat} (hk : 1 ≤ k) : (List.replicate k (Value.int .i64 0)).set (k - 1) (.int .i64 1) = zints (trow k (extT o k m) (k + m - 1)) := by
  apply List.ext_getElem?
  intro j
  by_cases hj : j < k
  · rw [zints_at (trow_at hj)]
    unfold extT
    rw [if_pos rfl]
    by_cases e : k - 1 = j
    · rw [← e, List.getElem?_set_self (by simpa using by omega), if_pos rfl]; rfl
    · rw [List.getElem?_set_ne e, if_neg (Ne.symm e)]; simp [hj]
  · rw [List.getElem?_eq_none (by simp; omega), List.getElem?_eq_none (by simp [zints]; omega)]
namespace Fld
variable (F : Fld)
theorem scC_at {fr j c x l : Nat} {f : Tb} (h : fr ≤ x) : F.scC fr j c (x + 1) f x l = if l = j then F.mul (F.scC fr j c x f x j) c else F.scC fr j c x f x l := by
  unfold scC
  rw [if_neg (show ¬ (fr ≤ x ∧ x < x ∧ j = j) by omega), if_neg (show ¬ (fr ≤ x ∧ x < x ∧ l = j) by omega)]
  by_cases e : l = j
  · rw [if_pos e, if_pos ⟨h, by omega, e⟩, e]
  · rw [if_neg e, if_neg (fun c => e c.2.2)]
theorem scC_ne {fr j c x a l : Nat} {f : Tb} (h : a ≠ x) : F.scC fr j c (x + 1) f a l = F.scC fr j c x f a l := by
  unfold scC
  by_cases e : fr ≤ a ∧ a < x ∧ l = j
  · rw [if_pos e, if_pos ⟨e.1, by omega, e.2.2⟩]
  · rw [if_neg e, if_neg (fun c => e ⟨c.1, by omega, c.2.2⟩)]
theorem scC_zero {fr j c a l : Nat} {f : Tb} : F.scC fr j c fr f a l = f a l := by unfold scC; rw [if_neg (by omega)]
theorem clC_at {i j x l : Nat} {f : Tb} (h : j ≠ i) : F.clC i j (x + 1) f x l = if l = j then F.clC i j x f x j ^^^ F.mul (F.clC i j x f x i) (f i j) else F.clC i j x f x l := by
  unfold clC
  rw [if_neg (show ¬ (j ≠ i ∧ (j < j ∨ j = j ∧ x < x)) by omega), if_neg (show ¬ (i ≠ i ∧ (i < j ∨ i = j ∧ x < x)) by omega)]
  by_cases e : l = j
  · rw [if_pos e, if_pos ⟨by omega, .inr ⟨e, by omega⟩⟩, e]
  · rw [if_neg e]
    by_cases e2 : l ≠ i ∧ l < j
    · rw [if_pos ⟨e2.1, .inl e2.2⟩, if_pos ⟨e2.1, .inl e2.2⟩]
    · rw [if_neg (by omega), if_neg (by omega)]
theorem clC_ne {i j x a l : Nat} {f : Tb} (h : a ≠ x) : F.clC i j (x + 1) f a l = F.clC i j x f a l := by
  unfold clC
  by_cases e : l ≠ i ∧ (l < j ∨ l = j ∧ a < x)
  · rw [if_pos e, if_pos (by omega)]
  · rw [if_neg e, if_neg (by omega)]
theorem clC_skip {i x a l : Nat} {f : Tb} : F.clC i i (x + 1) f a l = F.clC i i x f a l := by
  unfold clC
  by_cases e : l ≠ i ∧ (l < i ∨ l = i ∧ a < x)
  · rw [if_pos e, if_pos (by omega)]
  · rw [if_neg e, if_neg (by omega)]
theorem clC_next {i j n a l : Nat} {f : Tb} (h : a < n) : F.clC i j n f a l = F.clC i (j + 1) 0 f a l := by
  unfold clC
  by_cases e : l ≠ i ∧ (l < j ∨ l = j ∧ a < n)
  · rw [if_pos e, if_pos (by omega)]
  · rw [if_neg e, if_neg (by omega)]
theorem clC_self {i j x a : Nat} {f : Tb} : F.clC i j x f a i = f a i := by unfold clC; rw [if_neg (by omega)]
theorem clC_zero {i a l : Nat} {f : Tb} : F.clC i 0 0 f a l = f a l := by unfold clC; rw [if_neg (by omega)]
end Fld
def colH (i q x : Nat) (f : Tb) : Tb := fun r l => if r = x ∧ l = i then f x q else colS i q x f r l
theorem colH_at {i q x l : Nat} {f : Tb} : colH i q x f x l = if l = i then f x q else colS i q x f x l := by
  unfold colH
  by_cases e : l = i
  · rw [if_pos ⟨rfl, e⟩, if_pos e]
  · rw [if_neg (fun c => e c.2), if_neg e]
theorem colH_ne {i q x a l : Nat} {f : Tb} (h : a ≠ x) : colH i q x f a l = colS i q x f a l := by unfold colH; rw [if_neg (fun c => h c.1)]
theorem colS_at {i q x l : Nat} {f : Tb} : colS i q (x + 1) f x l = if l = q then f x i else colH i q x f x l := by
  rw [colH_at]
  unfold colS Fld.sw
  rw [if_pos (show x < x + 1 by omega), if_neg (show ¬ x < x by omega)]
  by_cases e : l = q
  · by_cases e2 : l = i
    · subst e; subst e2; simp
    · rw [if_neg e2, if_pos e, if_pos e]
  · by_cases e2 : l = i
    · rw [if_pos e2, if_neg e, if_pos e2]
    · rw [if_neg e2, if_neg e, if_neg e, if_neg e2]
theorem colS_ne {i q x a l : Nat} {f : Tb} (h : a ≠ x) : colS i q (x + 1) f a l = colH i q x f a l := by
  rw [colH_ne h]
  unfold colS
  by_cases e : a < x
  · rw [if_pos e, if_pos (by omega)]
  · rw [if_neg e, if_neg (by omega)]
theorem colS_old {i q x l : Nat} {f : Tb} : colS i q x f x l = f x l := by unfold colS; rw [if_neg (by omega)]
theorem colS_zero {i q a l : Nat} {f : Tb} : colS i q 0 f a l = f a l := by unfold colS; rw [if_neg (by omega)]
/-! ### parity rows, as they are made -/
section
variable {wb p : Nat} (hp : Prm wb p) {k m : Nat}
def colI (k m j : Nat) : Tb := fun r l => if k ≤ r ∧ l < j then jC hp k m (r - k) l else redC hp k m k r l
def rowI (k m x j : Nat) : Tb := fun r l => if k < r ∧ (r < k + 1 + x ∨ r = k + 1 + x ∧ l < j) then parT hp k m (r - k) l else colI hp k m k r l
theorem redC_jG {r l : Nat} (h : k ≤ r) : redC hp k m k r l = jG hp k m (r - k) l := by unfold jG; rw [show k + (r - k) = r by omega]
theorem colI_zero {a b : Nat} : colI hp k m 0 a b = redC hp k m k a b := by unfold colI; rw [if_neg (by omega)]
theorem colI_at {j : Nat} : colI hp k m j k j = jG hp k m 0 j := by unfold colI; rw [if_neg (by omega), redC_jG hp (Nat.le_refl _), Nat.sub_self]
theorem colI_bd {j : Nat} : hp.fld.Bd (colI hp k m j) := fun a b => by unfold colI; split; exact jC_bd hp k m _ _; exact redC_bd hp k m k _ _
theorem colI_step {j n a b : Nat} (ha : a < n) : hp.fld.scC k j (hp.fld.inv (jG hp k m 0 j)) n (colI hp k m j) a b = colI hp k m (j + 1) a b := by
  unfold Fld.scC
  by_cases e : k ≤ a ∧ a < n ∧ b = j
  · obtain ⟨e1, e2, rfl⟩ := e
    rw [if_pos ⟨e1, e2, rfl⟩]
    unfold colI
    rw [if_neg (by omega), if_pos ⟨e1, by omega⟩, redC_jG hp e1]
    rfl
  · rw [if_neg e]
    unfold colI
    by_cases e2 : k ≤ a ∧ b < j
    · rw [if_pos e2, if_pos (by omega)]
    · rw [if_neg e2, if_neg (by omega)]
theorem rowI_zero {a b : Nat} : rowI hp k m 0 0 a b = colI hp k m k a b := by unfold rowI; rw [if_neg (by omega)]
theorem rowI_at {x j l : Nat} (hl : ¬ l < j := by omega) (hk : l < k := by omega) : rowI hp k m x j (k + 1 + x) l = jC hp k m (x + 1) l := by
  unfold rowI colI
  rw [if_neg (by omega), if_pos ⟨by omega, hk⟩, show k + 1 + x - k = x + 1 by omega]
theorem rowI_ne {x j a l : Nat} (h : a ≠ k + 1 + x) : rowI hp k m x (j + 1) a l = rowI hp k m x j a l := by
  unfold rowI
  by_cases e : k < a ∧ (a < k + 1 + x ∨ a = k + 1 + x ∧ l < j)
  · rw [if_pos e, if_pos (by omega)]
  · rw [if_neg e, if_neg (by omega)]
theorem rowI_col {x j l : Nat} : rowI hp k m x (j + 1) (k + 1 + x) l = if l = j then hp.fld.mul (jC hp k m (x + 1) j) (hp.fld.inv (jC hp k m (x + 1) 0)) else rowI hp k m x j (k + 1 + x) l := by
  by_cases e : l = j
  · rw [if_pos e]
    unfold rowI
    rw [if_pos (by omega), show k + 1 + x - k = x + 1 by omega, parT_pos hp (by omega), e]
  · rw [if_neg e]
    unfold rowI
    by_cases e2 : l < j
    · rw [if_pos (by omega), if_pos (by omega)]
    · rw [if_neg (by omega), if_neg (by omega)]
theorem rowI_next {x a b : Nat} (hb : b < k) : rowI hp k m x k a b = rowI hp k m (x + 1) 0 a b := by
  unfold rowI
  by_cases e : k < a ∧ (a < k + 1 + x ∨ a = k + 1 + x ∧ b < k)
  · rw [if_pos e, if_pos (by omega)]
  · rw [if_neg e, if_neg (by omega)]
theorem rowI_end (hm : 1 ≤ m) : tab m k (parT hp k m) = (tab (k + m) k (rowI hp k m (m - 1) 0)).drop k := by
  rw [tab_drop (by omega), show k + m - k = m by omega]
  refine tab_congr fun i j hi hj => ?_
  unfold rowI
  by_cases e : i = 0
  · subst e
    rw [if_neg (by omega)]
    unfold colI
    rw [if_pos ⟨by omega, hj⟩, show k + 0 - k = 0 by omega]
    exact parT_zero hp
  · rw [if_pos (by omega), show k + i - k = i by omega]
end
end Go.Gam

/- A map of numbers to true, of a walk's own. No program in sight. -/
set_option linter.unusedSectionVars false
namespace Go.Gam
open Px
open Go.MapKept (run_checkKey run_findKey IsKey)
open Go.RowKit (run_makeMap)
def mesF : List Int → Nat → List MapEntry
  | [], _ => []
  | x :: r, i => { key := .int .i64 x, val := .bool true, born := i } :: mesF r (i + 1)
def mes (l : List Int) : Array MapEntry := (mesF l 0).toArray
theorem mesF_snoc (x : Int) : ∀ (l : List Int) (i : Nat), mesF (l ++ [x]) i = mesF l i ++ [{ key := .int .i64 x, val := .bool true, born := i + l.length }]
  | [], _ => rfl
  | y :: r, i => by
    show _ :: mesF (r ++ [x]) (i + 1) = _
    rw [mesF_snoc x r (i + 1)]
    show _ = _ :: (_ ++ _)
    rw [List.length_cons, show i + 1 + r.length = i + (r.length + 1) by omega]
theorem mes_snoc (x : Int) (l : List Int) : mes (l ++ [x]) = (mes l).push { key := .int .i64 x, val := .bool true, born := l.length } := by
  unfold mes
  rw [mesF_snoc, Nat.zero_add, List.push_toArray]
theorem findNow_mes {kd : IntKind} (k : Int) : ∀ (l : List Int) (b i : Nat), (k ∈ l → ∃ j, Instr.findNow (.int kd) (.int .i64 k) (mesF l b) i = some (some (j, .bool true))) ∧ (k ∉ l → Instr.findNow (.int kd) (.int .i64 k) (mesF l b) i = some none)
  | [], _, _ => ⟨fun h => by simp at h, fun _ => rfl⟩
  | x :: r, b, i => by
    obtain ⟨h1, h2⟩ := findNow_mes (kd := kd) k r (b + 1) (i + 1)
    by_cases e : k = x
    · subst e
      exact ⟨fun _ => ⟨i, by simp [mesF, Instr.findNow, Instr.sameNow]⟩, fun h => by simp at h⟩
    · have eb : (k == x) = false := beq_eq_false_iff_ne.2 e
      refine ⟨fun h => ?_, fun h => ?_⟩
      · obtain ⟨j, hj⟩ := h1 (by simpa [e] using h)
        exact ⟨j, by simp [mesF, Instr.findNow, Instr.sameNow, eb, hj]⟩
      · have := h2 (fun c => h (by simp [c]))
        simp [mesF, Instr.findNow, Instr.sameNow, eb, this]
structure MapB (D : FD) (B N : Nat) (w : World) (l : Nat) (ks : List Int) : Prop where
  obj : w.heap[l]? = some (.map (mes ks) ks.length)
  low : N ≤ l
  base : B ≤ l
  priv : Priv D B w l
section
variable {D : FD} {B N l : Nat} {w w' : World} {ks : List Int}
theorem MapB.notT (h : MapB D B N w l ks) : notT D w l := fun c fr e => by rw [h.obj] at e; cases e
theorem MapB.st (h : MapB D B N w l ks) (hs : St D B w w') : MapB D B N w' l ks := ⟨(hs.ext.keep l (heap_lt h.obj) (.inr h.notT)).trans h.obj, h.low, h.base, hs.ext.priv l (heap_lt h.obj) h.priv⟩
theorem MapB.mb {b : Option Nat} (h : MapB D B N w l ks) (hm : Mb D B b w w') (hb : b ≠ some l) : MapB D B N w' l ks := ⟨(hm.keep l (heap_lt h.obj) (Ne.symm hb)).trans h.obj, h.low, h.base, hm.priv h.priv⟩
theorem MapB.le {N' : Nat} (h : MapB D B N w l ks) (hN : N' ≤ N) : MapB D B N' w l ks := ⟨h.obj, Nat.le_trans hN h.low, h.base, h.priv⟩
theorem MapB.ne_own {N' : Nat} {E' : TypeId} {u : Value} {b : Option Nat} {xs : List Value} (h : MapB D B N w l ks) (ho : Own D B N' w E' u b xs) (_ : True) : b ≠ some l := by
  intro e
  obtain ⟨c, e', fr, hk⟩ := ho.isrow l e
  rw [h.obj] at hk; cases hk
theorem Mb.allocM (D : FD) (B : Nat) (w : World) (es : Array MapEntry) (c : Nat) : Mb D B none w (w.alloc (.map es c)) := by
  refine ⟨rfl, rfl, rfl, by simp, fun k hk _ => ?_, fun k hk c' fr' hc => ?_, fun k e => by cases e⟩
  · exact RowKit.Below.heap_alloc w _ k hk
  · have : (w.heap.push (.map es c))[k]? = some (.cells c' D.T fr') := hc
    rw [Array.getElem?_push] at this
    split at this
    · cases this
    · rw [Array.getElem?_eq_none (by omega)] at this; cases this
end
section
variable {P : Program} {ops : Array Oper} {K : Kont} {rest : List Oper} {n : NN} {F : Fs} {T : TypeId} {pp : String} {af : Array Edge} {v : Value} {d : Nat} {a : Act} {w : World} {x y z : Operand} {D : FD} {B : Nat}
def MapT (P : Program) (t : TypeId) : Prop := ∃ kt et i, P.underlying t = some (.map kt et) ∧ P.underlying kt = some (.int .i64) ∧ P.info? et = some i ∧ i.zero = some (.bool false)
theorem mapT_of {P : Program} {t kt et : TypeId} (h : P.underlying t = some (.map kt et)) (hk : P.underlying kt = some (.int .i64)) (hz : (P.info? et).map (fun i => i.zero) = some (some (.bool false))) : MapT P t := by
  cases hi : P.info? et with
  | none => rw [hi] at hz; cases hz
  | some i => rw [hi] at hz; exact ⟨kt, et, i, h, hk, hi, by simpa using hz⟩
theorem s_mkmap {t : TypeId} (hF : Fr n F a) (hI : Inv D B w) (hd : Nat.blt d n.n = true)
    (k : ∀ g w' a, Mb D B none w w' → Inv D B w' → MapB D B w.heap.size w' g [] → Fr n ((d, .map (some g)) :: F) a → WL P ops K rest a w') :
    WL P ops K (⟨some d, .makeMap t none, T, pp, af, none⟩ :: rest) a w := by
  have hm := Mb.allocM D B w #[] 0
  refine s_run (w' := w.alloc (.map #[] 0)) hF (fun ρ h => ?_) hd fun a hF => k _ _ a hm (hm.inv hI) ⟨alloc_new w _, Nat.le_refl _, hI.1, hm.priv (hI.priv_new (Nat.le_refl _))⟩ hF
  have := run_makeMap (P := P) t w
  simp only [execOp]
  simp [this]
theorem v_look {t : TypeId} {N l : Nat} {k : Int} {ks : List Int} (ht : MapT P t) (hx : ev F x = some (.map (some l))) (hy : ev F y = some (.int .i64 k)) (hb : MapB D B N w l ks) : Val P (.lookup t x y false) T F w (.bool (decide (k ∈ ks))) :=
  fun ρ h d p af g => by
    obtain ⟨kt, et, i, h1, h2, h3, h4⟩ := ht
    obtain ⟨f1, f2⟩ := findNow_mes (kd := .i64) k ks 0 0
    have hck : (Instr.checkKey (mes ks).isEmpty 10000 kt (.int .i64 k)).run P w = .ok () w := run_checkKey h2 (k := .int .i64 k) (by simp [IsKey]) _ _
    have hg : (getObj l).run P w = .ok (.map (mes ks) ks.length) w := by simp [getObj, Sem.run, hb.obj]
    by_cases e : k ∈ ks
    · obtain ⟨j, hj⟩ := f1 e
      have hf := run_findKey (P := P) (w := w) h2 (l := (mes ks).toList) (by simpa [mes] using hj)
      simp [execOp, h x _ hx, h y _ hy, Instr.lookup, underlying, h1, program, Sem.run, hg, hck, hf, e]
    · have hf := run_findKey (P := P) (w := w) h2 (l := (mes ks).toList) (by simpa [mes] using f2 e)
      simp [execOp, h x _ hx, h y _ hy, Instr.lookup, underlying, h1, program, Sem.run, hg, hck, hf, e, zeroValue, typeInfo, h3, h4]
theorem s_mapput {t : TypeId} {N l : Nat} {k : Int} {ks : List Int} (hF : Fr n F a) (ht : MapT P t) (hx : ev F x = some (.map (some l))) (hy : ev F y = some (.int .i64 k)) (hz : ev F z = some (.bool true)) (hb : MapB D B N w l ks) (hk : k ∉ ks) (hI : Inv D B w)
    (kk : ∀ w', Mb D B (some l) w w' → Inv D B w' → MapB D B N w' l (ks ++ [k]) → WL P ops K rest a w') :
    WL P ops K (⟨none, .mapUpdate t x y z, T, pp, af, none⟩ :: rest) a w := by
  obtain ⟨kt, et, i, h1, h2, h3, h4⟩ := ht
  have hck : (Instr.checkKey false 10000 kt (.int .i64 k)).run P w = .ok () w := run_checkKey h2 (k := .int .i64 k) (by simp [IsKey]) _ _
  have hg : (getObj l).run P w = .ok (.map (mes ks) ks.length) w := by simp [getObj, Sem.run, hb.obj]
  have hf := run_findKey (P := P) (w := w) h2 (l := (mes ks).toList) (by simpa [mes] using (findNow_mes (kd := .i64) k ks 0 0).2 hk)
  have hst : (setObj l (.map ((mes ks).push { key := .int .i64 k, val := .bool true, born := ks.length }) (ks.length + 1))).run P w = .ok () { w with heap := w.heap.setIfInBounds l (.map ((mes ks).push { key := .int .i64 k, val := .bool true, born := ks.length }) (ks.length + 1)) } := by simp [setObj, Sem.run, hb.obj]
  have hrun : (execOp a.eval ⟨none, .mapUpdate t x y z, T, pp, af, none⟩).run P w = .ok .skip { w with heap := w.heap.setIfInBounds l (.map ((mes ks).push { key := .int .i64 k, val := .bool true, born := ks.length }) (ks.length + 1)) } := by
    simp [execOp, hF.reads x _ hx, hF.reads y _ hy, hF.reads z _ hz, Instr.mapUpdate, underlying, h1, program, Sem.run, hg, hck, hf, hst]
  obtain ⟨hs1, hs2⟩ := Go.MapKept.heap_set (o' := .map ((mes ks).push { key := .int .i64 k, val := .bool true, born := ks.length }) (ks.length + 1)) hb.obj
  have hm : Mb D B (some l) w { w with heap := w.heap.setIfInBounds l (.map ((mes ks).push { key := .int .i64 k, val := .bool true, born := ks.length }) (ks.length + 1)) } := by
    refine ⟨rfl, rfl, rfl, by simp, fun k hk hne => hs2 k (fun e => hne (by rw [e])), fun k hk c fr e => ?_, fun k e => ?_⟩
    · have hk2 : (w.heap.setIfInBounds l (.map ((mes ks).push { key := .int .i64 k, val := .bool true, born := ks.length }) (ks.length + 1))).size ≤ k := by simpa using hk
      rw [show (w.heap.setIfInBounds l (.map ((mes ks).push _) (ks.length + 1)))[k]? = none from Array.getElem?_eq_none (by simpa using hk)] at e
      cases e
    · obtain rfl := Option.some.inj e
      refine ⟨heap_lt hb.obj, hb.base, hb.notT, ?_, hb.priv⟩
      intro c fr e
      have e2 := hs1.symm.trans e
      cases e2
  unfold WL wpList
  rw [if_pos (by simp [Region.wanted])]
  refine .inl ?_
  unfold Oper.wp
  rw [hrun]
  refine kk _ hm (hm.inv hI) ⟨?_, hb.low, hb.base, hm.priv hb.priv⟩
  rw [mes_snoc, List.length_append]
  exact hs1
end
end Go.Gam

/- The plain laws of layer 7. No program in sight. -/
set_option linter.unusedSectionVars false
namespace Go.Gam
open Px
theorem fitB_ok {o : Fq} (ho : o.isSome = true) {k m : Nat} (h1 : 1 ≤ k) (h2 : 1 ≤ m) (h3 : k + m ≤ 20) : fitB o (k : Int) (m : Int) = true := fitB_iff.2 ⟨ho, by omega, by omega, by omega, by omega, by omega⟩
theorem extM_is {o : Fq} (ho : o.isSome = true) {k m : Nat} (h1 : 1 ≤ k) (h2 : 1 ≤ m) (h3 : k + m ≤ 20) : extM o (k : Int) (m : Int) = some (tab (k + m) k (extT o k m)) := by
  unfold extM
  rw [if_pos (fitB_ok ho h1 h2 h3)]
  rfl
section
variable {wb p : Nat} (hp : Prm wb p)
theorem inv_tab {k : Nat} {f g : Tb} (hb : hp.fld.Bd f) (h1 : 1 ≤ k) (h2 : k ≤ 20) (hI : hp.fld.Iv k f g) : invR hp (tab k k f) = (0, tab k k g) := by
  have hm := mx_tab hp (n := k) (m := k) hb
  have hl : (tab k k f).length = k := tab_length _ _ _
  have hI2 := hI.congr hp.fld (hm.bd hp) fun i j hi hj => (en_tab hi hj : en (tab k k f) i j = _)
  obtain ⟨g', hg⟩ := hp.fld.iv_of_Iv hI2
  have hu := (hp.fld.iv_some (hm.bd hp) hg).uniq hp.fld hI.bd' fun i j hi hj => hI2.r i j hi hj
  rw [invR_some hp (hm.sq h1 h2) (g := g') (by rw [hl]; exact hg), hl]
  congr 1
  exact tab_congr fun i j hi hj => (hu i j hi hj).symm
theorem mul_tab {n m k : Nat} {f g : Tb} (hf : hp.fld.Bd f) (hg : hp.fld.Bd g) (hn : 1 ≤ n ∧ n ≤ 20) (hm : 1 ≤ m ∧ m ≤ 20) (hk : 1 ≤ k ∧ k ≤ 20) : mulM (some (wb, p)) (tab n m f) (tab m k g) = some (tab n k (hp.fld.mm m f g)) := by
  rw [mulM_tab hp (mx_tab hp hf) (mx_tab hp hg) hn hm hk]
  congr 1
  exact tab_congr fun i j hi hj => xsum_congr fun l hl => by rw [en_tab hi hl, en_tab hl hj]
variable {k m : Nat} (hk : 1 ≤ k) (hm : 1 ≤ m) (h20 : k + m ≤ 20)
include hk hm h20
theorem ext_ginv : ∃ g, hp.fld.Iv k (extT (some (wb, p)) k m) g ∧ invR hp (tab k k (extT (some (wb, p)) k m)) = (0, tab k k g) := by
  obtain ⟨g, hg⟩ := ext_top hp hk hm h20
  have hI := hp.fld.iv_some (extT_bd hp k m) hg
  exact ⟨g, hI, inv_tab hp (extT_bd hp k m) hk (by omega) hI⟩
theorem ext_mul {g : Tb} (hI : hp.fld.Iv k (extT (some (wb, p)) k m) g) : mulM (some (wb, p)) (tab m k fun i j => extT (some (wb, p)) k m (k + i) j) (tab k k g) = some (tab m k (jG hp k m)) := by
  rw [mul_tab hp (fun i j => extT_bd hp k m _ _) hI.bd' ⟨hm, by omega⟩ ⟨hk, by omega⟩ ⟨hk, by omega⟩]
  congr 1
  obtain ⟨C, C', hC, he⟩ := jG_ex hp hk hm h20
  have hu := hI.uniq hp.fld hC.bd fun i j hi hj => by rw [← he i j hj]; exact if_pos hi
  refine tab_congr fun i j hi hj => ?_
  have := he (k + i) j hj
  unfold beh at this
  rw [if_neg (by omega), Nat.add_sub_cancel_left] at this
  rw [this]
  exact xsum_congr fun l hl => by rw [hu l j hl hj]
end
end Go.Gam

/- Numbers in a row; minors; rows of inverses. No program in sight. -/
set_option linter.unusedSectionVars false
namespace Go.Gam
open Px
def rnT (fr i : Nat) : Tb := fun _ j => if j < i then fr + j else 0
theorem rn_zero {fr many : Nat} : List.replicate many (Value.int .i64 0) = zints (trow many (rnT fr 0) 0) := by
  apply List.ext_getElem?
  intro j
  by_cases hj : j < many
  · rw [zints_at (trow_at hj)]; simp [hj, rnT]
  · rw [List.getElem?_eq_none (by simp; omega), List.getElem?_eq_none (by simp [zints]; omega)]
theorem rn_step {fr i l : Nat} : rnT fr (i + 1) 0 l = if l = i then fr + i else rnT fr i 0 l := by
  unfold rnT
  by_cases e : l = i
  · rw [if_pos e, if_pos (by omega), e]
  · rw [if_neg e]
    by_cases h : l < i
    · rw [if_pos h, if_pos (by omega)]
    · rw [if_neg h, if_neg (by omega)]
theorem rn_end {fr many : Nat} : zints ((List.range many).map fun j => ((fr + j : Nat) : Int)) = zints (trow many (rnT fr many) 0) := by
  congr 1
  refine List.map_congr_left fun j hj => ?_
  unfold rnT; rw [if_pos (List.mem_range.1 hj)]
/-! ### rows of inverses -/
section
variable {wb p : Nat} (hp : Prm wb p)
def ofB (wb : Nat) (x y : List Int) : Bool := decide (1 ≤ x.length ∧ x.length ≤ 20 ∧ 1 ≤ y.length ∧ y.length ≤ 20) && unl (x ++ y) ((2 ^ wb : Nat) : Int)
def ofT (x y : List Int) : Tb := fun i j => hp.fld.inv ((x.getD i 0).toNat ^^^ (y.getD j 0).toNat)
def ofM (x y : List Int) : Option Mtx := if ofB wb x y = true then some (tab x.length y.length (ofT hp x y)) else none
theorem ofM_no {x y : List Int} (h : ofB wb x y = false) : ofM hp x y = none := by unfold ofM; rw [h]; rfl
theorem ofM_is {x y : List Int} (h : ofB wb x y = true) : ofM hp x y = some (tab x.length y.length (ofT hp x y)) := by unfold ofM; rw [if_pos h]
theorem ofB_len {wb : Nat} {x y : List Int} (h : ¬ (1 ≤ x.length ∧ x.length ≤ 20 ∧ 1 ≤ y.length ∧ y.length ≤ 20)) : ofB wb x y = false := by unfold ofB; rw [decide_eq_false h]; rfl
theorem ofB_bad {wb : Nat} {x y : List Int} {i : Nat} {a : Int} (ha : (x ++ y)[i]? = some a) (h : a < 0 ∨ ((2 ^ wb : Nat) : Int) ≤ a ∨ a ∈ (x ++ y).take i) : ofB wb x y = false := by
  unfold ofB
  rw [unl_no, Bool.and_false]
  rintro ⟨h1, h2⟩
  have := h2 a (List.mem_of_getElem? ha)
  rcases h with h | h | h
  · omega
  · omega
  · obtain ⟨j, hj⟩ := List.getElem?_of_mem h
    rw [List.getElem?_take] at hj
    split at hj
    · exact nodup_no (by assumption) ha hj h1
    · cases hj
theorem ofB_ok {wb : Nat} {x y : List Int} (h : 1 ≤ x.length ∧ x.length ≤ 20 ∧ 1 ≤ y.length ∧ y.length ≤ 20) (h1 : (x ++ y).Nodup) (h2 : ∀ z ∈ x ++ y, 0 ≤ z ∧ z < ((2 ^ wb : Nat) : Int)) : ofB wb x y = true := by
  unfold ofB unl
  rw [decide_eq_true h, decide_eq_true ⟨h1, h2⟩]; rfl
theorem ofT_at {x y : List Int} {i j a b : Nat} (ha : x[i]? = some (a : Int)) (hb : y[j]? = some (b : Int)) : ofT hp x y i j = hp.fld.inv (a ^^^ b) := by
  unfold ofT
  rw [List.getD_eq_getElem?_getD, List.getD_eq_getElem?_getD, ha, hb]; rfl
theorem of_cell {wb : Nat} {x y : List Int} {i j : Nat} (h1 : (x ++ y).Nodup) (h2 : ∀ z ∈ x ++ y, 0 ≤ z ∧ z < ((2 ^ wb : Nat) : Int)) (hi : i < x.length) (hj : j < y.length) :
    ∃ a b : Nat, x[i]? = some (a : Int) ∧ y[j]? = some (b : Int) ∧ a < 2 ^ wb ∧ b < 2 ^ wb ∧ a ^^^ b < 2 ^ wb ∧ a ^^^ b ≠ 0 := by
  have hx := List.getElem?_eq_getElem hi
  have hy := List.getElem?_eq_getElem hj
  have b1 := h2 x[i] (List.mem_append_left _ (List.getElem_mem hi))
  have b2 := h2 y[j] (List.mem_append_right _ (List.getElem_mem hj))
  refine ⟨x[i].toNat, y[j].toNat, by rw [hx, Int.toNat_of_nonneg b1.1], by rw [hy, Int.toNat_of_nonneg b2.1], by omega, by omega, Px.xor_lt (by omega) (by omega), fun e => ?_⟩
  have e2 := Px.xor_eq_zero e
  have e3 : x[i] = y[j] := by omega
  exact (List.nodup_append.1 h1).2.2 x[i] (List.getElem_mem hi) y[j] (List.getElem_mem hj) e3
def rnL (fr many : Nat) : List Int := (List.range many).map fun j => ((fr + j : Nat) : Int)
theorem rnL_length (fr many : Nat) : (rnL fr many).length = many := by simp [rnL]
def origM (k m : Int) : Option Mtx := if fitB (some (wb, p)) k m = true then ofM hp (rnL 0 m.toNat) (rnL m.toNat k.toNat) else none
def cisaM (k m : Int) : Option Mtx := if fitB (some (wb, p)) k m = true then ofM hp (rnL k.toNat m.toNat) (rnL 0 k.toNat) else none
theorem origM_no {k m : Int} (h : fitB (some (wb, p)) k m = false) : origM hp k m = none := by unfold origM; rw [h]; rfl
theorem cisaM_no {k m : Int} (h : fitB (some (wb, p)) k m = false) : cisaM hp k m = none := by unfold cisaM; rw [h]; rfl
theorem fitB_not {k m : Int} (h : ¬ (1 ≤ k ∧ 1 ≤ m ∧ k + m ≤ 20)) : fitB (some (wb, p)) k m = false := by
  rw [Bool.eq_false_iff, Ne, fitB_iff]; omega
end
end Go.Gam

/- The walks of package cauchy: numbers in a row, minors. -/
namespace Go.Proofs.YtkoiolamnnmokaaGreat
open Go Go.Gam
namespace FxFCau
theorem on3 : Gam.One Tryz.prog 3 := by unfold Gam.One; kernel_rfl
theorem sl53 : Sl Tryz.prog 53 3 (.int .i64 0) 8 := sl_of Tryz.underlying53 rfl (by kernel_rfl)
end FxFCau
open FxFCau
set_option maxRecDepth 100000 in
set_option maxHeartbeats 1000000 in
theorem cwithin_ok (n : Int) (w : World) : Ret Tryz.prog 52 [.int .i64 n] w fun v w' => v = .bool (decide (1 ≤ n ∧ n ≤ 20)) ∧ w' = w := by
 refine enter 9 [(0, .int .i64 n)] 2 Tryz.func52 rfl rfl rfl rfl rfl ?_; intro a hF
 refine W_sr rfl fun K hK => ?_
 refine svw hK hF (v_assign rfl) rfl ?_; clear hF a hK K; intro a hF
 refine W_sr rfl fun K hK => ?_
 refine sv hF (v_move rfl) rfl ?_; clear hF a; intro a hF
 refine sb hF (v_geq rfl rfl) rfl ?_ ?_
 ·
  clear hF a; intro hc1 a hF
  try simp only [dcl] at hc1
  refine sv hF (v_move rfl) rfl ?_; clear hF a; intro a hF
  refine svg hF rfl ?_
  refine sv hF (v_move rfl) rfl ?_; clear hF a; intro a hF
  refine svg hF rfl ?_
  refine sv3w hK hF (v_leq rfl rfl) (v_pickT rfl rfl) (v_assign rfl) rfl rfl rfl ?_; clear hF a hK K; intro a hF
  replace hF := hF.sub _ (c_ 2 rfl (n_))
  refine W_ret ?_
  refine ⟨_, _, hF, rfl, ?_⟩
  refine ⟨congrArg Value.bool ?_, rfl⟩
  first | (symm; rw [decide_eq_false_iff_not]; omega) | (rw [decide_eq_decide]; omega)
 ·
  clear hF a; intro hc1 a hF
  try simp only [dcl] at hc1
  refine sv hF (v_move rfl) rfl ?_; clear hF a; intro a hF
  refine svn2 hF rfl rfl rfl rfl rfl rfl ?_; clear hF a; intro a hF
  refine sv2w hK hF (v_pickF rfl rfl) (v_assign rfl) rfl rfl ?_; clear hF a hK K; intro a hF
  replace hF := hF.sub _ (c_ 2 rfl (n_))
  refine W_ret ?_
  refine ⟨_, _, hF, rfl, ?_⟩
  refine ⟨congrArg Value.bool ?_, rfl⟩
  first | (symm; rw [decide_eq_false_iff_not]; omega) | (rw [decide_eq_decide]; omega)
set_option maxRecDepth 100000 in
set_option maxHeartbeats 1000000 in
theorem run_ok (B fr many : Nat) (w : World) (hI : Inv FDx B w) (hm : fr ≤ 1000 ∧ many ≤ 1000) : Ret Tryz.prog 54 [.int .i64 (fr : Int), .int .i64 (many : Int)] w fun v w' => ∃ gl, v = .slice (some ⟨gl, 0, none⟩) many many ∧ Gam.Own FDx B w.heap.size w' FDx.E v (some gl) (zints ((List.range many).map fun j => ((fr + j : Nat) : Int))) ∧ St FDx B w w' := by
 refine enter 22 [(0, .int .i64 (fr : Int)), (1, .int .i64 (many : Int))] 4 Tryz.func54 rfl rfl rfl rfl rfl ?_; intro a hF
 have hS := St.refl hI
 refine W_sr rfl fun K hK => ?_
 refine svw hK hF (v_assign rfl) rfl ?_; clear hF a hK K; intro a hF
 refine W_sr rfl fun K hK => ?_
 refine sv hF (v_move rfl) rfl ?_; clear hF a; intro a hF
 obtain ⟨gl, hgl⟩ : ∃ g, g = w.heap.size := ⟨_, rfl⟩
 refine s_mk (D := FDx) (B := B) (m := many) hF sl53 rfl rfl (by simp) (by omega) (by simp only [maxLen]; omega) (by decide) hS.inv rfl ?_; clear hF a; intro w' a hm hI' hO hF
 replace hS := hS.mb0 hm
 clear hm hI'
 rw [← hgl] at hO hF
 replace hO := (hO.le (show w.heap.size ≤ gl by omega)).cast (ys := zints (trow many (rnT fr (0)) 0)) rn_zero
 refine svw hK hF (v_assign rfl) rfl ?_; clear hF a hK K; intro a hF
 replace hF := hF.sub _ (c_ 5 rfl (c_ 4 rfl (c_ 0 rfl (n_))))
 refine W_seq ?_
 refine W_sr rfl fun K hK => ?_
 refine sv3w hK hF (v_move rfl) (v_lenS rfl sl53 rfl) (v_move rfl) rfl rfl rfl ?_; clear hF a hK K; intro a hF
 replace hF := hF.sub _ (c_ 11 rfl (c_ 10 rfl (c_ 5 rfl (c_ 4 rfl (c_ 0 rfl (n_))))))
 refine W_block ?_
 refine W_loop (fun q a w1 => ∃ (i : Nat), Fr 22 [(0, .int .i64 (fr : Int)), (5, .slice (some ⟨gl, 0, none⟩) many many), (10, .int .i64 (many : Int)), (11, .int .i64 (i : Int))] a ∧ (St FDx B w w1) ∧ (Gam.Own FDx B w.heap.size w1 FDx.E (.slice (some ⟨gl, 0, none⟩) many many) (some gl) (zints (trow many (rnT fr (i)) 0))) ∧ (i ≤ many) ∧ (q + i = many)) (many) ?_ ?_
 ·
  skip
  exact ⟨0, hF.sub _ (c_ 0 rfl (c_ 5 rfl (c_ 10 rfl (c_ 11 rfl (n_))))), hS, hO, by omega, by omega⟩
 ·
  skip
  clear hF
  clear hS hO
  rintro q a w1 ⟨i, hF, hS, hO, hi, hq⟩
  refine W_sr rfl fun K hK => ?_
  refine svw hK hF (v_lss rfl rfl) rfl ?_; clear hF a hK K; intro a hF
  refine W_seq ?_
  refine W_if hF rfl (fun hc1 => ?_) (fun hc1 => ?_)
  ·
   skip
   try simp only [dcl] at hc1
   have hlt : i < many := by omega
   refine W_skip ?_
   refine W_seq ?_
   refine W_block ?_
   refine W_sr rfl fun K hK => ?_
   refine sv2w hK hF (v_move rfl) (v_assign rfl) rfl rfl ?_; clear hF a hK K; intro a hF
   replace hF := hF.sub _ (c_ 6 rfl (c_ 0 rfl (c_ 5 rfl (c_ 10 rfl (c_ 11 rfl (n_))))))
   refine W_reg rfl fun K hK => ?_
   refine sv4 hF (v_move rfl) (v_move rfl) (v_move rfl) (v_move rfl) rfl rfl rfl rfl ?_; clear hF a; intro a hF
   refine sv hF ((v_addI rfl rfl (by omega)).as (show Value.int .i64 ((fr : Int) + (i : Int)) = .int .i64 ((fr + i : Nat) : Int) by simp)) rfl ?_; clear hF a; intro a hF
   refine sv hF (v_ixS sl53 rfl rfl (by omega) (by omega)) rfl ?_; clear hF a; intro a hF
   refine s_set (D := FDx) (B := B) hF on3 rfl (by rw [toNat_c]; simp [zints]; omega) rfl rfl hO (by decide) hS.inv ?_; intro w' hm hI' ho'
   replace hS := hS.mb hm (fun k h => Nat.le_trans (Nat.le_refl _) (hO.lt k h).1)
   replace hO := ho'
   clear hm hI' ho'
   rw [toNat_c, Nat.zero_add, zints_set, trow_set (g := rnT fr (i + 1)) (fun l hl => rn_step)] at hO
   refine wn hK ?_
   clear hK K
   replace hF := hF.sub _ (c_ 0 rfl (c_ 5 rfl (c_ 10 rfl (c_ 11 rfl (n_)))))
   refine W_reg rfl fun K hK => ?_
   refine sv2w hK hF (v_addI rfl rfl (by omega)) (v_move rfl) rfl rfl ?_; clear hF a hK K; intro a hF
   exact ⟨q - 1, by omega, i + 1, hF.sub _ (c_ 0 rfl (c_ 5 rfl (c_ 10 rfl (c_ 11 rfl (n_))))), hS, hO, by omega, by omega⟩
  ·
   skip
   try simp only [dcl] at hc1
   refine W_exit rfl ?_
   refine W_sr rfl fun K hK => ?_
   refine sv2w hK hF (v_move rfl) (v_assign rfl) rfl rfl ?_; clear hF a hK K; intro a hF
   replace hF := hF.sub _ (c_ 4 rfl (c_ 21 rfl (c_ 0 rfl (c_ 5 rfl (c_ 10 rfl (c_ 11 rfl (n_)))))))
   refine W_ret ?_
   refine ⟨_, _, hF, rfl, ?_⟩
   obtain rfl : i = many := by omega
   exact ⟨_, rfl, hO.cast rn_end.symm, hS⟩
end Go.Proofs.YtkoiolamnnmokaaGreat

/- The walk of package cauchy: rows of inverses. -/
namespace Go.Proofs.YtkoiolamnnmokaaGreat
open Go Go.Gam
namespace FxFCau2
theorem en49 : Ent Tryz.prog 49 := ent Tryz.func49 (by kernel_rfl) (by kernel_rfl)
theorem en52 : Ent Tryz.prog 52 := ent Tryz.func52 (by kernel_rfl) (by kernel_rfl)
theorem en53 : Ent Tryz.prog 53 := ent Tryz.func53 (by kernel_rfl) (by kernel_rfl)
theorem en54 : Ent Tryz.prog 54 := ent Tryz.func54 (by kernel_rfl) (by kernel_rfl)
theorem en75 : Ent Tryz.prog 75 := ent Tryz.func75 (by kernel_rfl) (by kernel_rfl)
theorem en76 : Ent Tryz.prog 76 := ent Tryz.func76 (by kernel_rfl) (by kernel_rfl)
theorem mt126 : MapT Tryz.prog 126 := mapT_of Tryz.underlying126 Tryz.underlying3 (by kernel_rfl)
theorem sc3 : Scalar Tryz.prog 3 := ⟨_, Tryz.underlying3, by simp, by simp⟩
theorem sl35 : Sl Tryz.prog 35 53 (.slice none 0 0) 24 := sl_of Tryz.underlying35 rfl (by kernel_rfl)
theorem sl36 : Sl Tryz.prog 36 53 (.slice none 0 0) 24 := sl_of Tryz.underlying36 rfl (by kernel_rfl)
theorem sl53 : Sl Tryz.prog 53 3 (.int .i64 0) 8 := sl_of Tryz.underlying53 rfl (by kernel_rfl)
end FxFCau2
open FxFCau2
set_option maxRecDepth 100000 in
set_option maxHeartbeats 1000000 in
theorem Of_ok (B M wb p : Nat) (hp : Prm wb p) (fv : Value) (px py : Option Addr) (cx cy : Nat) (x y : List Int) (w : World) (hI : Inv FDx B w) (hM : M ≤ w.heap.size) (hf : Fo FDx B w fv (some (wb, p))) (hx : Row FDx B M w (.slice px x.length cx) (zints x)) (hy : Row FDx B M w (.slice py y.length cy) (zints y)) (hl : x.length ≤ maxLen ∧ y.length ≤ maxLen) : Ret Tryz.prog 53 [fv, .slice px x.length cx, .slice py y.length cy] w fun v w' => ∃ ob u, v = .tuple #[u, .int .i64 (errV (ofM hp x y))] ∧ MOwn FDx B w.heap.size 0 w'.heap.size w' 53 u ob ((ofM hp x y).getD []) ∧ St FDx B w w' := by
 refine enter2 86 [(0, fv), (1, .slice px x.length cx), (2, .slice py y.length cy)] 6 7 Tryz.func53 rfl rfl rfl rfl rfl ?_; intro a hF
 have hS := St.refl hI
 have hl2 := hl
 simp only [maxLen] at hl2
 have h16 : 2 ^ wb ≤ 65536 := by rcases hp.w with h | h <;> rw [h] <;> decide
 refine W_sr rfl fun K hK => ?_
 refine sv2w hK hF (v_assign rfl) (v_assign rfl) rfl rfl ?_; clear hF a hK K; intro a hF
 refine W_seq ?_
 refine W_sr rfl fun K hK => ?_
 refine sv2 hF (v_move rfl) (v_lenS rfl sl53 rfl) rfl rfl ?_; clear hF a; intro a hF
 refine sc hF rfl rfl rfl en52 rfl (cwithin_ok _ _) ?_; clear hF a; intro v w' a hv hF
 obtain ⟨rfl, hw⟩ := hv
 obtain rfl := hw.symm
 have hS' := St.refl hS.inv
 replace hf := hf.st hS'
 replace hx := hx.st hS'
 replace hy := hy.st hS'
 replace hS := hS.trans hS'
 clear hS'
 refine sb hF (v_not rfl) rfl ?_ ?_
 ·
  clear hF a; intro hc1 a hF
  try simp only [dcl] at hc1
  refine sv hF (v_move rfl) rfl ?_; clear hF a; intro a hF
  refine svn4 hF rfl rfl rfl rfl rfl rfl rfl rfl rfl rfl rfl rfl ?_; clear hF a; intro a hF
  refine svw hK hF (v_pickT rfl rfl) rfl ?_; clear hF a hK K; intro a hF
  replace hF := hF.sub _ (c_ 28 rfl (c_ 7 rfl (c_ 6 rfl (c_ 0 rfl (c_ 1 rfl (c_ 2 rfl (n_)))))))
  refine W_ifT hF rfl ?_
  refine W_sr rfl fun K hK => ?_
  refine sv2w hK hF (v_assign rfl) (v_assign rfl) rfl rfl ?_; clear hF a hK K; intro a hF
  replace hF := hF.sub _ (c_ 7 rfl (c_ 6 rfl (c_ 0 rfl (c_ 1 rfl (c_ 2 rfl (n_))))))
  refine W_ret ?_
  refine ⟨_, _, _, hF, rfl, rfl, ?_⟩
  rw [ofM_no hp (ofB_len (by omega))]
  exact ⟨none, _, rfl, MOwn.nil _ _ _ _ _ _ _ (Nat.zero_le _), hS⟩
 ·
  clear hF a; intro hc1 a hF
  try simp only [dcl] at hc1
  refine sv hF (v_move rfl) rfl ?_; clear hF a; intro a hF
  refine svg hF rfl ?_
  refine sv hF (v_move rfl) rfl ?_; clear hF a; intro a hF
  refine svg hF rfl ?_
  refine sv hF (v_lenS rfl sl53 rfl) rfl ?_; clear hF a; intro a hF
  refine svg hF rfl ?_
  refine sc hF rfl rfl rfl en52 rfl (cwithin_ok _ _) ?_; clear hF a; intro v w' a hv hF
  obtain ⟨rfl, hw⟩ := hv
  obtain rfl := hw.symm
  have hS' := St.refl hS.inv
  replace hf := hf.st hS'
  replace hx := hx.st hS'
  replace hy := hy.st hS'
  replace hS := hS.trans hS'
  clear hS'
  refine svg hF rfl ?_
  refine sv2w hK hF (v_not rfl) (v_pickF rfl rfl) rfl rfl ?_; clear hF a hK K; intro a hF
  replace hF := hF.sub _ (c_ 28 rfl (c_ 7 rfl (c_ 6 rfl (c_ 0 rfl (c_ 1 rfl (c_ 2 rfl (n_)))))))
  refine W_if hF rfl (fun hc2 => ?_) (fun hc2 => ?_)
  ·
   skip
   try simp only [dcl] at hc2
   refine W_sr rfl fun K hK => ?_
   refine sv2w hK hF (v_assign rfl) (v_assign rfl) rfl rfl ?_; clear hF a hK K; intro a hF
   replace hF := hF.sub _ (c_ 7 rfl (c_ 6 rfl (c_ 0 rfl (c_ 1 rfl (c_ 2 rfl (n_))))))
   refine W_ret ?_
   refine ⟨_, _, _, hF, rfl, rfl, ?_⟩
   rw [ofM_no hp (ofB_len (by omega))]
   exact ⟨none, _, rfl, MOwn.nil _ _ _ _ _ _ _ (Nat.zero_le _), hS⟩
  ·
   skip
   try simp only [dcl] at hc2
   refine W_skip ?_
   have hln : 1 ≤ x.length ∧ x.length ≤ 20 ∧ 1 ≤ y.length ∧ y.length ≤ 20 := by omega
   refine W_sr rfl fun K hK => ?_
   have hs0 := hS.ext.size
   refine s_mkmap (D := FDx) (B := B) hF hS.inv rfl ?_; clear hF a; intro gl w' a hm hI' hmp hF
   replace hf := hf.mb hm
   replace hx := hx.mb hm (fun _ h => by cases h)
   replace hy := hy.mb hm (fun _ h => by cases h)
   replace hS := hS.mb0 hm
   clear hm hI'
   replace hmp := hmp.le hs0
   clear hs0
   refine svw hK hF (v_assign rfl) rfl ?_; clear hF a hK K; intro a hF
   replace hF := hF.sub _ (c_ 8 rfl (c_ 7 rfl (c_ 6 rfl (c_ 0 rfl (c_ 1 rfl (c_ 2 rfl (n_)))))))
   refine W_seq ?_
   refine W_sr rfl fun K hK => ?_
   refine sv2 hF (v_move rfl) (v_move rfl) rfl rfl ?_; clear hF a; intro a hF
   refine s_bs (D := FDx) (B := B) hF sl35 rfl rfl (by decide) (by simp [Value.cells]) (by decide) hS.inv rfl ?_; clear hF a; intro w' a hm hI' hL hF
   replace hf := hf.mb hm
   replace hx := hx.mb hm (fun _ h => by cases h)
   replace hy := hy.mb hm (fun _ h => by cases h)
   replace hmp := hmp.mb hm (by simp)
   replace hS := hS.mb0 hm
   clear hm hI'
   refine sc hF rfl rfl rfl en76 rfl (Concat_ok B _ _ _ [x, y] _ hS.inv (Mat.two hL (by decide) (hx.mono (Nat.le_trans hM hS.ext.size)) (hy.mono (Nat.le_trans hM hS.ext.size))) (Nat.le_refl _) (by simp) (by intro r hr; simp at hr; rcases hr with rfl | rfl <;> omega)) ?_; clear hF a; intro v w' a hv hF
   obtain ⟨ob, hC, hS'⟩ := hv
   replace hC := (hC.le hS.ext.size).cast (congrArg zints (show ([x, y] : Mtx).flatten = x ++ y by simp))
   obtain ⟨gL, cL, rfl, rfl⟩ := hC.ptr (by simp; omega)
   rw [zints_length, List.length_append] at hC hF
   clear hL
   replace hf := hf.st hS'
   replace hx := hx.st hS'
   replace hy := hy.st hS'
   replace hmp := hmp.st hS'
   replace hS := hS.trans hS'
   clear hS'
   refine sv2w hK hF (v_lenS rfl sl53 rfl) (v_move rfl) rfl rfl ?_; clear hF a hK K; intro a hF
   replace hF := hF.sub _ (c_ 35 rfl (c_ 34 rfl (c_ 33 rfl (c_ 8 rfl (c_ 7 rfl (c_ 6 rfl (c_ 0 rfl (c_ 1 rfl (c_ 2 rfl (n_))))))))))
   refine W_block ?_
   refine W_loop (fun q a w1 => ∃ (i : Nat), Fr 86 [(0, fv), (1, .slice px x.length cx), (2, .slice py y.length cy), (8, .map (some gl)), (33, .slice (some ⟨gL, 0, none⟩) (x.length + y.length) cL), (34, .int .i64 ((x.length + y.length : Nat) : Int)), (35, .int .i64 (i : Int))] a ∧ (St FDx B w w1) ∧ (Fo FDx B w1 fv (some (wb, p))) ∧ (Row FDx B M w1 (.slice px x.length cx) (zints x)) ∧ (Row FDx B M w1 (.slice py y.length cy) (zints y)) ∧ (Gam.Own FDx B w.heap.size w1 FDx.E (.slice (some ⟨gL, 0, none⟩) (x.length + y.length) cL) (some gL) (zints (x ++ y))) ∧ (MapB FDx B w.heap.size w1 gl ((x ++ y).take i)) ∧ (((x ++ y).take i).Nodup) ∧ (∀ z ∈ (x ++ y).take i, 0 ≤ z ∧ z < ((2 ^ wb : Nat) : Int)) ∧ (i ≤ x.length + y.length) ∧ (q + i = x.length + y.length)) (x.length + y.length) ?_ ?_
   ·
    skip
    exact ⟨0, hF.sub _ (c_ 0 rfl (c_ 1 rfl (c_ 2 rfl (c_ 8 rfl (c_ 33 rfl (c_ 34 rfl (c_ 35 rfl (n_)))))))), hS, hf, hx, hy, hC, hmp, List.nodup_nil, (fun z hz => by simp at hz), by omega, by omega⟩
   ·
    skip
    clear hF
    clear hS hf hx hy hC hmp
    rintro q a w1 ⟨i, hF, hS, hf, hx, hy, hC, hmp, hnd, hbd, hi, hq⟩
    refine W_sr rfl fun K hK => ?_
    refine svw hK hF (v_lss rfl rfl) rfl ?_; clear hF a hK K; intro a hF
    refine W_seq ?_
    refine W_if hF rfl (fun hc3 => ?_) (fun hc3 => ?_)
    ·
     skip
     try simp only [dcl] at hc3
     have hlt : i < (x ++ y).length := by rw [List.length_append]; omega
     obtain ⟨a_, ha⟩ : ∃ z, (x ++ y)[i]? = some z := ⟨_, List.getElem?_eq_getElem hlt⟩
     refine W_skip ?_
     refine W_seq ?_
     refine W_block ?_
     refine W_sr rfl fun K hK => ?_
     refine sv hF (v_ixS sl53 rfl rfl (by omega) (by omega)) rfl ?_; clear hF a; intro a hF
     refine sv hF (v_load sc3 rfl (by rw [toNat_c]; exact (hC.kc (by decide) (zints_at ha)).c)) rfl ?_; clear hF a; intro a hF
     refine svw hK hF (v_assign rfl) rfl ?_; clear hF a hK K; intro a hF
     replace hF := hF.sub _ (c_ 10 rfl (c_ 0 rfl (c_ 1 rfl (c_ 2 rfl (c_ 8 rfl (c_ 33 rfl (c_ 34 rfl (c_ 35 rfl (n_)))))))))
     refine W_seq ?_
     refine W_sr rfl fun K hK => ?_
     refine sv hF (v_move rfl) rfl ?_; clear hF a; intro a hF
     refine sb hF (v_lss rfl rfl) rfl ?_ ?_
     ·
      clear hF a; intro hc4 a hF
      try simp only [dcl] at hc4
      refine sv hF (v_move rfl) rfl ?_; clear hF a; intro a hF
      refine svn4 hF rfl rfl rfl rfl rfl rfl rfl rfl rfl rfl rfl rfl ?_; clear hF a; intro a hF
      refine sv2 hF (v_pickT rfl rfl) (v_move rfl) rfl rfl ?_; clear hF a; intro a hF
      refine svn3 hF rfl rfl rfl rfl rfl rfl rfl rfl rfl ?_; clear hF a; intro a hF
      refine svw hK hF (v_pickT rfl rfl) rfl ?_; clear hF a hK K; intro a hF
      replace hF := hF.sub _ (c_ 51 rfl (c_ 10 rfl (c_ 0 rfl (c_ 1 rfl (c_ 2 rfl (c_ 8 rfl (c_ 33 rfl (c_ 34 rfl (c_ 35 rfl (n_))))))))))
      refine W_ifT hF rfl ?_
      refine W_sr rfl fun K hK => ?_
      refine sv2w hK hF (v_assign rfl) (v_assign rfl) rfl rfl ?_; clear hF a hK K; intro a hF
      replace hF := hF.sub _ (c_ 7 rfl (c_ 6 rfl (c_ 10 rfl (c_ 0 rfl (c_ 1 rfl (c_ 2 rfl (c_ 8 rfl (c_ 33 rfl (c_ 34 rfl (c_ 35 rfl (n_)))))))))))
      refine W_ret ?_
      refine ⟨_, _, _, hF, rfl, rfl, ?_⟩
      rw [ofM_no hp (ofB_bad ha (by first | (left; omega) | (right; left; omega) | (right; right; assumption)))]
      exact ⟨none, _, rfl, MOwn.nil _ _ _ _ _ _ _ (Nat.zero_le _), hS⟩
     ·
      clear hF a; intro hc4 a hF
      try simp only [dcl] at hc4
      refine sv hF (v_move rfl) rfl ?_; clear hF a; intro a hF
      refine svg hF rfl ?_
      refine sv hF (v_move rfl) rfl ?_; clear hF a; intro a hF
      refine svg hF rfl ?_
      refine sv hF (v_move rfl) rfl ?_; clear hF a; intro a hF
      refine svg hF rfl ?_
      refine sc hF rfl rfl rfl en75 rfl (Size_ok B (some (wb, p)) fv _ hf) ?_; clear hF a; intro v w' a hv hF
      obtain ⟨rfl, hw⟩ := hv
      obtain rfl := hw.symm
      have hS' := St.refl hS.inv
      replace hf := hf.st hS'
      replace hx := hx.st hS'
      replace hy := hy.st hS'
      replace hC := hC.st (by decide) hS'
      replace hmp := hmp.st hS'
      replace hS := hS.trans hS'
      clear hS'
      rw [show ((fsz (some (wb, p)) : Nat) : Int) = ((2 ^ wb : Nat) : Int) from rfl] at hF
      refine svg hF rfl ?_
      refine sb hF (v_geq rfl rfl) rfl ?_ ?_
      ·
       clear hF a; intro hc5 a hF
       try simp only [dcl] at hc5
       refine sv2 hF (v_pickF rfl rfl) (v_move rfl) rfl rfl ?_; clear hF a; intro a hF
       refine svn3 hF rfl rfl rfl rfl rfl rfl rfl rfl rfl ?_; clear hF a; intro a hF
       refine svw hK hF (v_pickT rfl rfl) rfl ?_; clear hF a hK K; intro a hF
       replace hF := hF.sub _ (c_ 51 rfl (c_ 10 rfl (c_ 0 rfl (c_ 1 rfl (c_ 2 rfl (c_ 8 rfl (c_ 33 rfl (c_ 34 rfl (c_ 35 rfl (n_))))))))))
       refine W_ifT hF rfl ?_
       refine W_sr rfl fun K hK => ?_
       refine sv2w hK hF (v_assign rfl) (v_assign rfl) rfl rfl ?_; clear hF a hK K; intro a hF
       replace hF := hF.sub _ (c_ 7 rfl (c_ 6 rfl (c_ 10 rfl (c_ 0 rfl (c_ 1 rfl (c_ 2 rfl (c_ 8 rfl (c_ 33 rfl (c_ 34 rfl (c_ 35 rfl (n_)))))))))))
       refine W_ret ?_
       refine ⟨_, _, _, hF, rfl, rfl, ?_⟩
       rw [ofM_no hp (ofB_bad ha (by first | (left; omega) | (right; left; omega) | (right; right; assumption)))]
       exact ⟨none, _, rfl, MOwn.nil _ _ _ _ _ _ _ (Nat.zero_le _), hS⟩
      ·
       clear hF a; intro hc5 a hF
       try simp only [dcl] at hc5
       refine sv2 hF (v_pickF rfl rfl) (v_move rfl) rfl rfl ?_; clear hF a; intro a hF
       refine svg hF rfl ?_
       refine sv hF (v_move rfl) rfl ?_; clear hF a; intro a hF
       refine svg hF rfl ?_
       refine sv hF (v_move rfl) rfl ?_; clear hF a; intro a hF
       refine svg hF rfl ?_
       refine sv2w hK hF (v_look mt126 rfl rfl hmp) (v_pickF rfl rfl) rfl rfl ?_; clear hF a hK K; intro a hF
       replace hF := hF.sub _ (c_ 51 rfl (c_ 10 rfl (c_ 0 rfl (c_ 1 rfl (c_ 2 rfl (c_ 8 rfl (c_ 33 rfl (c_ 34 rfl (c_ 35 rfl (n_))))))))))
       refine W_if hF rfl (fun hc6 => ?_) (fun hc6 => ?_)
       ·
        skip
        try simp only [dcl] at hc6
        refine W_sr rfl fun K hK => ?_
        refine sv2w hK hF (v_assign rfl) (v_assign rfl) rfl rfl ?_; clear hF a hK K; intro a hF
        replace hF := hF.sub _ (c_ 7 rfl (c_ 6 rfl (c_ 10 rfl (c_ 0 rfl (c_ 1 rfl (c_ 2 rfl (c_ 8 rfl (c_ 33 rfl (c_ 34 rfl (c_ 35 rfl (n_)))))))))))
        refine W_ret ?_
        refine ⟨_, _, _, hF, rfl, rfl, ?_⟩
        rw [ofM_no hp (ofB_bad ha (by first | (left; omega) | (right; left; omega) | (right; right; assumption)))]
        exact ⟨none, _, rfl, MOwn.nil _ _ _ _ _ _ _ (Nat.zero_le _), hS⟩
       ·
        skip
        try simp only [dcl] at hc6
        have hnin : a_ ∉ (x ++ y).take i := by assumption
        refine W_skip ?_
        refine W_reg rfl fun K hK => ?_
        refine sv2 hF (v_move rfl) (v_move rfl) rfl rfl ?_; clear hF a; intro a hF
        refine s_mapput (D := FDx) (B := B) hF mt126 rfl rfl rfl hmp (hnin) hS.inv ?_; intro w' hm hI' hmp'
        replace hf := hf.mb hm
        replace hx := hx.mb hm (fun k h => by cases h; exact Nat.le_trans (hM) hmp.low)
        replace hy := hy.mb hm (fun k h => by cases h; exact Nat.le_trans (hM) hmp.low)
        replace hC := hC.mb hm ((fun k e e2 => hmp.ne_own hC (by decide) (e.trans e2.symm)))
        replace hS := hS.mb hm (fun k h => by cases h; exact hmp.low)
        replace hmp := hmp'
        clear hm hI' hmp'
        refine wn hK ?_
        clear hK K
        replace hF := hF.sub _ (c_ 0 rfl (c_ 1 rfl (c_ 2 rfl (c_ 8 rfl (c_ 33 rfl (c_ 34 rfl (c_ 35 rfl (n_))))))))
        refine W_reg rfl fun K hK => ?_
        refine sv2w hK hF (v_addI rfl rfl (by omega)) (v_move rfl) rfl rfl ?_; clear hF a hK K; intro a hF
        exact ⟨q - 1, by omega, i + 1, hF.sub _ (c_ 0 rfl (c_ 1 rfl (c_ 2 rfl (c_ 8 rfl (c_ 33 rfl (c_ 34 rfl (c_ 35 rfl (n_)))))))), hS, hf, hx, hy, hC, by rw [take_snoc ha]; exact hmp, nodup_snoc hnd ha (fun z hz e => hnin (e ▸ hz)), (fun z hz => by rw [take_snoc ha, List.mem_append, List.mem_singleton] at hz; rcases hz with hz | rfl; exact hbd _ hz; omega), by omega, by omega⟩
    ·
     skip
     try simp only [dcl] at hc3
     have hie : i = (x ++ y).length := by rw [List.length_append]; omega
     rw [hie, List.take_length] at hnd hbd
     clear hC hmp
     refine W_exit rfl ?_
     refine W_sr rfl fun K hK => ?_
     refine svw hK hF (v_assign rfl) rfl ?_; clear hF a hK K; intro a hF
     replace hF := hF.sub _ (c_ 11 rfl (c_ 0 rfl (c_ 1 rfl (c_ 2 rfl (c_ 8 rfl (c_ 33 rfl (c_ 34 rfl (c_ 35 rfl (n_)))))))))
     refine W_seq ?_
     refine W_sr rfl fun K hK => ?_
     refine sv3w hK hF (v_move rfl) (v_lenS rfl sl53 rfl) (v_move rfl) rfl rfl rfl ?_; clear hF a hK K; intro a hF
     refine W_block ?_
     refine W_loop (fun q2 a w2 => ∃ (i : Nat) (v11 : Value) (b11 : Option Nat), Fr 86 [(0, fv), (2, .slice py y.length cy), (11, v11), (55, .slice px x.length cx), (56, .int .i64 (x.length : Int)), (57, .int .i64 (i : Int))] a ∧ (St FDx B w w2) ∧ (Fo FDx B w2 fv (some (wb, p))) ∧ (Row FDx B M w2 (.slice px x.length cx) (zints x)) ∧ (Row FDx B M w2 (.slice py y.length cy) (zints y)) ∧ (MOwn FDx B w.heap.size 0 w2.heap.size w2 53 v11 b11 ((List.range i).map (trow y.length (ofT hp x y)))) ∧ (i ≤ x.length) ∧ (q2 + i = x.length)) (x.length) ?_ ?_
     ·
      skip
      exact ⟨0, _, none, hF.sub _ (c_ 0 rfl (c_ 2 rfl (c_ 11 rfl (c_ 55 rfl (c_ 56 rfl (c_ 57 rfl (n_))))))), hS, hf, hx, hy, MOwn.nil _ _ _ _ _ _ _ (Nat.zero_le _), by omega, by omega⟩
     ·
      skip
      clear hF
      clear hS hf hx hy
      rintro q2 a w2 ⟨i, v11, b11, hF, hS, hf, hx, hy, hMO, hi2, hq2⟩
      obtain ⟨KM, hKe⟩ : ∃ K, K = w2.heap.size := ⟨_, rfl⟩
      rw [← hKe] at hMO
      have hKs : KM ≤ w2.heap.size := by omega
      have hNK : w.heap.size ≤ KM := by have := hS.ext.size; omega
      clear hKe
      refine W_sr rfl fun K hK => ?_
      refine svw hK hF (v_lss rfl rfl) rfl ?_; clear hF a hK K; intro a hF
      refine W_seq ?_
      refine W_if hF rfl (fun hc7 => ?_) (fun hc7 => ?_)
      ·
       skip
       try simp only [dcl] at hc7
       have hlt : i < x.length := by omega
       obtain ⟨an, bn_, hxa, -, han, -⟩ := of_cell hnd hbd hlt (show 0 < y.length by omega)
       obtain ⟨ga, oa, hga, hka, -⟩ := hx.kat (zints_at hxa)
       cases hga
       refine W_skip ?_
       refine W_seq ?_
       refine W_block ?_
       refine W_sr rfl fun K hK => ?_
       refine sv hF (v_ixS sl53 rfl rfl (by omega) (by omega)) rfl ?_; clear hF a; intro a hF
       refine sv hF (v_load sc3 rfl (by rw [toNat_c]; exact hka.c)) rfl ?_; clear hF a; intro a hF
       refine svw hK hF (v_assign rfl) rfl ?_; clear hF a hK K; intro a hF
       refine W_sr rfl fun K hK => ?_
       refine svw hK hF (v_assign rfl) rfl ?_; clear hF a hK K; intro a hF
       refine W_seq ?_
       refine W_sr rfl fun K hK => ?_
       refine sv3w hK hF (v_move rfl) (v_lenS rfl sl53 rfl) (v_move rfl) rfl rfl rfl ?_; clear hF a hK K; intro a hF
       refine W_block ?_
       refine W_loop (fun q3 a w3 => ∃ (j : Nat) (v14 : Value) (b14 : Option Nat), Fr 86 [(0, fv), (2, .slice py y.length cy), (11, v11), (13, .int .i64 (an : Int)), (14, v14), (55, .slice (some ⟨ga, oa, none⟩) x.length cx), (56, .int .i64 (x.length : Int)), (57, .int .i64 (i : Int)), (61, .slice py y.length cy), (62, .int .i64 (y.length : Int)), (63, .int .i64 (j : Int))] a ∧ (St FDx B w w3) ∧ (Fo FDx B w3 fv (some (wb, p))) ∧ (Row FDx B M w3 (.slice (some ⟨ga, oa, none⟩) x.length cx) (zints x)) ∧ (Row FDx B M w3 (.slice py y.length cy) (zints y)) ∧ (MOwn FDx B w.heap.size 0 KM w3 53 v11 b11 ((List.range i).map (trow y.length (ofT hp x y)))) ∧ (KM ≤ w3.heap.size) ∧ (Gam.Own FDx B KM w3 FDx.E v14 b14 (zints ((List.range j).map fun j => (((ofT hp x y) i j : Nat) : Int)))) ∧ (j ≤ y.length) ∧ (q3 + j = y.length)) (y.length) ?_ ?_
       ·
        skip
        exact ⟨0, _, none, hF.sub _ (c_ 0 rfl (c_ 2 rfl (c_ 11 rfl (c_ 13 rfl (c_ 14 rfl (c_ 55 rfl (c_ 56 rfl (c_ 57 rfl (c_ 61 rfl (c_ 62 rfl (c_ 63 rfl (n_)))))))))))), hS, hf, hx, hy, hMO, hKs, Gam.Own.nil _ _ _ _ _, by omega, by omega⟩
       ·
        skip
        clear hF
        clear hS hf hx hy hMO hKs
        rintro q3 a w3 ⟨j, v14, b14, hF, hS, hf, hx, hy, hMO, hKs, hO, hj, hq3⟩
        refine W_sr rfl fun K hK => ?_
        refine svw hK hF (v_lss rfl rfl) rfl ?_; clear hF a hK K; intro a hF
        refine W_seq ?_
        refine W_if hF rfl (fun hc8 => ?_) (fun hc8 => ?_)
        ·
         skip
         try simp only [dcl] at hc8
         have hlt2 : j < y.length := by omega
         obtain ⟨an2, bn, hxa2, hyb, -, hbn, hxl, hx0⟩ := of_cell hnd hbd hlt hlt2
         obtain rfl : an = an2 := by have e := hxa.symm.trans hxa2; injection e with e; omega
         obtain ⟨gb, ob_, hgb, hkb, -⟩ := hy.kat (zints_at hyb)
         cases hgb
         have hcell := ofT_at hp hxa hyb
         refine W_skip ?_
         refine W_seq ?_
         refine W_block ?_
         refine W_sr rfl fun K hK => ?_
         refine sv hF (v_ixS sl53 rfl rfl (by omega) (by omega)) rfl ?_; clear hF a; intro a hF
         refine sv hF (v_load sc3 rfl (by rw [toNat_c]; exact hkb.c)) rfl ?_; clear hF a; intro a hF
         refine svw hK hF (v_assign rfl) rfl ?_; clear hF a hK K; intro a hF
         refine W_sr rfl fun K hK => ?_
         refine sv4 hF (v_move rfl) (v_move rfl) (v_move rfl) (v_xorN rfl rfl (fits_i64 (by omega)) (fits_i64 (by omega))) rfl rfl rfl rfl ?_; clear hF a; intro a hF
         refine sc hF rfl rfl rfl en49 rfl (Inv_gf B (some (wb, p)) fv ((an ^^^ bn : Nat) : Int) _ hS.inv hf) ?_; clear hF a; intro v w' a hv hF
         obtain ⟨rfl, hS'⟩ := hv
         replace hf := hf.st hS'
         replace hx := hx.st hS'
         replace hy := hy.st hS'
         replace hMO := hMO.st (by decide) hS'
         replace hKs := Nat.le_trans hKs hS'.ext.size
         replace hO := hO.st (by decide) hS'
         replace hS := hS.trans hS'
         clear hS'
         rw [ginv_fld hp hxl hx0, ← hcell] at hF
         refine sv5w hK hF (v_move rfl) (v_ext rfl rfl) (v_ext rfl rfl) (v_assign rfl) (v_assign rfl) rfl rfl rfl rfl rfl ?_; clear hF a hK K; intro a hF
         replace hF := hF.sub _ (c_ 17 rfl (c_ 74 rfl (c_ 73 rfl (c_ 67 rfl (c_ 72 rfl (c_ 71 rfl (c_ 70 rfl (c_ 69 rfl (c_ 68 rfl (c_ 16 rfl (c_ 66 rfl (c_ 65 rfl (c_ 64 rfl (c_ 0 rfl (c_ 2 rfl (c_ 11 rfl (c_ 13 rfl (c_ 14 rfl (c_ 55 rfl (c_ 56 rfl (c_ 57 rfl (c_ 61 rfl (c_ 62 rfl (c_ 63 rfl (n_)))))))))))))))))))))))))
         refine W_reg rfl fun K hK => ?_
         refine sv2 hF (v_move rfl) (v_move rfl) rfl rfl ?_; clear hF a; intro a hF
         refine s_bs (D := FDx) (B := B) hF sl53 rfl rfl (by decide) (by simp [Value.cells]) (by decide) hS.inv rfl ?_; clear hF a; intro w' a hm hI' hL hF
         replace hf := hf.mb hm
         replace hx := hx.mb hm (fun _ h => by cases h)
         replace hy := hy.mb hm (fun _ h => by cases h)
         replace hMO := hMO.mb0 hm
         replace hKs := Nat.le_trans hKs hm.size
         replace hO := hO.mb hm (fun _ _ => by simp)
         replace hS := hS.mb0 hm
         clear hm hI'
         refine s_app (D := FDx) (B := B) hF rfl sl53 rfl rfl hO (hL.row (by decide)) (by simp [Value.oneCell']) (by simp; omega) (by simp [maxLen]; omega) (hKs) (by decide) hS.inv rfl ?_; clear hF a; intro v' b' w' a ho' hm hI' hb' hF
         replace hf := hf.mb hm
         replace hx := hx.mb hm (fun k h => Nat.le_trans (Nat.le_trans hM hNK) (hO.lt k h).1)
         replace hy := hy.mb hm (fun k h => Nat.le_trans (Nat.le_trans hM hNK) (hO.lt k h).1)
         replace hMO := hMO.mbo hm hO (by decide) (Nat.le_refl _) (Nat.zero_le _)
         replace hKs := Nat.le_trans hKs hm.size
         replace hS := hS.mb hm (fun k h => Nat.le_trans (hNK) (hO.lt k h).1)
         replace hO := ho'
         clear hm hI' ho'
         refine svw hK hF (v_assign rfl) rfl ?_; clear hF a hK K; intro a hF
         refine W_reg rfl fun K hK => ?_
         refine sv2w hK hF (v_addI rfl rfl (by omega)) (v_move rfl) rfl rfl ?_; clear hF a hK K; intro a hF
         exact ⟨q3 - 1, by omega, j + 1, _, _, hF.sub _ (c_ 0 rfl (c_ 2 rfl (c_ 11 rfl (c_ 13 rfl (c_ 14 rfl (c_ 55 rfl (c_ 56 rfl (c_ 57 rfl (c_ 61 rfl (c_ 62 rfl (c_ 63 rfl (n_)))))))))))), hS, hf, hx, hy, hMO, hKs, hO.cast (by rw [List.range_succ, List.map_append]; simp [zints]), by omega, by omega⟩
        ·
         skip
         try simp only [dcl] at hc8
         have hje : j = y.length := by omega
         rw [hje] at hO
         refine W_exit rfl ?_
         refine W_reg rfl fun K hK => ?_
         refine sv2 hF (v_move rfl) (v_move rfl) rfl rfl ?_; clear hF a; intro a hF
         obtain ⟨a_, c_r, rfl⟩ := hO.shape
         refine s_bs (D := FDx) (B := B) hF sl36 rfl rfl (by decide) (by simp [Value.cells]) (by decide) hS.inv rfl ?_; clear hF a; intro w' a hm hI' hL hF
         replace hf := hf.mb hm
         replace hx := hx.mb hm (fun _ h => by cases h)
         replace hy := hy.mb hm (fun _ h => by cases h)
         replace hMO := hMO.mb0 hm
         replace hKs := Nat.le_trans hKs hm.size
         replace hO := hO.mb hm (fun _ _ => by simp)
         replace hS := hS.mb0 hm
         clear hm hI'
         replace hMO := hMO.up hKs
         clear hKs
         refine s_appM (D := FDx) (B := B) hF rfl sl36 rfl rfl hMO hL (.of (r := trow y.length (ofT hp x y) i) hO (Nat.zero_le _)) rfl rfl (by simp; omega) (hS.ext.size) (by decide) (by decide) hS.inv rfl ?_; clear hF a; intro v' b' w' a ho' hm hI' hF
         replace hf := hf.mb hm
         replace hx := hx.mb hm (fun k h => Nat.le_trans (hM) (hMO.lt k h).1)
         replace hy := hy.mb hm (fun k h => Nat.le_trans (hM) (hMO.lt k h).1)
         replace hS := hS.mb hm (fun k h => (hMO.lt k h).1)
         have hKm := hm.size
         replace hMO := ho'
         clear hm hI' ho' hL
         refine svw hK hF (v_assign rfl) rfl ?_; clear hF a hK K; intro a hF
         refine W_reg rfl fun K hK => ?_
         refine sv2w hK hF (v_addI rfl rfl (by omega)) (v_move rfl) rfl rfl ?_; clear hF a hK K; intro a hF
         exact ⟨q2 - 1, by omega, i + 1, _, _, hF.sub _ (c_ 0 rfl (c_ 2 rfl (c_ 11 rfl (c_ 55 rfl (c_ 56 rfl (c_ 57 rfl (n_))))))), hS, hf, hx, hy, (hMO.up hKm).cast (by rw [List.range_succ, List.map_append]; rfl), by omega, by omega⟩
      ·
       skip
       try simp only [dcl] at hc7
       refine W_exit rfl ?_
       refine W_sr rfl fun K hK => ?_
       refine sv3w hK hF (v_move rfl) (v_assign rfl) (v_assign rfl) rfl rfl rfl ?_; clear hF a hK K; intro a hF
       refine W_ret ?_
       refine ⟨_, _, _, hF, rfl, rfl, ?_⟩
       obtain rfl : i = x.length := by omega
       rw [ofM_is hp (ofB_ok hln hnd hbd)]
       exact ⟨_, _, rfl, (hMO.up hKs).cast rfl, hS⟩
set_option maxRecDepth 100000 in
set_option maxHeartbeats 1000000 in
theorem Orig_ok (B wb p : Nat) (hp : Prm wb p) (fv : Value) (k m : Int) (w : World) (hI : Inv FDx B w) (hf : Fo FDx B w fv (some (wb, p))) : Ret Tryz.prog 27 [fv, .int .i64 k, .int .i64 m] w fun v w' => ∃ ob u, v = .tuple #[u, .int .i64 (errV (origM hp k m))] ∧ MOwn FDx B w.heap.size 0 w'.heap.size w' 53 u ob ((origM hp k m).getD []) ∧ St FDx B w w' := by
 refine enter2 32 [(0, fv), (1, .int .i64 k), (2, .int .i64 m)] 6 7 Tryz.func27 rfl rfl rfl rfl rfl ?_; intro a hF
 have hS := St.refl hI
 refine W_sr rfl fun K hK => ?_
 refine sv2w hK hF (v_assign rfl) (v_assign rfl) rfl rfl ?_; clear hF a hK K; intro a hF
 refine W_seq ?_
 refine W_sr rfl fun K hK => ?_
 refine sv hF (v_move rfl) rfl ?_; clear hF a; intro a hF
 refine sc hF rfl rfl rfl en52 rfl (cwithin_ok _ _) ?_; clear hF a; intro v w' a hv hF
 obtain ⟨rfl, hw⟩ := hv
 obtain rfl := hw.symm
 have hS' := St.refl hS.inv
 replace hf := hf.st hS'
 replace hS := hS.trans hS'
 clear hS'
 refine sb hF (v_not rfl) rfl ?_ ?_
 ·
  clear hF a; intro hc1 a hF
  try simp only [dcl] at hc1
  refine sv hF (v_move rfl) rfl ?_; clear hF a; intro a hF
  refine svn3 hF rfl rfl rfl rfl rfl rfl rfl rfl rfl ?_; clear hF a; intro a hF
  refine sv2 hF (v_pickT rfl rfl) (v_move rfl) rfl rfl ?_; clear hF a; intro a hF
  refine svn5 hF rfl rfl rfl rfl rfl rfl rfl rfl rfl rfl rfl rfl rfl rfl rfl ?_; clear hF a; intro a hF
  refine svw hK hF (v_pickT rfl rfl) rfl ?_; clear hF a hK K; intro a hF
  replace hF := hF.sub _ (c_ 22 rfl (c_ 7 rfl (c_ 6 rfl (c_ 0 rfl (c_ 1 rfl (c_ 2 rfl (n_)))))))
  refine W_ifT hF rfl ?_
  refine W_sr rfl fun K hK => ?_
  refine sv2w hK hF (v_assign rfl) (v_assign rfl) rfl rfl ?_; clear hF a hK K; intro a hF
  replace hF := hF.sub _ (c_ 7 rfl (c_ 6 rfl (c_ 0 rfl (c_ 1 rfl (c_ 2 rfl (n_))))))
  refine W_ret ?_
  refine ⟨_, _, _, hF, rfl, rfl, ?_⟩
  rw [origM_no hp (fitB_not (by omega))]
  exact ⟨none, _, rfl, MOwn.nil _ _ _ _ _ _ _ (Nat.zero_le _), hS⟩
 ·
  clear hF a; intro hc1 a hF
  try simp only [dcl] at hc1
  refine sv hF (v_move rfl) rfl ?_; clear hF a; intro a hF
  refine svg hF rfl ?_
  refine sv hF (v_move rfl) rfl ?_; clear hF a; intro a hF
  refine svg hF rfl ?_
  refine sc hF rfl rfl rfl en52 rfl (cwithin_ok _ _) ?_; clear hF a; intro v w' a hv hF
  obtain ⟨rfl, hw⟩ := hv
  obtain rfl := hw.symm
  have hS' := St.refl hS.inv
  replace hf := hf.st hS'
  replace hS := hS.trans hS'
  clear hS'
  refine svg hF rfl ?_
  refine sb hF (v_not rfl) rfl ?_ ?_
  ·
   clear hF a; intro hc2 a hF
   try simp only [dcl] at hc2
   refine sv2 hF (v_pickF rfl rfl) (v_move rfl) rfl rfl ?_; clear hF a; intro a hF
   refine svn5 hF rfl rfl rfl rfl rfl rfl rfl rfl rfl rfl rfl rfl rfl rfl rfl ?_; clear hF a; intro a hF
   refine svw hK hF (v_pickT rfl rfl) rfl ?_; clear hF a hK K; intro a hF
   replace hF := hF.sub _ (c_ 22 rfl (c_ 7 rfl (c_ 6 rfl (c_ 0 rfl (c_ 1 rfl (c_ 2 rfl (n_)))))))
   refine W_ifT hF rfl ?_
   refine W_sr rfl fun K hK => ?_
   refine sv2w hK hF (v_assign rfl) (v_assign rfl) rfl rfl ?_; clear hF a hK K; intro a hF
   replace hF := hF.sub _ (c_ 7 rfl (c_ 6 rfl (c_ 0 rfl (c_ 1 rfl (c_ 2 rfl (n_))))))
   refine W_ret ?_
   refine ⟨_, _, _, hF, rfl, rfl, ?_⟩
   rw [origM_no hp (fitB_not (by omega))]
   exact ⟨none, _, rfl, MOwn.nil _ _ _ _ _ _ _ (Nat.zero_le _), hS⟩
  ·
   clear hF a; intro hc2 a hF
   try simp only [dcl] at hc2
   refine sv2 hF (v_pickF rfl rfl) (v_move rfl) rfl rfl ?_; clear hF a; intro a hF
   refine svg hF rfl ?_
   refine sv hF (v_move rfl) rfl ?_; clear hF a; intro a hF
   refine svg hF rfl ?_
   refine sv hF (v_move rfl) rfl ?_; clear hF a; intro a hF
   refine svg hF rfl ?_
   refine sv hF (v_addI rfl rfl (by omega)) rfl ?_; clear hF a; intro a hF
   refine svg hF rfl ?_
   refine sc hF rfl rfl rfl en52 rfl (cwithin_ok _ _) ?_; clear hF a; intro v w' a hv hF
   obtain ⟨rfl, hw⟩ := hv
   obtain rfl := hw.symm
   have hS' := St.refl hS.inv
   replace hf := hf.st hS'
   replace hS := hS.trans hS'
   clear hS'
   refine svg hF rfl ?_
   refine sv2w hK hF (v_not rfl) (v_pickF rfl rfl) rfl rfl ?_; clear hF a hK K; intro a hF
   replace hF := hF.sub _ (c_ 22 rfl (c_ 7 rfl (c_ 6 rfl (c_ 0 rfl (c_ 1 rfl (c_ 2 rfl (n_)))))))
   refine W_if hF rfl (fun hc3 => ?_) (fun hc3 => ?_)
   ·
    skip
    try simp only [dcl] at hc3
    refine W_sr rfl fun K hK => ?_
    refine sv2w hK hF (v_assign rfl) (v_assign rfl) rfl rfl ?_; clear hF a hK K; intro a hF
    replace hF := hF.sub _ (c_ 7 rfl (c_ 6 rfl (c_ 0 rfl (c_ 1 rfl (c_ 2 rfl (n_))))))
    refine W_ret ?_
    refine ⟨_, _, _, hF, rfl, rfl, ?_⟩
    rw [origM_no hp (fitB_not (by omega))]
    exact ⟨none, _, rfl, MOwn.nil _ _ _ _ _ _ _ (Nat.zero_le _), hS⟩
   ·
    skip
    try simp only [dcl] at hc3
    refine W_skip ?_
    have hb : fitB (some (wb, p)) k m = true := fitB_iff.2 ⟨rfl, by omega, by omega, by omega, by omega, by omega⟩
    obtain ⟨kn, rfl⟩ : ∃ n : Nat, k = (n : Int) := ⟨k.toNat, by omega⟩
    obtain ⟨mn, rfl⟩ : ∃ n : Nat, m = (n : Int) := ⟨m.toNat, by omega⟩
    refine W_sr rfl fun K hK => ?_
    refine sv2 hF (v_move rfl) (v_move rfl) rfl rfl ?_; clear hF a; intro a hF
    refine sc hF rfl rfl rfl en54 rfl (run_ok B 0 mn _ hS.inv (by omega)) ?_; clear hF a; intro v w' a hv hF
    obtain ⟨gX, rfl, hOX, hS'⟩ := hv
    have hX : Row FDx B _ _ _ (zints (rnL 0 mn)) := hOX.row (by decide)
    clear hOX
    replace hf := hf.st hS'
    replace hS := hS.trans hS'
    clear hS'
    refine sv2 hF (v_move rfl) (v_move rfl) rfl rfl ?_; clear hF a; intro a hF
    refine sc hF rfl rfl rfl en54 rfl (run_ok B mn kn _ hS.inv (by omega)) ?_; clear hF a; intro v w' a hv hF
    obtain ⟨gY, rfl, hOY, hS'⟩ := hv
    have hY : Row FDx B _ _ _ (zints (rnL mn kn)) := hOY.row (by decide)
    clear hOY
    replace hf := hf.st hS'
    replace hX := (hX.st hS').mono hS'.ext.size
    replace hS := hS.trans hS'
    clear hS'
    rw [show (Value.slice (some ⟨gX, 0, none⟩) mn mn) = .slice (some ⟨gX, 0, none⟩) (rnL 0 mn).length mn by rw [rnL_length], show (Value.slice (some ⟨gY, 0, none⟩) kn kn) = .slice (some ⟨gY, 0, none⟩) (rnL mn kn).length kn by rw [rnL_length]] at hF
    refine sc hF rfl rfl rfl en53 rfl (Of_ok B _ wb p hp fv _ _ mn kn (rnL 0 mn) (rnL mn kn) _ hS.inv (Nat.le_refl _) hf (by rw [rnL_length]; exact hX) (by rw [rnL_length]; exact hY) ⟨by rw [rnL_length]; simp only [maxLen]; omega, by rw [rnL_length]; simp only [maxLen]; omega⟩) ?_; clear hF a; intro v w' a hv hF
    obtain ⟨ob, u, rfl, hMO, hS'⟩ := hv
    replace hMO := hMO.le hS.ext.size (Nat.zero_le _)
    replace hS := hS.trans hS'
    clear hS'
    refine sv4w hK hF (v_ext rfl rfl) (v_ext rfl rfl) (v_assign rfl) (v_assign rfl) rfl rfl rfl rfl ?_; clear hF a hK K; intro a hF
    replace hF := hF.sub _ (c_ 7 rfl (c_ 6 rfl (n_)))
    refine W_ret ?_
    refine ⟨_, _, _, hF, rfl, rfl, ?_⟩
    rw [show origM hp (kn : Int) (mn : Int) = ofM hp (rnL 0 mn) (rnL mn kn) by unfold origM; rw [if_pos hb]; rfl]
    exact ⟨_, _, rfl, hMO, hS⟩
set_option maxRecDepth 100000 in
set_option maxHeartbeats 1000000 in
theorem CIsal_ok (B wb p : Nat) (hp : Prm wb p) (fv : Value) (k m : Int) (w : World) (hI : Inv FDx B w) (hf : Fo FDx B w fv (some (wb, p))) : Ret Tryz.prog 29 [fv, .int .i64 k, .int .i64 m] w fun v w' => ∃ ob u, v = .tuple #[u, .int .i64 (errV (cisaM hp k m))] ∧ MOwn FDx B w.heap.size 0 w'.heap.size w' 53 u ob ((cisaM hp k m).getD []) ∧ St FDx B w w' := by
 refine enter2 32 [(0, fv), (1, .int .i64 k), (2, .int .i64 m)] 6 7 Tryz.func29 rfl rfl rfl rfl rfl ?_; intro a hF
 have hS := St.refl hI
 refine W_sr rfl fun K hK => ?_
 refine sv2w hK hF (v_assign rfl) (v_assign rfl) rfl rfl ?_; clear hF a hK K; intro a hF
 refine W_seq ?_
 refine W_sr rfl fun K hK => ?_
 refine sv hF (v_move rfl) rfl ?_; clear hF a; intro a hF
 refine sc hF rfl rfl rfl en52 rfl (cwithin_ok _ _) ?_; clear hF a; intro v w' a hv hF
 obtain ⟨rfl, hw⟩ := hv
 obtain rfl := hw.symm
 have hS' := St.refl hS.inv
 replace hf := hf.st hS'
 replace hS := hS.trans hS'
 clear hS'
 refine sb hF (v_not rfl) rfl ?_ ?_
 ·
  clear hF a; intro hc1 a hF
  try simp only [dcl] at hc1
  refine sv hF (v_move rfl) rfl ?_; clear hF a; intro a hF
  refine svn3 hF rfl rfl rfl rfl rfl rfl rfl rfl rfl ?_; clear hF a; intro a hF
  refine sv2 hF (v_pickT rfl rfl) (v_move rfl) rfl rfl ?_; clear hF a; intro a hF
  refine svn5 hF rfl rfl rfl rfl rfl rfl rfl rfl rfl rfl rfl rfl rfl rfl rfl ?_; clear hF a; intro a hF
  refine svw hK hF (v_pickT rfl rfl) rfl ?_; clear hF a hK K; intro a hF
  replace hF := hF.sub _ (c_ 22 rfl (c_ 7 rfl (c_ 6 rfl (c_ 0 rfl (c_ 1 rfl (c_ 2 rfl (n_)))))))
  refine W_ifT hF rfl ?_
  refine W_sr rfl fun K hK => ?_
  refine sv2w hK hF (v_assign rfl) (v_assign rfl) rfl rfl ?_; clear hF a hK K; intro a hF
  replace hF := hF.sub _ (c_ 7 rfl (c_ 6 rfl (c_ 0 rfl (c_ 1 rfl (c_ 2 rfl (n_))))))
  refine W_ret ?_
  refine ⟨_, _, _, hF, rfl, rfl, ?_⟩
  rw [cisaM_no hp (fitB_not (by omega))]
  exact ⟨none, _, rfl, MOwn.nil _ _ _ _ _ _ _ (Nat.zero_le _), hS⟩
 ·
  clear hF a; intro hc1 a hF
  try simp only [dcl] at hc1
  refine sv hF (v_move rfl) rfl ?_; clear hF a; intro a hF
  refine svg hF rfl ?_
  refine sv hF (v_move rfl) rfl ?_; clear hF a; intro a hF
  refine svg hF rfl ?_
  refine sc hF rfl rfl rfl en52 rfl (cwithin_ok _ _) ?_; clear hF a; intro v w' a hv hF
  obtain ⟨rfl, hw⟩ := hv
  obtain rfl := hw.symm
  have hS' := St.refl hS.inv
  replace hf := hf.st hS'
  replace hS := hS.trans hS'
  clear hS'
  refine svg hF rfl ?_
  refine sb hF (v_not rfl) rfl ?_ ?_
  ·
   clear hF a; intro hc2 a hF
   try simp only [dcl] at hc2
   refine sv2 hF (v_pickF rfl rfl) (v_move rfl) rfl rfl ?_; clear hF a; intro a hF
   refine svn5 hF rfl rfl rfl rfl rfl rfl rfl rfl rfl rfl rfl rfl rfl rfl rfl ?_; clear hF a; intro a hF
   refine svw hK hF (v_pickT rfl rfl) rfl ?_; clear hF a hK K; intro a hF
   replace hF := hF.sub _ (c_ 22 rfl (c_ 7 rfl (c_ 6 rfl (c_ 0 rfl (c_ 1 rfl (c_ 2 rfl (n_)))))))
   refine W_ifT hF rfl ?_
   refine W_sr rfl fun K hK => ?_
   refine sv2w hK hF (v_assign rfl) (v_assign rfl) rfl rfl ?_; clear hF a hK K; intro a hF
   replace hF := hF.sub _ (c_ 7 rfl (c_ 6 rfl (c_ 0 rfl (c_ 1 rfl (c_ 2 rfl (n_))))))
   refine W_ret ?_
   refine ⟨_, _, _, hF, rfl, rfl, ?_⟩
   rw [cisaM_no hp (fitB_not (by omega))]
   exact ⟨none, _, rfl, MOwn.nil _ _ _ _ _ _ _ (Nat.zero_le _), hS⟩
  ·
   clear hF a; intro hc2 a hF
   try simp only [dcl] at hc2
   refine sv2 hF (v_pickF rfl rfl) (v_move rfl) rfl rfl ?_; clear hF a; intro a hF
   refine svg hF rfl ?_
   refine sv hF (v_move rfl) rfl ?_; clear hF a; intro a hF
   refine svg hF rfl ?_
   refine sv hF (v_move rfl) rfl ?_; clear hF a; intro a hF
   refine svg hF rfl ?_
   refine sv hF (v_addI rfl rfl (by omega)) rfl ?_; clear hF a; intro a hF
   refine svg hF rfl ?_
   refine sc hF rfl rfl rfl en52 rfl (cwithin_ok _ _) ?_; clear hF a; intro v w' a hv hF
   obtain ⟨rfl, hw⟩ := hv
   obtain rfl := hw.symm
   have hS' := St.refl hS.inv
   replace hf := hf.st hS'
   replace hS := hS.trans hS'
   clear hS'
   refine svg hF rfl ?_
   refine sv2w hK hF (v_not rfl) (v_pickF rfl rfl) rfl rfl ?_; clear hF a hK K; intro a hF
   replace hF := hF.sub _ (c_ 22 rfl (c_ 7 rfl (c_ 6 rfl (c_ 0 rfl (c_ 1 rfl (c_ 2 rfl (n_)))))))
   refine W_if hF rfl (fun hc3 => ?_) (fun hc3 => ?_)
   ·
    skip
    try simp only [dcl] at hc3
    refine W_sr rfl fun K hK => ?_
    refine sv2w hK hF (v_assign rfl) (v_assign rfl) rfl rfl ?_; clear hF a hK K; intro a hF
    replace hF := hF.sub _ (c_ 7 rfl (c_ 6 rfl (c_ 0 rfl (c_ 1 rfl (c_ 2 rfl (n_))))))
    refine W_ret ?_
    refine ⟨_, _, _, hF, rfl, rfl, ?_⟩
    rw [cisaM_no hp (fitB_not (by omega))]
    exact ⟨none, _, rfl, MOwn.nil _ _ _ _ _ _ _ (Nat.zero_le _), hS⟩
   ·
    skip
    try simp only [dcl] at hc3
    refine W_skip ?_
    have hb : fitB (some (wb, p)) k m = true := fitB_iff.2 ⟨rfl, by omega, by omega, by omega, by omega, by omega⟩
    obtain ⟨kn, rfl⟩ : ∃ n : Nat, k = (n : Int) := ⟨k.toNat, by omega⟩
    obtain ⟨mn, rfl⟩ : ∃ n : Nat, m = (n : Int) := ⟨m.toNat, by omega⟩
    refine W_sr rfl fun K hK => ?_
    refine sv3 hF (v_move rfl) (v_move rfl) (v_move rfl) rfl rfl rfl ?_; clear hF a; intro a hF
    refine sc hF rfl rfl rfl en54 rfl (run_ok B kn mn _ hS.inv (by omega)) ?_; clear hF a; intro v w' a hv hF
    obtain ⟨gX, rfl, hOX, hS'⟩ := hv
    have hX : Row FDx B _ _ _ (zints (rnL kn mn)) := hOX.row (by decide)
    clear hOX
    replace hf := hf.st hS'
    replace hS := hS.trans hS'
    clear hS'
    refine sv hF (v_move rfl) rfl ?_; clear hF a; intro a hF
    refine sc hF rfl rfl rfl en54 rfl (run_ok B 0 kn _ hS.inv (by omega)) ?_; clear hF a; intro v w' a hv hF
    obtain ⟨gY, rfl, hOY, hS'⟩ := hv
    have hY : Row FDx B _ _ _ (zints (rnL 0 kn)) := hOY.row (by decide)
    clear hOY
    replace hf := hf.st hS'
    replace hX := (hX.st hS').mono hS'.ext.size
    replace hS := hS.trans hS'
    clear hS'
    rw [show (Value.slice (some ⟨gX, 0, none⟩) mn mn) = .slice (some ⟨gX, 0, none⟩) (rnL kn mn).length mn by rw [rnL_length], show (Value.slice (some ⟨gY, 0, none⟩) kn kn) = .slice (some ⟨gY, 0, none⟩) (rnL 0 kn).length kn by rw [rnL_length]] at hF
    refine sc hF rfl rfl rfl en53 rfl (Of_ok B _ wb p hp fv _ _ mn kn (rnL kn mn) (rnL 0 kn) _ hS.inv (Nat.le_refl _) hf (by rw [rnL_length]; exact hX) (by rw [rnL_length]; exact hY) ⟨by rw [rnL_length]; simp only [maxLen]; omega, by rw [rnL_length]; simp only [maxLen]; omega⟩) ?_; clear hF a; intro v w' a hv hF
    obtain ⟨ob, u, rfl, hMO, hS'⟩ := hv
    replace hMO := hMO.le hS.ext.size (Nat.zero_le _)
    replace hS := hS.trans hS'
    clear hS'
    refine sv4w hK hF (v_ext rfl rfl) (v_ext rfl rfl) (v_assign rfl) (v_assign rfl) rfl rfl rfl rfl ?_; clear hF a hK K; intro a hF
    replace hF := hF.sub _ (c_ 7 rfl (c_ 6 rfl (n_)))
    refine W_ret ?_
    refine ⟨_, _, _, hF, rfl, rfl, ?_⟩
    rw [show cisaM hp (kn : Int) (mn : Int) = ofM hp (rnL kn mn) (rnL 0 kn) by unfold cisaM; rw [if_pos hb]; rfl]
    exact ⟨_, _, rfl, hMO, hS⟩
end Go.Proofs.YtkoiolamnnmokaaGreat
