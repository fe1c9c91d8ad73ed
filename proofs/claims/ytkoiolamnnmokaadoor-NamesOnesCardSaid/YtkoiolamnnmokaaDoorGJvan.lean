/- Jerasure's rows of powers, their columns reduced, what is left behind the identity. No program in sight. -/
import Derived.Test.YtkoiolamnnmokaaDoorGVanL
set_option linter.unusedVariables false
set_option linter.unusedSimpArgs false
set_option linter.unusedSectionVars false
namespace Go.Gam
open Px

/-- Columns. -/
def colS (i q x : Nat) (f : Tb) : Tb := fun r j => if r < x then f r (Fld.sw i q j) else f r j
namespace Fld
variable (F : Fld)
def scC (fr j c x : Nat) (f : Tb) : Tb := fun r l => if fr ≤ r ∧ r < x ∧ l = j then F.mul (f r l) c else f r l
def clC (i j x : Nat) (f : Tb) : Tb := fun r l => if l ≠ i ∧ (l < j ∨ l = j ∧ r < x) then f r l ^^^ F.mul (f r i) (f i l) else f r l
theorem colS_bd {i q x : Nat} {f : Tb} (h : F.Bd f) : F.Bd (colS i q x f) := fun r j => by unfold colS; split <;> exact h _ _
theorem scC_bd {fr j c x : Nat} {f : Tb} (h : F.Bd f) : F.Bd (F.scC fr j c x f) := fun r l => by unfold scC; split; exact F.lt _ _; exact h _ _
theorem clC_bd {i j x : Nat} {f : Tb} (h : F.Bd f) : F.Bd (F.clC i j x f) := fun r l => by unfold clC; split; exact Px.xor_lt (h _ _) (F.lt _ _); exact h _ _
/-- One step's table. -/
def stC (n k i : Nat) (f : Tb) : Tb := tr (F.stp (tr f) k i i).1
theorem stC_is {n k i q : Nat} {f : Tb} (hq : piv (tr f) k i i (k - i) = some q) (hi : i < n) : ∀ r, r < n → ∀ l, l < k → F.clC i k 0 (F.scC 0 i (F.inv (f i q)) n (colS i q n f)) r l = F.stC n k i f r l := by
  intro r hr l hl
  unfold stC stp
  rw [hq]
  show _ = F.op i q (F.inv (f i q)) (fun a => f i (sw i q a)) (tr f) l r
  have e1 : ∀ a j, a < n → colS i q n f a j = f a (sw i q j) := fun a j ha => if_pos ha
  have e2 : ∀ a j, a < n → F.scC 0 i (F.inv (f i q)) n (colS i q n f) a j = if j = i then F.mul (f a (sw i q j)) (F.inv (f i q)) else f a (sw i q j) := fun a j ha => by
    unfold scC; rw [e1 a j ha]
    by_cases h : j = i
    · rw [if_pos ⟨Nat.zero_le _, ha, h⟩, if_pos h]
    · rw [if_neg (fun c => h c.2.2), if_neg h]
  have e3 : sw i q i = q := if_pos rfl
  unfold clC Fld.op tr
  rw [e2 r l hr, e2 r i hr, e2 i l hi, e3, if_pos rfl]
  by_cases h : l = i
  · rw [if_neg (fun c => c.1 h), if_pos h, if_pos h, h, e3]
  · rw [if_pos ⟨h, .inl hl⟩, if_neg h, if_neg h, if_neg h, F.comm (F.mul (f r q) _)]
/-- Full rank at the end: full rank all the way. -/
theorem red_all {n k : Nat} {f : Tb} (hf : F.Bd f) (h : (F.red n f k).2 = k) : ∀ d c, c + d = k → (F.red n f c).2 = c
  | 0, c, e => by obtain rfl : c = k := e; exact h
  | d + 1, c, e => by
    have ih := red_all hf h d (c + 1) (by omega)
    have h1 := (F.red_ok (n := n) hf c).tc
    have h2 : (F.red n f (c + 1)).2 = (F.stp (F.red n f c).1 n c (F.red n f c).2).2 := rfl
    rw [ih] at h2
    unfold stp at h2
    split at h2
    · dsimp only at h2; omega
    · dsimp only at h2; omega
/-- Rows and columns times numbers that aren't 0. -/
theorem iv_scaled {n : Nat} {f g : Tb} {a b : Nat → Nat} (hf : F.Bd f) (hg : F.Bd g) (ha : ∀ j, a j < 2 ^ F.w) (hb : ∀ i, b i < 2 ^ F.w) (ha0 : ∀ j, j < n → a j ≠ 0) (hb0 : ∀ i, i < n → b i ≠ 0)
    (h : ∀ i j, i < n → j < n → g i j = F.mul (F.mul (f i j) (a j)) (b i)) (hi : (F.iv n f).isSome = true) : ∃ x, F.iv n g = some x := by
  obtain ⟨x, hx⟩ := Option.isSome_iff_exists.1 hi
  have hI := F.iv_some hf hx
  refine F.iv_of hg fun y h1 h2 i hin => ?_
  have h3 := hI.left F (y := fun l => F.mul (y l) (b l)) (fun l => F.lt _ _) (fun j hj => by
    have e := h2 j hj
    rw [xsum_congr (g := fun l => F.mul (F.mul (F.mul (y l) (b l)) (f l j)) (a j)) fun l hl => by
      rw [h l j hl hj, F.comm (F.mul (f l j) (a j)), F.assoc (F.mul (y l) (b l)), F.assoc (y l)], ← xsum_mul] at e
    rcases F.nzd _ _ (xsum_lt fun l _ => F.lt _ _) (ha j) e with e | e
    · exact e
    · exact absurd e (ha0 j hj)) i hin
  rcases F.nzd _ _ (h1 i) (hb i) h3 with e | e
  · exact e
  · exact absurd e (hb0 i hin)
end Fld

def extT (o : Fq) (k m : Nat) : Tb := fun i j => if i = k + m - 1 then (if j = k - 1 then 1 else 0) else pwT o i j
def extM (o : Fq) (k m : Int) : Option Mtx := if fitB o k m = true then some (tab (k + m).toNat k.toNat (extT o k.toNat m.toNat)) else none
theorem extM_no {o : Fq} {k m : Int} (h : fitB o k m = false) : extM o k m = none := by unfold extM; rw [h]; rfl
section
variable {wb p : Nat} (hp : Prm wb p)
include hp in
theorem pwT_bd : hp.fld.Bd (pwT (some (wb, p))) := fun i j => by
  have := gpow_nn hp (i : Int) (j : Int)
  unfold pwT
  rw [hp.fld_w]; omega
include hp in
theorem extT_bd (k m : Nat) : hp.fld.Bd (extT (some (wb, p)) k m) := fun i j => by
  have := hp.fld.one_lt; have := hp.fld.zero_lt
  unfold extT
  split
  · split <;> omega
  · exact pwT_bd hp i j
/-- Any k of the rows have an inverse. -/
theorem ext_iv {k m : Nat} {l : List Nat} (hk : 1 ≤ k) (h20 : k + m ≤ 20) (hl : l.length = k) (hn : l.Nodup) (h : ∀ x ∈ l, x < k + m) : ∃ g, hp.fld.iv k (fun i j => extT (some (wb, p)) k m (l.getD i 0) j) = some g := by
  have hbd : hp.fld.Bd (fun i j => extT (some (wb, p)) k m (l.getD i 0) j) := fun i j => extT_bd hp k m _ _
  have hot : ∀ x, x < k + m → x ≠ k + m - 1 → ∀ j, extT (some (wb, p)) k m x j = hp.fld.pow x j := fun x hx hne j => by
    unfold extT; rw [if_neg hne]; exact pwT_pow hp (by omega)
  by_cases hlast : k + m - 1 ∈ l
  · refine hp.fld.iv_ofR hbd fun y h1 h2 => ?_
    have hrow : ∀ x ∈ l, (xsum k fun s => hp.fld.mul (extT (some (wb, p)) k m x s) (y s)) = 0 := fun x hx => by
      obtain ⟨i, hi⟩ := List.getElem?_of_mem hx
      have hil := (List.getElem?_eq_some_iff.1 hi).1
      have := h2 i (by omega)
      rw [List.getD_eq_getElem?_getD, hi] at this
      exact this
    have hy : y (k - 1) = 0 := by
      have e := hrow _ hlast
      rw [xsum_single (i := k - 1) (by omega) (fun j _ hj => by unfold extT; rw [if_pos rfl, if_neg hj, hp.fld.zero_mul])] at e
      unfold extT at e
      rw [if_pos rfl, if_pos rfl, hp.fld.one _ (h1 _)] at e
      exact e
    obtain ⟨g, hg⟩ := pts_inv hp (k := k - 1) (l := l.erase (k + m - 1)) (by rw [List.length_erase_of_mem hlast, hl]) (hn.erase _) (fun x hx => by have := h x (List.mem_of_mem_erase hx); omega)
    have hI := hp.fld.iv_some (fun i j => hp.fld.pow_lt _ _) hg
    have hz := hI.right hp.fld h1 (fun j hj => by
      have hjl : j < (l.erase (k + m - 1)).length := by rw [List.length_erase_of_mem hlast, hl]; exact hj
      have hx := Fld.getD_mem hjl
      generalize (l.erase (k + m - 1)).getD j 0 = x at hx
      have hxl := List.mem_of_mem_erase hx
      have hne : x ≠ k + m - 1 := ((hn.mem_erase_iff).1 hx).1
      have e := hrow x hxl
      obtain ⟨k', rfl⟩ : ∃ k', k = k' + 1 := ⟨k - 1, by omega⟩
      rw [xsum_congr (g := fun s => hp.fld.mul (hp.fld.pow x s) (y s)) fun s _ => by rw [hot x (h x hxl) hne]] at e
      have e2 : xsum (k' + 1) (fun s => hp.fld.mul (hp.fld.pow x s) (y s)) = xsum k' (fun s => hp.fld.mul (hp.fld.pow x s) (y s)) ^^^ hp.fld.mul (hp.fld.pow x k') (y k') := rfl
      rw [e2, show y k' = 0 from hy, hp.fld.mul_zero, Nat.xor_zero] at e
      exact e)
    intro i hi
    by_cases e : i = k - 1
    · rw [e]; exact hy
    · exact hz i (by omega)
  · obtain ⟨g, hg⟩ := pts_inv hp hl hn (fun x hx => by have := h x hx; omega)
    have := hp.fld.iv_congr (f := fun i j => hp.fld.pow (l.getD i 0) j) (g := fun i j => extT (some (wb, p)) k m (l.getD i 0) j) (n := k) (fun i j => hp.fld.pow_lt _ _) hbd (fun i j hi _ => by
      have hx := Fld.getD_mem (L := l) (i := i) (by omega)
      exact (hot _ (h _ hx) (fun e => hlast (e ▸ hx)) j).symm)
    rw [hg] at this
    exact Option.isSome_iff_exists.1 this.symm
theorem ext_top {k m : Nat} (hk : 1 ≤ k) (hm : 1 ≤ m) (h20 : k + m ≤ 20) : ∃ g, hp.fld.iv k (extT (some (wb, p)) k m) = some g := by
  obtain ⟨g, hg⟩ := ext_iv hp (l := List.range k) hk h20 (by simp) List.nodup_range (fun x hx => by have := List.mem_range.1 hx; omega)
  have := hp.fld.iv_congr (f := fun i j => extT (some (wb, p)) k m ((List.range k).getD i 0) j) (g := extT (some (wb, p)) k m) (n := k) (fun i j => extT_bd hp k m _ _) (extT_bd hp k m) (fun i j hi _ => by
    rw [getD_of (show i < (List.range k).length by simpa using hi), List.getElem_range])
  rw [hg] at this
  exact Option.isSome_iff_exists.1 this.symm
/-- The table once i columns are reduced. -/
def redC (k m i : Nat) : Tb := Fld.tr (hp.fld.red k (Fld.tr (extT (some (wb, p)) k m)) i).1
theorem tr_bd {f : Tb} (h : hp.fld.Bd f) : hp.fld.Bd (Fld.tr f) := fun i j => h j i
theorem redC_bd (k m i : Nat) : hp.fld.Bd (redC hp k m i) := tr_bd hp (hp.fld.red_ok (tr_bd hp (extT_bd hp k m)) i).bd
theorem redC_zero (k m : Nat) : redC hp k m 0 = extT (some (wb, p)) k m := rfl
theorem redC_full {k m : Nat} (hk : 1 ≤ k) (hm : 1 ≤ m) (h20 : k + m ≤ 20) : ∀ c, c ≤ k → (hp.fld.red k (Fld.tr (extT (some (wb, p)) k m)) c).2 = c := fun c hc => by
  obtain ⟨g, hg⟩ := ext_top hp hk hm h20
  have h1 := (hp.fld.iv_some (extT_bd hp k m) hg).tr hp.fld
  obtain ⟨g', hg'⟩ := hp.fld.iv_of_Iv h1
  have h2 := hp.fld.rk_iv (n := k) (f := Fld.tr (extT (some (wb, p)) k m)) (by rw [hg']; rfl)
  exact hp.fld.red_all (tr_bd hp (extT_bd hp k m)) h2 (k - c) c (by omega)
/-- There is a column to begin with. -/
theorem redC_piv {k m i : Nat} (hk : 1 ≤ k) (hm : 1 ≤ m) (h20 : k + m ≤ 20) (hi : i < k) : ∃ q, Fld.piv (Fld.tr (redC hp k m i)) k i i (k - i) = some q ∧ redC hp k m (i + 1) = hp.fld.stC (k + m) k i (redC hp k m i) := by
  have h1 := redC_full hp hk hm h20 i (by omega)
  have h2 := redC_full hp hk hm h20 (i + 1) hi
  have e : hp.fld.red k (Fld.tr (extT (some (wb, p)) k m)) (i + 1) = hp.fld.stp (hp.fld.red k (Fld.tr (extT (some (wb, p)) k m)) i).1 k i i := by
    show hp.fld.stp _ k i _ = _
    rw [h1]
  rw [e] at h2
  unfold redC Fld.stC
  rw [e]
  unfold Fld.stp at h2
  show ∃ q, Fld.piv (hp.fld.red k (Fld.tr (extT (some (wb, p)) k m)) i).1 k i i (k - i) = some q ∧ _
  cases hq : Fld.piv (hp.fld.red k (Fld.tr (extT (some (wb, p)) k m)) i).1 k i i (k - i) with
  | none => rw [hq] at h2; dsimp only at h2; omega
  | some q => exact ⟨q, rfl, rfl⟩
/-- What is behind the identity. -/
def jG (k m : Nat) : Tb := fun r j => redC hp k m k (k + r) j
theorem jG_bd (k m : Nat) : hp.fld.Bd (jG hp k m) := fun r j => redC_bd hp k m k _ _
theorem jG_ex {k m : Nat} (hk : 1 ≤ k) (hm : 1 ≤ m) (h20 : k + m ≤ 20) : ∃ C C', hp.fld.Iv k C C' ∧ ∀ i j, j < k → beh k (jG hp k m) i j = hp.fld.mm k (extT (some (wb, p)) k m) C i j := by
  have hr := hp.fld.red_ok (n := k) (tr_bd hp (extT_bd hp k m)) k
  have ht := redC_full hp hk hm h20 k (Nat.le_refl _)
  obtain ⟨E, E', hE, he⟩ := hr.ex
  obtain ⟨q, hq, hqe⟩ := hr.pv
  refine ⟨Fld.tr E, Fld.tr E', hE.tr hp.fld, fun i j hj => ?_⟩
  have hx : redC hp k m k i j = hp.fld.mm k (extT (some (wb, p)) k m) (Fld.tr E) i j := 
    (he j i hj).trans (hp.fld.mm_tr k (Fld.tr (extT (some (wb, p)) k m)) E i j).symm
  rw [← hx]
  unfold beh
  split
  · rename_i hi
    have := (hq i (by rw [ht]; exact hi)).2 j hj
    rw [hqe ht i (by rw [ht]; exact hi)] at this
    show _ = (hp.fld.red k (Fld.tr (extT (some (wb, p)) k m)) k).1 j i
    rw [this]
    unfold I1
    by_cases e : i = j
    · rw [if_pos e, if_pos e.symm]
    · rw [if_neg e, if_neg (Ne.symm e)]
  · show redC hp k m k (k + (i - k)) j = _
    rw [show k + (i - k) = i by omega]
theorem jG_any {k m : Nat} {l : List Nat} (hk : 1 ≤ k) (hm : 1 ≤ m) (h20 : k + m ≤ 20) (hl : l.length = k) (hn : l.Nodup) (h : ∀ x ∈ l, x < k + m) : ∃ g, hp.fld.iv k (fun i j => beh k (jG hp k m) (l.getD i 0) j) = some g := by
  obtain ⟨C, C', hC, he⟩ := jG_ex hp hk hm h20
  obtain ⟨g, hg⟩ := ext_iv hp hk h20 hl hn h
  have h1 := (hp.fld.iv_some (fun i j => extT_bd hp k m _ _) hg).mul hp.fld hC
  exact hp.fld.iv_of_Iv (h1.congr hp.fld (fun i j => hp.fld.beh_bd (jG_bd hp k m) _ _) fun i j _ hj => he _ j hj)
theorem jG_ne {k m r j : Nat} (hk : 1 ≤ k) (hm : 1 ≤ m) (h20 : k + m ≤ 20) (hr : r < m) (hj : j < k) : jG hp k m r j ≠ 0 := fun h0 => by
  obtain ⟨g, hg⟩ := jG_any hp (l := (List.range k).set j (k + r)) hk hm h20 (by simp) (by
    refine List.pairwise_iff_getElem.2 fun a b ha hb hab => ?_
    simp only [List.length_set, List.length_range] at ha hb
    rw [List.getElem_set, List.getElem_set]
    simp only [List.getElem_range]
    split <;> split <;> omega) (fun x hx => by
      rcases List.mem_or_eq_of_mem_set hx with h | h
      · have := List.mem_range.1 h; omega
      · omega)
  have hI := hp.fld.iv_some (fun i j => hp.fld.beh_bd (jG_bd hp k m) _ _) hg
  have := hI.right hp.fld (y := fun s => if s = j then 1 else 0) (fun s => by have := hp.fld.one_lt; have := hp.fld.zero_lt; show (if s = j then 1 else 0) < _; split <;> omega) (fun i hi => by
    rw [xsum_single (i := j) hj (fun s _ hs => by rw [if_neg hs, hp.fld.mul_zero])]
    by_cases e : i = j
    · rw [e, getD_of (show j < ((List.range k).set j (k + r)).length by simpa using hj), List.getElem_set_self]
      unfold beh; rw [if_neg (by omega), show k + r - k = r by omega, h0, hp.fld.zero_mul]
    · rw [getD_of (show i < ((List.range k).set j (k + r)).length by simpa using hi), List.getElem_set_ne (Ne.symm e), List.getElem_range]
      unfold beh I1; rw [if_pos hi, if_neg e, hp.fld.zero_mul]) j hj
  simp at this
/-- The parity rows. -/
def jA (k m : Nat) : Nat → Nat := fun j => hp.fld.inv (jG hp k m 0 j)
def jC (k m : Nat) : Tb := fun r j => hp.fld.mul (jG hp k m r j) (jA hp k m j)
def jB (k m : Nat) : Nat → Nat := fun r => if r = 0 then 1 else hp.fld.inv (jC hp k m r 0)
def parT (k m : Nat) : Tb := fun r j => hp.fld.mul (jC hp k m r j) (jB hp k m r)
def parM (k m : Int) : Option Mtx := if fitB (some (wb, p)) k m = true then some (tab m.toNat k.toNat (parT hp k.toNat m.toNat)) else none
theorem jA_lt (k m j : Nat) : jA hp k m j < 2 ^ hp.fld.w := hp.fld.inv_lt _
theorem jC_bd (k m : Nat) : hp.fld.Bd (jC hp k m) := fun r j => hp.fld.lt _ _
theorem jB_lt (k m r : Nat) : jB hp k m r < 2 ^ hp.fld.w := by unfold jB; split; exact hp.fld.one_lt; exact hp.fld.inv_lt _
theorem parT_bd (k m : Nat) : hp.fld.Bd (parT hp k m) := fun r j => hp.fld.lt _ _
theorem parT_zero {k m j : Nat} : parT hp k m 0 j = jC hp k m 0 j := by unfold parT jB; rw [if_pos rfl, hp.fld.mul_one _ (jC_bd hp k m _ _)]
theorem parT_pos {k m r j : Nat} (h : r ≠ 0) : parT hp k m r j = hp.fld.mul (jC hp k m r j) (hp.fld.inv (jC hp k m r 0)) := by unfold parT jB; rw [if_neg h]
variable {k m : Nat} (hk : 1 ≤ k) (hm : 1 ≤ m) (h20 : k + m ≤ 20)
include hk hm h20
theorem jA_ne {j : Nat} (hj : j < k) : jA hp k m j ≠ 0 := hp.fld.inv_ne (jG_bd hp k m _ _) (jG_ne hp hk hm h20 (by omega) hj)
theorem jC_ne {r j : Nat} (hr : r < m) (hj : j < k) : jC hp k m r j ≠ 0 := fun h => by
  rcases hp.fld.nzd _ _ (jG_bd hp k m _ _) (jA_lt hp k m j) h with e | e
  · exact jG_ne hp hk hm h20 hr hj e
  · exact jA_ne hp hk hm h20 hj e
theorem jB_ne {r : Nat} (hr : r < m) : jB hp k m r ≠ 0 := by
  unfold jB; split
  · decide
  · exact hp.fld.inv_ne (jC_bd hp k m _ _) (jC_ne hp hk hm h20 hr (by omega))
theorem parT_ne {r j : Nat} (hr : r < m) (hj : j < k) : parT hp k m r j ≠ 0 := fun h => by
  rcases hp.fld.nzd _ _ (jC_bd hp k m _ _) (jB_lt hp k m r) h with e | e
  · exact jC_ne hp hk hm h20 hr hj e
  · exact jB_ne hp hk hm h20 hr e
theorem parT_top {j : Nat} (hj : j < k) : parT hp k m 0 j = 1 := by
  rw [parT_zero]; exact hp.fld.mul_inv (jG_bd hp k m _ _) (jG_ne hp hk hm h20 (by omega) hj)
theorem parT_left {r : Nat} (hr : r < m) : parT hp k m r 0 = 1 := by
  by_cases e : r = 0
  · subst e; exact parT_top hp hk hm h20 (by omega)
  · rw [parT_pos hp e]; exact hp.fld.mul_inv (jC_bd hp k m _ _) (jC_ne hp hk hm h20 hr (by omega))
theorem par_any {l : List Nat} (hl : l.length = k) (hn : l.Nodup) (h : ∀ x ∈ l, x < k + m) : ∃ g, hp.fld.iv k (fun i j => beh k (parT hp k m) (l.getD i 0) j) = some g := by
  obtain ⟨g, hg⟩ := jG_any hp hk hm h20 hl hn h
  obtain ⟨x, hx⟩ := hp.fld.mds_to (m := m) (jG_bd hp k m) hl hn (by rw [hg]; rfl)
  refine hp.fld.mds_of (m := m) (parT_bd hp k m) hl hn ?_
  have hR := parR_lt h
  have hlen := par_mis hl hn
  obtain ⟨y, hy⟩ := hp.fld.iv_scaled (n := (parR k l).length) (f := mnr (jG hp k m) (parR k l) (misJ k l)) (g := mnr (parT hp k m) (parR k l) (misJ k l)) (a := fun j => jA hp k m ((misJ k l).getD j 0)) (b := fun i => jB hp k m ((parR k l).getD i 0)) (hp.fld.mnr_bd (jG_bd hp k m) _ _) (hp.fld.mnr_bd (parT_bd hp k m) _ _) (fun j => jA_lt hp k m _) (fun i => jB_lt hp k m _)
    (fun j hj => jA_ne hp hk hm h20 (misJ_lt _ (Fld.getD_mem (by omega)))) (fun i hi => jB_ne hp hk hm h20 (hR _ (Fld.getD_mem hi))) (fun i j _ _ => rfl) (by rw [hx]; rfl)
  rw [hy]; rfl
end
end Go.Gam
