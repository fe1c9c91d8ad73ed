/- What the statements of layer 6 ask of matrices of powers. No program in sight. -/
import Derived.Test.YtkoiolamnnmokaaDoorGMds
set_option linter.unusedVariables false
set_option linter.unusedSimpArgs false
namespace Go.Gam
open Px

def casts (l : List Nat) : List Int := l.map fun (x : Nat) => (x : Int)
theorem casts_length (l : List Nat) : (casts l).length = l.length := by simp [casts]
section
variable {wb p : Nat} (hp : Prm wb p)
theorem tab_lens {n m : Nat} {f : Tb} (hn : n ≤ 20) (hm : m ≤ 20) : (tab n m f).length ≤ 20 ∧ ∀ r ∈ tab n m f, r.length ≤ 20 :=
  ⟨by rw [tab_length]; exact hn, fun r hr => by obtain ⟨i, _, rfl⟩ := List.mem_map.1 hr; simpa using hm⟩
theorem inv0 {k : Nat} {f : Tb} (hb : hp.fld.Bd f) (h1 : 1 ≤ k) (h2 : k ≤ 20) (h : ∃ g, hp.fld.iv k f = some g) : (invR hp (tab k k f)).1 = 0 := by
  have hm := mx_tab hp (n := k) (m := k) hb
  have hl : (tab k k f).length = k := tab_length _ _ _
  obtain ⟨g, hg⟩ := h
  have hc := hp.fld.iv_congr (n := k) (hm.bd hp) hb fun i j hi hj => (en_tab hi hj : en (tab k k f) i j = f i j)
  rw [hg] at hc
  obtain ⟨g', hg'⟩ := Option.isSome_iff_exists.1 hc
  rw [invR_some hp (hm.sq h1 h2) (g := g') (by rw [hl]; exact hg')]
theorem pick_tab {n k : Nat} {f : Tb} {l : List Nat} (hb : hp.fld.Bd f) (hn : 1 ≤ n ∧ n ≤ 20) (hk : 1 ≤ k ∧ k ≤ 20) (hl : 1 ≤ l.length ∧ l.length ≤ 20) (h : ∀ x ∈ l, x < n) :
    pickM (some (wb, p)) (tab n k f) (casts l) = some (tab l.length k fun i j => f (l.getD i 0) j) := by
  have hm := mx_tab hp (n := n) (m := k) hb
  rw [pickM_t (hm.may hn.1 hn.2 hk.1 hk.2) (by rw [casts_length]; exact hl) (List.all_eq_true.2 fun z hz => by
    obtain ⟨x, hx, rfl⟩ := List.mem_map.1 hz
    have := h x hx
    rw [tab_length]
    exact decide_eq_true ⟨by omega, by omega⟩)]
  congr 1
  unfold casts
  rw [List.map_map]
  apply List.ext_getElem?
  intro i
  by_cases hi : i < l.length
  · rw [List.getElem?_map, List.getElem?_eq_getElem hi, tab_at hi]
    show some (rowM _ _) = _
    congr 1
    have hx := h l[i] (List.getElem_mem hi)
    rw [show ((fun (x : Nat) => (x : Int)) l[i]) = ((l[i] : Nat) : Int) from rfl, rowM_of (tab_at hx), getD_of hi]
  · rw [List.getElem?_eq_none (by simp; omega), List.getElem?_eq_none (by rw [tab_length]; omega)]
theorem join_tab {n m k : Nat} {f g : Tb} (hf : hp.fld.Bd f) (hg : hp.fld.Bd g) (hn : 1 ≤ n) (hm : 1 ≤ m) (hnm : n + m ≤ 20) (hk : 1 ≤ k ∧ k ≤ 20) :
    joinM (some (wb, p)) (tab n k f) (tab m k g) = some (tab (n + m) k fun i j => if i < n then f i j else g (i - n) j) := by
  rw [joinM_t ((mx_tab hp hf).may hn (by omega) hk.1 hk.2) ((mx_tab hp hg).may hm (by omega) hk.1 hk.2) (by rw [wid_tab (by omega), wid_tab (by omega)]) (by rw [tab_length, tab_length]; omega)]
  congr 1
  unfold tab
  rw [List.range_add, List.map_append, List.map_map]
  congr 1
  · exact List.map_congr_left fun i hi => by simp only [List.mem_range.1 hi, if_true]
  · refine List.map_congr_left fun i _ => ?_
    show _ = List.map _ _
    refine List.map_congr_left fun j _ => ?_
    show _ = ((if n + i < n then f (n + i) j else g (n + i - n) j : Nat) : Int)
    rw [if_neg (by omega), Nat.add_sub_cancel_left]
/-! ### with the identity ahead -/
theorem sysM_is {k m : Nat} (h1 : 1 ≤ k) (h2 : 1 ≤ m) (h3 : k + m ≤ 20) : sysM hp (k : Int) (m : Int) = some (tab (k + m) k (sysT hp k)) := by
  unfold sysM fitB
  rw [if_pos (by rw [decide_eq_true (by omega)]; rfl)]
  rfl
theorem isalM_is {o : Fq} (ho : o.isSome = true) {k m : Nat} (h1 : 1 ≤ k) (h2 : 1 ≤ m) (h3 : k + m ≤ 20) : isalM o (k : Int) (m : Int) = some (tab m k (isT o)) := by
  unfold isalM fitB
  rw [if_pos (by rw [ho, decide_eq_true (by omega)]; rfl)]
  rfl
theorem rawM_is {o : Fq} (ho : o.isSome = true) {k m : Nat} (h1 : 1 ≤ k) (h2 : k ≤ 20) (h3 : 1 ≤ m) (h4 : m ≤ 20) : rawM o (k : Int) (m : Int) = some (tab k m (pwT o)) := by
  unfold rawM rawB
  rw [if_pos (by rw [ho, decide_eq_true (by omega)]; rfl)]
  rfl
theorem sysT_bd (k : Nat) : hp.fld.Bd (sysT hp k) := hp.fld.mm_bd _ _ _
theorem pts_inv {k : Nat} {l : List Nat} (hl : l.length = k) (hn : l.Nodup) (h : ∀ x ∈ l, x < 256) : ∃ g, hp.fld.iv k (fun i j => hp.fld.pow (l.getD i 0) j) = some g := by
  have h16 := hp.size.1
  refine hp.fld.vander (x := fun i => l.getD i 0) (fun i => ?_) fun i j hi hj e => ?_
  · rw [hp.fld_w, List.getD_eq_getElem?_getD]
    cases hi : l[i]? with
    | none => simp; omega
    | some x => have := h x (List.mem_of_getElem? hi); simp; omega
  · rw [getD_of (show i < l.length by omega), getD_of (show j < l.length by omega)] at e
    refine Classical.byContradiction fun hne => ?_
    rcases Nat.lt_or_gt_of_ne hne with h' | h'
    · exact List.pairwise_iff_getElem.1 hn i j _ _ h' e
    · exact List.pairwise_iff_getElem.1 hn j i _ _ h' e.symm
theorem van_iv {k : Nat} {l : List Nat} (hk : k ≤ 20) (hl : l.length = k) (hn : l.Nodup) (h : ∀ x ∈ l, x < 256) : ∃ g, hp.fld.iv k (fun i j => sysT hp k (l.getD i 0) j) = some g := by
  obtain ⟨g, hg⟩ := pts_inv hp hl hn h
  have h1 := hp.fld.iv_some (fun i j => hp.fld.pow_lt _ _) hg
  have h2 := (vinv_ok hp (k := k) (by omega)).2.symm
  exact hp.fld.iv_of_Iv (h1.mul hp.fld h2)
theorem van_any {k m : Nat} {l : List Nat} (h1 : 1 ≤ k) (h2 : 1 ≤ m) (h3 : k + m ≤ 20) (hl : l.length = k) (hn : l.Nodup) (h : ∀ x ∈ l, x < k + m) :
    ∃ P, pickM (some (wb, p)) (tab (k + m) k (sysT hp k)) (casts l) = some P ∧ (invR hp P).1 = 0 := by
  refine ⟨_, pick_tab hp (sysT_bd hp k) ⟨by omega, h3⟩ ⟨h1, by omega⟩ ⟨by omega, by omega⟩ h, ?_⟩
  rw [hl]
  exact inv0 hp (fun i j => sysT_bd hp k _ _) h1 (by omega) (van_iv hp (by omega) hl hn fun x hx => by have := h x hx; omega)
theorem sys_id {k m : Nat} (h : k ≤ 20) : (tab (k + m) k (sysT hp k)).take k = idM k := by
  rw [tab_take (by omega), idM_tab]
  exact tab_congr fun i j hi hj => (vinv_ok hp (k := k) (by omega)).2.r i j hi hj
theorem sysT_one (i : Nat) : sysT hp 1 i 0 = 1 := by
  have h1 := (vinv_ok hp (k := 1) (by decide)).2
  have e := h1.r 0 0 (by decide) (by decide)
  have hb := h1.bd' 0 0
  have h : ∀ i : Nat, hp.fld.mm 1 (fun i j => hp.fld.pow i j) (vinv hp 1) i 0 = vinv hp 1 0 0 := fun i => by
    show (0 ^^^ hp.fld.mul 1 (vinv hp 1 0 0)) = _
    rw [Nat.zero_xor, hp.fld.one _ hb]
  rw [h] at e
  show hp.fld.mm 1 _ _ i 0 = 1
  rw [h, e]; rfl
/-! ### ISA-L's -/
include hp in
theorem isT_zero_r (i : Nat) : isT (some (wb, p)) i 0 = 1 := by rw [isT_pow hp]; rfl
include hp in
theorem isT_zero_l (j : Nat) : isT (some (wb, p)) 0 j = 1 := by rw [isT_pow hp]; exact hp.fld.one_pow j
include hp in
theorem isT_bd : hp.fld.Bd (isT (some (wb, p))) := fun i j => by rw [isT_pow hp]; exact hp.fld.pow_lt _ _
theorem two_inj {i j : Nat} (hi : i < 255) (hj : j < 255) (h : hp.fld.pow 2 i = hp.fld.pow 2 j) : i = j := by
  have ho := hp.order
  rw [← hp.pw_pow, ← hp.pw_pow] at h
  exact hp.pw_inj (by omega) (by omega) h
theorem join_id {k m : Nat} {f : Tb} (hf : hp.fld.Bd f) (h1 : 1 ≤ k) (h2 : 1 ≤ m) (h3 : k + m ≤ 20) : joinM (some (wb, p)) (idM k) (tab m k f) = some (tab (k + m) k (beh k f)) := by
  rw [idM_tab]; exact join_tab hp hp.fld.I1_bd hf h1 h2 h3 ⟨h1, by omega⟩
theorem isal_any {k m : Nat} {l : List Nat} (h1 : 1 ≤ k) (h2 : 1 ≤ m) (h3 : k + m ≤ 20) (hm3 : m ≤ 3) (hl : l.length = k) (hn : l.Nodup) (h : ∀ x ∈ l, x < k + m) :
    ∃ J P, joinM (some (wb, p)) (idM k) (tab m k (isT (some (wb, p)))) = some J ∧ pickM (some (wb, p)) J (casts l) = some P ∧ (invR hp P).1 = 0 := by
  have hb := hp.fld.beh_bd (k := k) (isT_bd hp)
  refine ⟨tab (k + m) k (beh k (isT (some (wb, p)))), _, ?_, pick_tab hp hb ⟨by omega, h3⟩ ⟨h1, by omega⟩ ⟨by omega, by omega⟩ h, ?_⟩
  · rw [idM_tab]; exact join_tab hp hp.fld.I1_bd (isT_bd hp) h1 h2 h3 ⟨h1, by omega⟩
  · rw [hl]
    refine inv0 hp (fun i j => hb _ _) h1 (by omega) (hp.fld.mds_of (m := m) (isT_bd hp) hl hn ?_)
    have hlen := par_mis hl hn
    have hR := parR_lt h
    obtain ⟨g, hg⟩ := hp.fld.three (R := parR k l) (J := misJ k l) (x := fun j => hp.fld.pow 2 j) (fun j => hp.fld.pow_lt _ _) (fun j _ => hp.fld.pow_ne hp.two_lt (by decide) j) (fun i hi j hj e => by
      have := misJ_lt i hi
      have := misJ_lt j hj
      exact two_inj hp (by omega) (by omega) e) (parR_nodup hn) (fun e he => by have := hR e he; omega) (misJ_nodup k l) hlen
    have e : mnr (isT (some (wb, p))) (parR k l) (misJ k l) = mnr (fun i j => hp.fld.pow (hp.fld.pow 2 j) i) (parR k l) (misJ k l) := by
      funext a b
      show isT _ _ _ = hp.fld.pow (hp.fld.pow 2 _) _
      rw [isT_pow hp, hp.fld.pow_mul, hp.fld.pow_mul, Nat.mul_comm]
    rw [e, hg]; rfl
end
theorem sysM_no {wb p : Nat} (hp : Prm wb p) {k m : Int} (h : fitB (some (wb, p)) k m = false) : sysM hp k m = none := if_neg (by rw [h]; decide)
theorem aw6_isal : isalM (some (8, 285)) 2 2 = some [[1, 1], [1, 2]] := by
  rw [show isalM (some (8, 285)) 2 2 = some (tab 2 2 (isT (some (8, 285)))) from isalM_is rfl (k := 2) (m := 2) (by decide) (by decide) (by decide)]
  show some [[((isT (some (8, 285)) 0 0 : Nat) : Int), ((isT (some (8, 285)) 0 1 : Nat) : Int)], [((isT (some (8, 285)) 1 0 : Nat) : Int), ((isT (some (8, 285)) 1 1 : Nat) : Int)]] = _
  rw [isT_zero_r prm_285, isT_zero_l prm_285, isT_zero_r prm_285, isT_pow prm_285, prm_285.fld.pow_one _ (prm_285.fld.pow_lt _ _), prm_285.fld.pow_one 2 (by rw [prm_285.fld_w]; decide)]
  rfl
theorem aw6_raw : rawM (some (8, 285)) 3 2 = some [[1, 0], [1, 1], [1, 2]] := by
  rw [show rawM (some (8, 285)) 3 2 = some (tab 3 2 (pwT (some (8, 285)))) from rawM_is rfl (k := 3) (m := 2) (by decide) (by decide) (by decide) (by decide)]
  show some [[((pwT (some (8, 285)) 0 0 : Nat) : Int), ((pwT (some (8, 285)) 0 1 : Nat) : Int)], [((pwT (some (8, 285)) 1 0 : Nat) : Int), ((pwT (some (8, 285)) 1 1 : Nat) : Int)], [((pwT (some (8, 285)) 2 0 : Nat) : Int), ((pwT (some (8, 285)) 2 1 : Nat) : Int)]] = _
  rw [pwT_pow prm_285 (by decide), pwT_pow prm_285 (by decide), pwT_pow prm_285 (by decide), pwT_pow prm_285 (by decide), pwT_pow prm_285 (by decide), pwT_pow prm_285 (by decide)]
  rw [prm_285.fld.pow_one 0 (by rw [prm_285.fld_w]; decide), prm_285.fld.pow_one 1 (by rw [prm_285.fld_w]; decide), prm_285.fld.pow_one 2 (by rw [prm_285.fld_w]; decide)]
  rfl
theorem Mat.three {D : FD} {B N cap : Nat} {w : World} {E2 : TypeId} {sa : Option Addr} {b : Option Nat} {u v x : Value} {r s t : List Int} (h : Own D B N w E2 (.slice sa 3 cap) b [u, v, x]) (hE : E2 ≠ D.T) (hr : Row D B w.heap.size w u (zints r)) (hs : Row D B w.heap.size w v (zints s)) (ht : Row D B w.heap.size w x (zints t)) : Mat D B w.heap.size w sa cap [r, s, t] :=
  ⟨[u, v, x], rfl, h.row hE, fun j v' r' hv hr' => by
    match j with
    | 0 => simp at hv hr'; subst hv; subst hr'; exact hr
    | 1 => simp at hv hr'; subst hv; subst hr'; exact hs
    | 2 => simp at hv hr'; subst hv; subst hr'; exact ht
    | j + 3 => simp at hv⟩
theorem aw6_len (a b c d : Int) : ([[a, b], [c, d]] : Mtx).length ≤ 1000 ∧ ∀ r ∈ ([[a, b], [c, d]] : Mtx), r.length ≤ 1000 := by
  refine ⟨by simp, fun r hr => ?_⟩
  simp only [List.mem_cons, List.mem_nil_iff, or_false] at hr
  rcases hr with rfl | rfl <;> simp
theorem aw6_len3 (a b c d e f : Int) : ([[a, b], [c, d], [e, f]] : Mtx).length ≤ 1000 ∧ ∀ r ∈ ([[a, b], [c, d], [e, f]] : Mtx), r.length ≤ 1000 := by
  refine ⟨by simp, fun r hr => ?_⟩
  simp only [List.mem_cons, List.mem_nil_iff, or_false] at hr
  rcases hr with rfl | rfl | rfl <;> simp
end Go.Gam
