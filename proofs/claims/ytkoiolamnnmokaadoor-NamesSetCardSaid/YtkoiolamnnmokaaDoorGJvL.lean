/- The plain laws of layer 7. No program in sight. -/
import Derived.Test.YtkoiolamnnmokaaDoorGRec
set_option linter.unusedVariables false
set_option linter.unusedSimpArgs false
set_option linter.unusedSectionVars false
namespace Go.Gam
open Px

theorem fitB_ok {o : Fq} (ho : o.isSome = true) {k m : Nat} (h1 : 1 ≤ k) (h2 : 1 ≤ m) (h3 : k + m ≤ 20) : fitB o (k : Int) (m : Int) = true := fitB_iff.2 ⟨ho, by omega, by omega, by omega, by omega, by omega⟩
theorem extM_is {o : Fq} (ho : o.isSome = true) {k m : Nat} (h1 : 1 ≤ k) (h2 : 1 ≤ m) (h3 : k + m ≤ 20) : extM o (k : Int) (m : Int) = some (tab (k + m) k (extT o k m)) := by
  unfold extM
  rw [if_pos (fitB_ok ho h1 h2 h3)]
  rfl
theorem aw7_ext : extM (some (8, 285)) 2 1 = some [[1, 0], [1, 1], [0, 1]] := by
  rw [show extM (some (8, 285)) 2 1 = some (tab 3 2 (extT (some (8, 285)) 2 1)) from extM_is rfl (k := 2) (m := 1) (by decide) (by decide) (by decide)]
  show some [[((pwT (some (8, 285)) 0 0 : Nat) : Int), ((pwT (some (8, 285)) 0 1 : Nat) : Int)], [((pwT (some (8, 285)) 1 0 : Nat) : Int), ((pwT (some (8, 285)) 1 1 : Nat) : Int)], [0, 1]] = _
  rw [pwT_pow prm_285 (by decide), pwT_pow prm_285 (by decide), pwT_pow prm_285 (by decide), pwT_pow prm_285 (by decide)]
  rw [prm_285.fld.pow_one 0 (by rw [prm_285.fld_w]; decide), prm_285.fld.pow_one 1 (by rw [prm_285.fld_w]; decide)]
  rfl
theorem aw7_par : tab 1 2 (parT prm_285 2 1) = [[1, 1]] := by
  show [[((parT prm_285 2 1 0 0 : Nat) : Int), ((parT prm_285 2 1 0 1 : Nat) : Int)]] = _
  rw [parT_top prm_285 (by decide) (by decide) (by decide) (by decide), parT_top prm_285 (by decide) (by decide) (by decide) (by decide)]
  rfl
theorem aw7_len (a b : Int) : ([[a, b]] : Mtx).length ≤ 1000 ∧ ∀ r ∈ ([[a, b]] : Mtx), r.length ≤ 1000 := by
  refine ⟨by simp, fun r hr => ?_⟩
  simp only [List.mem_cons, List.mem_nil_iff, or_false] at hr
  subst hr; simp
section
variable {wb p : Nat} (hp : Prm wb p)
theorem inv_tab {k : Nat} {f g : Tb} (hb : hp.fld.Bd f) (h1 : 1 ≤ k) (h2 : k ≤ 20) (hI : hp.fld.Iv k f g) : invR hp (tab k k f) = (0, tab k k g) := by
  have hm := mx_tab hp (n := k) (m := k) hb
  have hl : (tab k k f).length = k := tab_length _ _ _
  have hI2 := hI.congr hp.fld (hm.bd hp) fun i j hi hj => (en_tab hi hj : en (tab k k f) i j = _)
  obtain ⟨g', hg⟩ := hp.fld.iv_of_Iv hI2
  have hu := (hp.fld.iv_some (hm.bd hp) hg).uniq hp.fld hI.bd' fun i j hi hj => hI2.r i j hi hj
  rw [invR_some hp (hm.sq h1 h2) (g := g') (by rw [hl]; exact hg), hl]
  congr 1
  exact tab_congr fun i j hi hj => (hu i j hi hj).symm
theorem mul_tab {n m k : Nat} {f g : Tb} (hf : hp.fld.Bd f) (hg : hp.fld.Bd g) (hn : 1 ≤ n ∧ n ≤ 20) (hm : 1 ≤ m ∧ m ≤ 20) (hk : 1 ≤ k ∧ k ≤ 20) : mulM (some (wb, p)) (tab n m f) (tab m k g) = some (tab n k (hp.fld.mm m f g)) := by
  rw [mulM_tab hp (mx_tab hp hf) (mx_tab hp hg) hn hm hk]
  congr 1
  exact tab_congr fun i j hi hj => xsum_congr fun l hl => by rw [en_tab hi hl, en_tab hl hj]
variable {k m : Nat} (hk : 1 ≤ k) (hm : 1 ≤ m) (h20 : k + m ≤ 20)
include hk hm h20
theorem ext_pick {l : List Nat} (hl : l.length = k) (hn : l.Nodup) (h : ∀ x ∈ l, x < k + m) : ∃ P, pickM (some (wb, p)) (tab (k + m) k (extT (some (wb, p)) k m)) (casts l) = some P ∧ (invR hp P).1 = 0 := by
  have hb := extT_bd hp k m
  refine ⟨_, pick_tab hp hb ⟨by omega, h20⟩ ⟨hk, by omega⟩ ⟨by omega, by omega⟩ h, ?_⟩
  rw [hl]
  exact inv0 hp (fun i j => hb _ _) hk (by omega) (ext_iv hp hk h20 hl hn h)
theorem par_pick {l : List Nat} (hl : l.length = k) (hn : l.Nodup) (h : ∀ x ∈ l, x < k + m) : ∃ P, pickM (some (wb, p)) (tab (k + m) k (beh k (parT hp k m))) (casts l) = some P ∧ (invR hp P).1 = 0 := by
  have hb := hp.fld.beh_bd (k := k) (parT_bd hp k m)
  refine ⟨_, pick_tab hp hb ⟨by omega, h20⟩ ⟨hk, by omega⟩ ⟨by omega, by omega⟩ h, ?_⟩
  rw [hl]
  exact inv0 hp (fun i j => hb _ _) hk (by omega) (par_any hp hk hm h20 hl hn h)
include hp in
theorem ext_ends : ([trow k (extT (some (wb, p)) k m) 0, trow k (extT (some (wb, p)) k m) (k + m - 1)] : Mtx) = [trow k I1 0, trow k I1 (k - 1)] := by
  congr 1
  · refine trow_congr fun j hj => ?_
    unfold extT
    rw [if_neg (by omega), pwT_pow hp (by decide)]
    unfold I1
    cases j with
    | zero => rfl
    | succ j => rw [if_neg (by omega)]; show hp.fld.mul _ 0 = 0; exact hp.fld.mul_zero _
  · congr 1
    refine trow_congr fun j hj => ?_
    unfold extT I1
    rw [if_pos rfl]
    by_cases e : j = k - 1
    · rw [if_pos e, if_pos e.symm]
    · rw [if_neg e, if_neg (Ne.symm e)]
theorem ext_ginv : ∃ g, hp.fld.Iv k (extT (some (wb, p)) k m) g ∧ invR hp (tab k k (extT (some (wb, p)) k m)) = (0, tab k k g) := by
  obtain ⟨g, hg⟩ := ext_top hp hk hm h20
  have hI := hp.fld.iv_some (extT_bd hp k m) hg
  exact ⟨g, hI, inv_tab hp (extT_bd hp k m) hk (by omega) hI⟩
theorem ext_mul {g : Tb} (hI : hp.fld.Iv k (extT (some (wb, p)) k m) g) : mulM (some (wb, p)) (tab m k fun i j => extT (some (wb, p)) k m (k + i) j) (tab k k g) = some (tab m k (jG hp k m)) := by
  rw [mul_tab hp (fun i j => extT_bd hp k m _ _) hI.bd' ⟨hm, by omega⟩ ⟨hk, by omega⟩ ⟨hk, by omega⟩]
  congr 1
  obtain ⟨C, C', hC, he⟩ := jG_ex hp hk hm h20
  have hu := hI.uniq hp.fld hC.bd fun i j hi hj => by rw [← he i j hj]; exact if_pos hi
  refine tab_congr fun i j hi hj => ?_
  have := he (k + i) j hj
  unfold beh at this
  rw [if_neg (by omega), Nat.add_sub_cancel_left] at this
  rw [this]
  exact xsum_congr fun l hl => by rw [hu l j hl hj]
theorem scaled_id {r c : Nat} (hr : r < m) (hc : c < k) : hp.fld.mul (parT hp k m r c) (hp.fld.mul (jG hp k m 0 c) (jG hp k m r 0)) = hp.fld.mul (jG hp k m r c) (jG hp k m 0 0) := by
  have hb := jG_bd hp k m
  have hA : ∀ c, c < k → hp.fld.mul (jA hp k m c) (jG hp k m 0 c) = 1 := fun c hc => hp.fld.inv_mul (hb _ _) (jG_ne hp hk hm h20 (by omega) hc)
  haveI : Std.Associative hp.fld.mul := ⟨hp.fld.assoc⟩
  haveI : Std.Commutative hp.fld.mul := ⟨hp.fld.comm⟩
  have hB : hp.fld.mul (jB hp k m r) (jG hp k m r 0) = jG hp k m 0 0 := by
    unfold jB
    by_cases e : r = 0
    · rw [if_pos e, e]; exact hp.fld.one _ (hb _ _)
    · rw [if_neg e]
      have h1 : hp.fld.mul (hp.fld.inv (jC hp k m r 0)) (jC hp k m r 0) = 1 := hp.fld.inv_mul (jC_bd hp k m _ _) (jC_ne hp hk hm h20 hr (by omega))
      have h2 : hp.fld.mul (hp.fld.inv (jC hp k m r 0)) (jG hp k m r 0) = hp.fld.mul (hp.fld.mul (hp.fld.inv (jC hp k m r 0)) (jG hp k m r 0)) (hp.fld.mul (jA hp k m 0) (jG hp k m 0 0)) := by rw [hA 0 (by omega), hp.fld.mul_one _ (hp.fld.lt _ _)]
      rw [h2, show hp.fld.mul (hp.fld.mul (hp.fld.inv (jC hp k m r 0)) (jG hp k m r 0)) (hp.fld.mul (jA hp k m 0) (jG hp k m 0 0)) = hp.fld.mul (hp.fld.mul (hp.fld.inv (jC hp k m r 0)) (hp.fld.mul (jG hp k m r 0) (jA hp k m 0))) (jG hp k m 0 0) by ac_rfl]
      rw [show hp.fld.mul (jG hp k m r 0) (jA hp k m 0) = jC hp k m r 0 from rfl, h1, hp.fld.one _ (hb _ _)]
  have e : hp.fld.mul (parT hp k m r c) (hp.fld.mul (jG hp k m 0 c) (jG hp k m r 0)) = hp.fld.mul (jG hp k m r c) (hp.fld.mul (hp.fld.mul (jA hp k m c) (jG hp k m 0 c)) (hp.fld.mul (jB hp k m r) (jG hp k m r 0))) := by
    unfold parT jC
    ac_rfl
  rw [e, hA c hc, hB, hp.fld.one _ (hb _ _)]
end
end Go.Gam
