/- Texts of the claim CauchySafe (part 6), put together in the order of their imports. -/
import Derived.Test.YtaeljbdpjiciaaaGreatKCauchySafe5
/- The walks of slices.Grow and slices.Concat over numbers, of rows side by side. -/
set_option linter.unusedVariables false
set_option linter.unusedSimpArgs false
namespace Go.Proofs.YtaeljbdpjiciaaaGreat
open Go Go.Gam


namespace FxFInvA
theorem en25 : Ent Tryz.prog 25 := ent Tryz.func25 (by kernel_rfl) (by kernel_rfl)
theorem en39 : Ent Tryz.prog 39 := ent Tryz.func39 (by kernel_rfl) (by kernel_rfl)
theorem sc39 : Scalar Tryz.prog 39 := ⟨_, Tryz.underlying39, by simp, by simp⟩
theorem sl22 : Sl Tryz.prog 22 39 (.slice none 0 0) 24 := sl_of Tryz.underlying22 rfl (by kernel_rfl)
theorem sl35 : Sl Tryz.prog 35 39 (.slice none 0 0) 24 := sl_of Tryz.underlying35 rfl (by kernel_rfl)
theorem sl39 : Sl Tryz.prog 39 3 (.int .i64 0) 8 := sl_of Tryz.underlying39 rfl (by kernel_rfl)
end FxFInvA
open FxFInvA

set_option maxRecDepth 100000 in
set_option maxHeartbeats 1000000 in
theorem Grow_nil (B m : Nat) (w : World) (hI : Inv FDx B w) (hm : m ≤ 1000000) : Ret Tryz.prog 39 [.slice none 0 0, .int .i64 (m : Int)] w fun v w' => ∃ ob, Gam.Own FDx B w.heap.size w' FDx.E v ob [] ∧ St FDx B w w' := by
 refine enter 27 [(0, .slice none 0 0), (1, .int .i64 (m : Int))] 4 Tryz.func39 rfl rfl rfl rfl rfl ?_; intro a hF
 have hS := St.refl hI
 refine W_sr rfl (fun K hK => ?_)
 refine sv hF (v_assign rfl) rfl ?_; clear hF a; intro a hF
 refine WL_nil (hK _ _ ?_)
 clear hK K
 refine W_seq ?_
 refine W_sr rfl (fun K hK => ?_)
 refine sv hF (v_move rfl) rfl ?_; clear hF a; intro a hF
 refine sv hF ((v_lss rfl rfl).as (congrArg Value.bool (decide_eq_false (by omega)))) rfl ?_; clear hF a; intro a hF
 refine WL_nil (hK _ _ ?_)
 clear hK K
 replace hF := hF.sub _ (c_ 6 rfl (c_ 4 rfl (c_ 0 rfl (c_ 1 rfl (n_)))))
 refine W_ifF hF rfl ?_
 refine W_skip ?_
 refine W_seq ?_
 refine W_sr rfl (fun K hK => ?_)
 refine sv2 hF (v_move rfl) (v_move rfl) rfl rfl ?_; clear hF a; intro a hF
 refine sv hF (v_capS rfl sl39 rfl) rfl ?_; clear hF a; intro a hF
 refine sv hF (v_move rfl) rfl ?_; clear hF a; intro a hF
 refine sv hF (v_lenS rfl sl39 rfl) rfl ?_; clear hF a; intro a hF
 refine sv hF (v_subI rfl rfl (by omega)) rfl ?_; clear hF a; intro a hF
 refine sv hF (v_subI rfl rfl (by omega)) rfl ?_; clear hF a; intro a hF
 refine sv hF (v_assign rfl) rfl ?_; clear hF a; intro a hF
 refine WL_nil (hK _ _ ?_)
 clear hK K
 replace hF := hF.sub _ (c_ 1 rfl (c_ 4 rfl (c_ 0 rfl (n_))))
 refine W_sr rfl (fun K hK => ?_)
 refine sv hF (v_move rfl) rfl ?_; clear hF a; intro a hF
 refine sv hF (v_gtr rfl rfl) rfl ?_; clear hF a; intro a hF
 refine WL_nil (hK _ _ ?_)
 clear hK K
 replace hF := hF.sub _ (c_ 16 rfl (c_ 1 rfl (c_ 4 rfl (c_ 0 rfl (n_)))))
 refine W_if hF rfl (fun hc1 => ?_) (fun hc1 => ?_)
 ·
  skip
  try simp only [dcl] at hc1
  refine W_reg rfl (fun K hK => ?_)
  refine sv2 hF (v_move rfl) (v_move rfl) rfl rfl ?_; clear hF a; intro a hF
  refine sv hF (v_capS rfl sl39 rfl) rfl ?_; clear hF a; intro a hF
  refine sv hF (v_slHi sl39 rfl rfl (by omega) (by omega)) rfl ?_; clear hF a; intro a hF
  refine sv hF (v_move rfl) rfl ?_; clear hF a; intro a hF
  refine s_appZ (D := FDx) (B := B) (m := m) hF rfl sl39 Tryz.underlying3 rfl rfl (by omega) (by omega) (by omega) (by decide) hS.inv rfl ?_; clear hF a; intro w' a c hm hI' hO hF
  replace hS := hS.mb0 hm
  clear hm hI'
  refine sv hF (v_move rfl) rfl ?_; clear hF a; intro a hF
  refine sv hF (v_lenS rfl sl39 rfl) rfl ?_; clear hF a; intro a hF
  refine sv hF (v_slHi sl39 rfl rfl (by omega) (by omega)) rfl ?_; clear hF a; intro a hF
  refine sv hF (v_assign rfl) rfl ?_; clear hF a; intro a hF
  refine WL_nil (hK _ _ ?_)
  clear hK K
  replace hF := hF.sub _ (c_ 0 rfl (c_ 4 rfl (n_)))
  refine W_sr rfl (fun K hK => ?_)
  refine sv2 hF (v_move rfl) (v_assign rfl) rfl rfl ?_; clear hF a; intro a hF
  refine WL_nil (hK _ _ ?_)
  clear hK K
  replace hF := hF.sub _ (c_ 4 rfl (n_))
  refine W_ret ?_
  refine ⟨_, _, hF, rfl, ?_⟩
  exact ⟨_, (hO.to (hi := 0) (Nat.zero_le _)).cast (List.take_zero ..), hS⟩
 ·
  skip
  try simp only [dcl] at hc1
  refine W_skip ?_
  refine W_sr rfl (fun K hK => ?_)
  refine sv2 hF (v_move rfl) (v_assign rfl) rfl rfl ?_; clear hF a; intro a hF
  refine WL_nil (hK _ _ ?_)
  clear hK K
  replace hF := hF.sub _ (c_ 4 rfl (n_))
  refine W_ret ?_
  refine ⟨_, _, hF, rfl, ?_⟩
  exact ⟨none, Gam.Own.nil _ _ _ _ _, hS⟩

set_option maxRecDepth 100000 in
set_option maxHeartbeats 1000000 in
theorem Concat_ok (B M : Nat) (pmt : Option Addr) (cmt : Nat) (mt : Mtx) (w : World) (hI : Inv FDx B w) (hA : Mat FDx B M w pmt cmt mt) (hM : M ≤ w.heap.size) (hl : mt.length ≤ 100) (hb : ∀ r ∈ mt, r.length ≤ 1000) : Ret Tryz.prog 25 [.slice pmt mt.length cmt] w fun v w' => ∃ ob, Gam.Own FDx B w.heap.size w' FDx.E v ob (zints (mt.flatten)) ∧ St FDx B w w' := by
 refine enter 36 [(0, .slice pmt mt.length cmt)] 2 Tryz.func25 rfl rfl rfl rfl rfl ?_; intro a hF
 have hS := St.refl hI
 have hfl := flat_le hb
 refine W_sr rfl (fun K hK => ?_)
 refine sv hF (v_assign rfl) rfl ?_; clear hF a; intro a hF
 refine WL_nil (hK _ _ ?_)
 clear hK K
 refine W_sr rfl (fun K hK => ?_)
 refine sv hF (v_assign rfl) rfl ?_; clear hF a; intro a hF
 refine WL_nil (hK _ _ ?_)
 clear hK K
 refine W_seq ?_
 refine W_sr rfl (fun K hK => ?_)
 refine sv hF (v_move rfl) rfl ?_; clear hF a; intro a hF
 refine sv hF (v_lenS rfl sl22 rfl) rfl ?_; clear hF a; intro a hF
 refine sv hF (v_move rfl) rfl ?_; clear hF a; intro a hF
 refine WL_nil (hK _ _ ?_)
 clear hK K
 refine W_block ?_
 refine W_loop (fun m a w1 => ∃ (i : Nat), Fr 36 [(0, .slice pmt mt.length cmt), (3, .int .i64 (((mt.take i).flatten.length : Nat) : Int)), (9, .slice pmt mt.length cmt), (10, .int .i64 (mt.length : Int)), (11, .int .i64 (i : Int))] a ∧ (St FDx B w w1) ∧ (Mat FDx B M w1 pmt cmt mt) ∧ (i ≤ mt.length) ∧ (m + i = mt.length)) (mt.length) ?_ ?_
 ·
  skip
  exact ⟨0, hF.sub _ (c_ 0 rfl (c_ 3 rfl (c_ 9 rfl (c_ 10 rfl (c_ 11 rfl (n_)))))), hS, hA, by omega, by omega⟩
 ·
  skip
  clear hF
  clear hS hA
  rintro m a w1 ⟨i, hF, hS, hA, hi, hm⟩
  refine W_sr rfl (fun K hK => ?_)
  refine sv hF (v_lss rfl rfl) rfl ?_; clear hF a; intro a hF
  refine WL_nil (hK _ _ ?_)
  clear hK K
  refine W_seq ?_
  refine W_if hF rfl (fun hc1 => ?_) (fun hc1 => ?_)
  ·
   skip
   try simp only [dcl] at hc1
   have hlt : i < mt.length := by omega
   obtain ⟨r, hr⟩ : ∃ z, mt[i]? = some z := ⟨_, List.getElem?_eq_getElem hlt⟩
   obtain ⟨gx, ox, pr, cr, hgx, hkc, hrow, -⟩ := hA.row hr
   have hrl := hb r (List.mem_of_getElem? hr)
   have hf1 := hfl i
   have hf2 := hfl (i + 1)
   have hf3 : ((mt.take (i + 1)).flatten.length : Int) = ((mt.take i).flatten.length : Int) + (r.length : Int) := by rw [flat_snoc hr, List.length_append]; omega
   subst hgx
   refine W_skip ?_
   refine W_seq ?_
   refine W_block ?_
   refine W_sr rfl (fun K hK => ?_)
   refine sv hF (v_ixS sl22 rfl rfl (by omega) (by omega)) rfl ?_; clear hF a; intro a hF
   refine sv hF (v_load sc39 rfl (by rw [toNat_c]; exact hkc.c)) rfl ?_; clear hF a; intro a hF
   refine sv hF (v_assign rfl) rfl ?_; clear hF a; intro a hF
   refine WL_nil (hK _ _ ?_)
   clear hK K
   replace hF := hF.sub _ (c_ 5 rfl (c_ 0 rfl (c_ 3 rfl (c_ 9 rfl (c_ 10 rfl (c_ 11 rfl (n_)))))))
   refine W_sr rfl (fun K hK => ?_)
   refine sv2 hF (v_move rfl) (v_move rfl) rfl rfl ?_; clear hF a; intro a hF
   refine sv hF (v_lenS rfl sl39 rfl) rfl ?_; clear hF a; intro a hF
   refine sv hF ((v_addI rfl rfl (by omega)).as (congrArg _ hf3.symm)) rfl ?_; clear hF a; intro a hF
   refine sv hF (v_assign rfl) rfl ?_; clear hF a; intro a hF
   refine WL_nil (hK _ _ ?_)
   clear hK K
   replace hF := hF.sub _ (c_ 3 rfl (c_ 0 rfl (c_ 9 rfl (c_ 10 rfl (c_ 11 rfl (n_))))))
   refine W_sr rfl (fun K hK => ?_)
   refine sv hF (v_move rfl) rfl ?_; clear hF a; intro a hF
   refine sv hF ((v_lss rfl rfl).as (congrArg Value.bool (decide_eq_false (by omega)))) rfl ?_; clear hF a; intro a hF
   refine WL_nil (hK _ _ ?_)
   clear hK K
   replace hF := hF.sub _ (c_ 20 rfl (c_ 3 rfl (c_ 0 rfl (c_ 9 rfl (c_ 10 rfl (c_ 11 rfl (n_)))))))
   refine W_ifF hF rfl ?_
   refine W_skip ?_
   refine W_reg rfl (fun K hK => ?_)
   refine sv hF (v_addI rfl rfl (by omega)) rfl ?_; clear hF a; intro a hF
   refine sv hF (v_move rfl) rfl ?_; clear hF a; intro a hF
   refine WL_nil (hK _ _ ?_)
   clear hK K
   replace hF := hF.sub _ (c_ 11 rfl (c_ 22 rfl (c_ 3 rfl (c_ 0 rfl (c_ 9 rfl (c_ 10 rfl (n_)))))))
   exact ⟨m - 1, by omega, i + 1, hF.sub _ (c_ 0 rfl (c_ 3 rfl (c_ 9 rfl (c_ 10 rfl (c_ 11 rfl (n_)))))), hS, hA, by omega, by omega⟩
  ·
   skip
   try simp only [dcl] at hc1
   refine W_exit rfl ?_
   obtain rfl : i = mt.length := by omega
   have hf1 := hfl mt.length
   rw [List.take_length] at hF hf1
   refine W_sr rfl (fun K hK => ?_)
   refine sv hF (v_move rfl) rfl ?_; clear hF a; intro a hF
   refine sc hF rfl rfl rfl en39 rfl (Grow_nil B mt.flatten.length _ hS.inv (by omega)) ?_; clear hF a; intro v w' a hv hF
   obtain ⟨ob, hO, hS'⟩ := hv
   replace hO := hO.le hS.ext.size
   replace hA := hA.st hS'
   replace hS := hS.trans hS'
   clear hS'
   refine sv hF (v_assign rfl) rfl ?_; clear hF a; intro a hF
   refine WL_nil (hK _ _ ?_)
   clear hK K
   replace hF := hF.sub _ (c_ 6 rfl (c_ 24 rfl (c_ 23 rfl (c_ 0 rfl (c_ 3 rfl (c_ 9 rfl (c_ 10 rfl (c_ 11 rfl (n_)))))))))
   refine W_seq ?_
   refine W_sr rfl (fun K hK => ?_)
   refine sv hF (v_move rfl) rfl ?_; clear hF a; intro a hF
   refine sv hF (v_lenS rfl sl22 rfl) rfl ?_; clear hF a; intro a hF
   refine sv hF (v_move rfl) rfl ?_; clear hF a; intro a hF
   refine WL_nil (hK _ _ ?_)
   clear hK K
   refine W_block ?_
   refine W_loop (fun m2 a w2 => ∃ (i : Nat) (v6 : Value) (b6 : Option Nat), Fr 36 [(6, v6), (25, .slice pmt mt.length cmt), (26, .int .i64 (mt.length : Int)), (27, .int .i64 (i : Int))] a ∧ (St FDx B w w2) ∧ (Mat FDx B M w2 pmt cmt mt) ∧ (Gam.Own FDx B w.heap.size w2 FDx.E v6 b6 (zints (mt.take i).flatten)) ∧ (i ≤ mt.length) ∧ (m2 + i = mt.length)) (mt.length) ?_ ?_
   ·
    skip
    exact ⟨0, _, _, hF.sub _ (c_ 6 rfl (c_ 25 rfl (c_ 26 rfl (c_ 27 rfl (n_))))), hS, hA, hO.cast rfl, by omega, by omega⟩
   ·
    skip
    clear hF
    clear hS hA hO
    rintro m2 a w2 ⟨i, v6, b6, hF, hS, hA, hO, hi, hm2⟩
    refine W_sr rfl (fun K hK => ?_)
    refine sv hF (v_lss rfl rfl) rfl ?_; clear hF a; intro a hF
    refine WL_nil (hK _ _ ?_)
    clear hK K
    refine W_seq ?_
    refine W_if hF rfl (fun hc2 => ?_) (fun hc2 => ?_)
    ·
     skip
     try simp only [dcl] at hc2
     have hlt : i < mt.length := by omega
     obtain ⟨r, hr⟩ : ∃ z, mt[i]? = some z := ⟨_, List.getElem?_eq_getElem hlt⟩
     obtain ⟨gx, ox, pr, cr, hgx, hkc, hrow, -⟩ := hA.row hr
     have hrl := hb r (List.mem_of_getElem? hr)
     have hf1 := hfl i
     have hzl := zints_length (mt.take i).flatten
     have hzr := zints_length r
     subst hgx
     refine W_skip ?_
     refine W_seq ?_
     refine W_block ?_
     refine W_sr rfl (fun K hK => ?_)
     refine sv hF (v_ixS sl22 rfl rfl (by omega) (by omega)) rfl ?_; clear hF a; intro a hF
     refine sv hF (v_load sc39 rfl (by rw [toNat_c]; exact hkc.c)) rfl ?_; clear hF a; intro a hF
     refine sv hF (v_assign rfl) rfl ?_; clear hF a; intro a hF
     refine WL_nil (hK _ _ ?_)
     clear hK K
     refine W_reg rfl (fun K hK => ?_)
     refine sv2 hF (v_move rfl) (v_move rfl) rfl rfl ?_; clear hF a; intro a hF
     refine s_app (D := FDx) (B := B) hF rfl sl39 rfl rfl hO (hrow) (by intro u hu; obtain ⟨_, _, rfl⟩ := List.mem_map.1 hu; rfl) (by rw [hzl, hzr]; omega) (by rw [hzl, hzr]; simp only [maxLen]; omega) (hS.ext.size) (by decide) hS.inv rfl ?_; clear hF a; intro v' b' w' a ho' hm hI' hb' hF
     replace hA := hA.mb hm (fun k h => Nat.le_trans (hM) (hO.lt k h).1)
     replace hS := hS.mb hm (fun k h => Nat.le_trans (Nat.le_refl _) (hO.lt k h).1)
     replace hO := ho'
     clear hm hI' ho'
     refine sv hF (v_assign rfl) rfl ?_; clear hF a; intro a hF
     refine WL_nil (hK _ _ ?_)
     clear hK K
     refine W_reg rfl (fun K hK => ?_)
     refine sv hF (v_addI rfl rfl (by omega)) rfl ?_; clear hF a; intro a hF
     refine sv hF (v_move rfl) rfl ?_; clear hF a; intro a hF
     refine WL_nil (hK _ _ ?_)
     clear hK K
     exact ⟨m2 - 1, by omega, i + 1, _, _, hF.sub _ (c_ 6 rfl (c_ 25 rfl (c_ 26 rfl (c_ 27 rfl (n_))))), hS, hA, hO.cast (by rw [flat_snoc hr]; simp [zints]), by omega, by omega⟩
    ·
     skip
     try simp only [dcl] at hc2
     refine W_exit rfl ?_
     refine W_sr rfl (fun K hK => ?_)
     refine sv2 hF (v_move rfl) (v_assign rfl) rfl rfl ?_; clear hF a; intro a hF
     refine WL_nil (hK _ _ ?_)
     clear hK K
     refine W_ret ?_
     refine ⟨_, _, hF, rfl, ?_⟩
     obtain rfl : i = mt.length := by omega
     rw [List.take_length] at hO
     exact ⟨_, hO, hS⟩

set_option maxRecDepth 100000 in
set_option maxHeartbeats 1000000 in
theorem beside_ok (B M n m k : Nat) (pa pb : Option Addr) (ca cb : Nat) (f g : Tb) (w : World) (hI : Inv FDx B w) (hM : M ≤ w.heap.size) (hA : Mat FDx B M w pa ca (tab n m f)) (hB : Mat FDx B M w pb cb (tab n k g)) (hn : 1 ≤ n ∧ n ≤ 20) (hm : 1 ≤ m ∧ m ≤ 20) (hk : k ≤ 20) : Ret Tryz.prog 50 [.slice pa n ca, .slice pb n cb] w fun v w' => ∃ gv cap bs rc, v = .slice (some ⟨gv, 0, none⟩) n cap ∧ Gam.Own FDx B w.heap.size w' 39 v (some gv) (vls n (m + k) bs rc) ∧ Wr FDx B w.heap.size w'.heap.size w' n (m + k) bs rc (Fld.bes m f g) ∧ St FDx B w w' := by
 refine enter 27 [(0, .slice pa n ca), (1, .slice pb n cb)] 4 Tryz.func50 rfl rfl rfl rfl rfl ?_; intro a hF
 have hS := St.refl hI
 have htn := tab_length n m f
 have htl := tab_length n k g
 refine W_sr rfl (fun K hK => ?_)
 refine sv hF (v_assign rfl) rfl ?_; clear hF a; intro a hF
 refine WL_nil (hK _ _ ?_)
 clear hK K
 refine W_sr rfl (fun K hK => ?_)
 refine sv hF (v_assign rfl) rfl ?_; clear hF a; intro a hF
 refine WL_nil (hK _ _ ?_)
 clear hK K
 refine W_seq ?_
 refine W_sr rfl (fun K hK => ?_)
 refine sv hF (v_move rfl) rfl ?_; clear hF a; intro a hF
 refine sv hF (v_lenS rfl sl35 rfl) rfl ?_; clear hF a; intro a hF
 refine sv hF (v_move rfl) rfl ?_; clear hF a; intro a hF
 refine WL_nil (hK _ _ ?_)
 clear hK K
 replace hF := hF.sub _ (c_ 10 rfl (c_ 9 rfl (c_ 8 rfl (c_ 5 rfl (c_ 4 rfl (c_ 1 rfl (n_)))))))
 refine W_block ?_
 refine W_loop (fun q a w1 => ∃ (i : Nat) (v5 : Value) (b5 : Option Nat) (bs rc : Nat → Nat), Fr 27 [(1, .slice pb n cb), (5, v5), (8, .slice pa n ca), (9, .int .i64 (n : Int)), (10, .int .i64 (i : Int))] a ∧ (St FDx B w w1) ∧ (Mat FDx B M w1 pa ca (tab n m f)) ∧ (Mat FDx B M w1 pb cb (tab n k g)) ∧ (Gam.Own FDx B w.heap.size w1 39 v5 b5 (vls i (m + k) bs rc)) ∧ (Wr FDx B w.heap.size w1.heap.size w1 i (m + k) bs rc (Fld.bes m f g)) ∧ (i ≤ n) ∧ (q + i = n)) (n) ?_ ?_
 ·
  skip
  exact ⟨0, _, none, id, id, hF.sub _ (c_ 1 rfl (c_ 5 rfl (c_ 8 rfl (c_ 9 rfl (c_ 10 rfl (n_)))))), hS, hA, hB, Gam.Own.nil _ _ _ _ _, Wr.nil, by omega, by omega⟩
 ·
  skip
  clear hF
  clear hS hA hB
  rintro q a w1 ⟨i, v5, b5, bs, rc, hF, hS, hA, hB, hO, hW, hi, hq⟩
  obtain ⟨K, hKe⟩ : ∃ K, K = w1.heap.size := ⟨_, rfl⟩
  rw [← hKe] at hW
  have hKs : K ≤ w1.heap.size := by omega
  have hNK : w.heap.size ≤ K := by have := hS.ext.size; omega
  clear hKe
  refine W_sr rfl (fun K hK => ?_)
  refine sv hF (v_lss rfl rfl) rfl ?_; clear hF a; intro a hF
  refine WL_nil (hK _ _ ?_)
  clear hK K
  refine W_seq ?_
  refine W_if hF rfl (fun hc1 => ?_) (fun hc1 => ?_)
  ·
   skip
   try simp only [dcl] at hc1
   have hlt : i < n := by omega
   obtain ⟨ga, oa, pa, ca, hga, hka, hra, -⟩ := hA.row (tab_at (f := f) (m := m) hlt)
   subst hga
   obtain ⟨gb, ob, pb, cb, hgb, hkb, hrb, -⟩ := hB.row (tab_at (f := g) (m := k) hlt)
   subst hgb
   have hla : ((List.range m).map fun j => (f i j : Int)).length = m := by simp
   have hlb : ((List.range k).map fun j => (g i j : Int)).length = k := by simp
   have hvl := vls_length i (m + k) bs rc
   refine W_skip ?_
   refine W_seq ?_
   refine W_block ?_
   refine W_sr rfl (fun K hK => ?_)
   refine sv hF (v_move rfl) rfl ?_; clear hF a; intro a hF
   refine sv hF (v_ixS sl35 rfl rfl (by omega) (by omega)) rfl ?_; clear hF a; intro a hF
   refine sv hF (v_load sc39 rfl (by rw [toNat_c]; exact hka.c)) rfl ?_; clear hF a; intro a hF
   refine sv2 hF (v_assign rfl) (v_assign rfl) rfl rfl ?_; clear hF a; intro a hF
   refine WL_nil (hK _ _ ?_)
   clear hK K
   replace hF := hF.sub _ (c_ 7 rfl (c_ 6 rfl (c_ 1 rfl (c_ 5 rfl (c_ 8 rfl (c_ 9 rfl (c_ 10 rfl (n_))))))))
   refine W_reg rfl (fun K hK => ?_)
   refine sv4 hF (v_move rfl) (v_move rfl) (v_move rfl) (v_move rfl) rfl rfl rfl rfl ?_; clear hF a; intro a hF
   refine sv hF (v_ixS sl35 rfl rfl (by omega) (by omega)) rfl ?_; clear hF a; intro a hF
   refine sv hF (v_load sc39 rfl (by rw [toNat_c]; exact hkb.c)) rfl ?_; clear hF a; intro a hF
   refine s_bs (D := FDx) (B := B) hF sl22 rfl rfl (by decide) (by simp [Value.cells]) (by decide) hS.inv rfl ?_; clear hF a; intro w' a hm hI' hL2 hF
   replace hA := hA.mb hm (fun _ h => by cases h)
   replace hB := hB.mb hm (fun _ h => by cases h)
   replace hO := hO.mb hm (fun _ _ => by simp)
   replace hW := hW.mb0 hm
   replace hKs := Nat.le_trans hKs hm.size
   replace hra := hra.mb hm (fun _ h => by cases h)
   replace hrb := hrb.mb hm (fun _ h => by cases h)
   replace hS := hS.mb0 hm
   clear hm hI'
   refine sc hF rfl rfl rfl en25 rfl (Concat_ok B _ _ _ [trow m f i, trow k g i] _ hS.inv (Mat.two hL2 (by decide) (hra.mono (Nat.le_trans hM hS.ext.size)) (hrb.mono (Nat.le_trans hM hS.ext.size))) (Nat.le_refl _) (by simp) (by intro r hr; simp at hr; rcases hr with rfl | rfl <;> simp <;> omega)) ?_; clear hF a; intro v w' a hv hF
   obtain ⟨ob, hC, hS'⟩ := hv
   replace hC := (hC.le hKs).cast (congrArg zints (bes_row m k f g i))
   obtain ⟨gx, cx, rfl, rfl⟩ := hC.ptr (by simp; omega)
   rw [zints_length, trow_length] at hC hF
   clear hL2
   replace hA := hA.st hS'
   replace hB := hB.st hS'
   replace hO := hO.st (by decide) hS'
   replace hW := hW.st hS'
   replace hKs := Nat.le_trans hKs hS'.ext.size
   replace hra := hra.st hS'
   replace hrb := hrb.st hS'
   replace hS := hS.trans hS'
   clear hS'
   refine s_bs (D := FDx) (B := B) hF sl35 rfl rfl (by decide) (by simp [Value.cells]) (by decide) hS.inv rfl ?_; clear hF a; intro w' a hm hI' hL hF
   replace hA := hA.mb hm (fun _ h => by cases h)
   replace hB := hB.mb hm (fun _ h => by cases h)
   replace hO := hO.mb hm (fun _ _ => by simp)
   replace hW := hW.mb0 hm
   replace hKs := Nat.le_trans hKs hm.size
   replace hC := hC.mb hm (fun _ _ => by simp)
   replace hS := hS.mb0 hm
   clear hm hI'
   refine s_app (D := FDx) (B := B) hF rfl sl35 rfl rfl hO (hL.row (by decide)) (by simp [Value.oneCell']) (by simp; omega) (by simp [maxLen]; omega) (hS.ext.size) (by decide) hS.inv rfl ?_; clear hF a; intro v' b' w' a ho' hm hI' hb' hF
   replace hA := hA.mb hm (fun k h => Nat.le_trans (hM) (hO.lt k h).1)
   replace hB := hB.mb hm (fun k h => Nat.le_trans (hM) (hO.lt k h).1)
   replace hW := hW.mbo hm hO (by decide)
   replace hKs := Nat.le_trans hKs hm.size
   replace hC := hC.mb hm (hC.ne_type hO (by decide))
   replace hS := hS.mb hm (fun k h => Nat.le_trans (Nat.le_refl _) (hO.lt k h).1)
   replace hO := ho'
   clear hm hI' ho'
   refine sv hF (v_assign rfl) rfl ?_; clear hF a; intro a hF
   refine WL_nil (hK _ _ ?_)
   clear hK K
   replace hF := hF.sub _ (c_ 5 rfl (c_ 1 rfl (c_ 8 rfl (c_ 9 rfl (c_ 10 rfl (n_))))))
   refine W_reg rfl (fun K hK => ?_)
   refine sv hF (v_addI rfl rfl (by omega)) rfl ?_; clear hF a; intro a hF
   refine sv hF (v_move rfl) rfl ?_; clear hF a; intro a hF
   refine WL_nil (hK _ _ ?_)
   clear hK K
   exact ⟨q - 1, by omega, i + 1, _, _, _, _, hF.sub _ (c_ 1 rfl (c_ 5 rfl (c_ 8 rfl (c_ 9 rfl (c_ 10 rfl (n_)))))), hS, hA, hB, hO.cast vls_snoc.symm, hW.snoc (hC.le hNK) ((hC.lt _ rfl).1), by omega, by omega⟩
  ·
   skip
   try simp only [dcl] at hc1
   refine W_exit rfl ?_
   refine W_sr rfl (fun K hK => ?_)
   refine sv2 hF (v_move rfl) (v_assign rfl) rfl rfl ?_; clear hF a; intro a hF
   refine WL_nil (hK _ _ ?_)
   clear hK K
   replace hF := hF.sub _ (c_ 4 rfl (c_ 26 rfl (c_ 1 rfl (c_ 5 rfl (c_ 8 rfl (c_ 9 rfl (c_ 10 rfl (n_))))))))
   refine W_ret ?_
   refine ⟨_, _, hF, rfl, ?_⟩
   obtain rfl : i = n := by omega
   obtain ⟨gv, cap, rfl, rfl⟩ := hO.ptr (by simp; omega)
   exact ⟨gv, cap, bs, rc, by rw [vls_length], hO, hW.up hKs, hS⟩

end Go.Proofs.YtaeljbdpjiciaaaGreat

/- The walks of package invert: rows reduced. -/
set_option linter.unusedVariables false
set_option linter.unusedSimpArgs false
namespace Go.Proofs.YtaeljbdpjiciaaaGreat
open Go Go.Gam


namespace FxFInvB
theorem en59 : Ent Tryz.prog 59 := ent Tryz.func59 (by kernel_rfl) (by kernel_rfl)
theorem hmix : Tryz.prog.follows .mixedOrders = true := by kernel_rfl
theorem on3 : Gam.One Tryz.prog 3 := by unfold Gam.One; kernel_rfl
theorem sc25 : Scalar Tryz.prog 25 := ⟨_, Tryz.underlying25, by simp, by simp⟩
theorem sc3 : Scalar Tryz.prog 3 := ⟨_, Tryz.underlying3, by simp, by simp⟩
theorem sc35 : Scalar Tryz.prog 35 := ⟨_, Tryz.underlying35, by simp, by simp⟩
theorem sc39 : Scalar Tryz.prog 39 := ⟨_, Tryz.underlying39, by simp, by simp⟩
theorem sl35 : Sl Tryz.prog 35 39 (.slice none 0 0) 24 := sl_of Tryz.underlying35 rfl (by kernel_rfl)
theorem sl39 : Sl Tryz.prog 39 3 (.int .i64 0) 8 := sl_of Tryz.underlying39 rfl (by kernel_rfl)
end FxFInvB
open FxFInvB

set_option maxRecDepth 100000 in
set_option maxHeartbeats 1000000 in
theorem clear_ok (B N KM wb p : Nat) (hp : Prm wb p) (fv : Value) (pf pa pt g cap n m : Nat) (bs rc : Nat → Nat) (f : Tb) (i t c : Nat) (w : World) (hI : Inv FDx B w) (hf : Fo FDx B w fv (some (wb, p))) (hkf : KC FDx B w ⟨pf, 0, none⟩ (fv)) (hka : KC FDx B w ⟨pa, 0, none⟩ (.slice (some ⟨g, 0, none⟩) n cap)) (hkt : KC FDx B w ⟨pt, 0, none⟩ (.int .i64 (t : Int))) (hKp : KM ≤ pf ∧ KM ≤ pa ∧ KM ≤ pt) (hO : Gam.Own FDx B N w 39 (.slice (some ⟨g, 0, none⟩) n cap) (some g) (vls n m bs rc)) (hW : Wr FDx B N KM w n m bs rc (f)) (hfb : hp.fld.Bd f) (hi : i < n) (ht : t < n) (hne : i ≠ t) (hc : c < m) (hnm : n ≤ 40 ∧ m ≤ 40) : Ret Tryz.prog 63 [.slice (some ⟨bs i, 0, none⟩) m (rc i), .int .i64 (c : Int), .pointer (some ⟨pf, 0, none⟩), .pointer (some ⟨pa, 0, none⟩), .pointer (some ⟨pt, 0, none⟩)] w fun v w' => v = .tuple #[] ∧ Gam.Own FDx B N w' 39 (.slice (some ⟨g, 0, none⟩) n cap) (some g) (vls n m bs rc) ∧ Wr FDx B N KM w' n m bs rc (hp.fld.clrF t i (f i c) m f) ∧ StZ FDx B (fun k => k = bs i) w w' := by
 refine enter0 35 [(0, .slice (some ⟨bs i, 0, none⟩) m (rc i)), (1, .int .i64 (c : Int)), (2, .pointer (some ⟨pf, 0, none⟩)), (3, .pointer (some ⟨pa, 0, none⟩)), (4, .pointer (some ⟨pt, 0, none⟩))]  Tryz.func63 rfl rfl rfl rfl rfl ?_; intro a hF
 have hS := StZ.refl (Z := fun k => k = bs i) hI
 have hfw := hp.fld_w
 refine W_sr rfl (fun K hK => ?_)
 refine sv2 hF (v_move rfl) (v_move rfl) rfl rfl ?_; clear hF a; intro a hF
 refine sv hF (v_ixS sl39 rfl rfl (by omega) (by omega)) rfl ?_; clear hF a; intro a hF
 refine sv hF (v_load sc3 rfl (by rw [toNat_c]; exact (hW.rd hi hc).c)) rfl ?_; clear hF a; intro a hF
 refine sv hF (v_assign rfl) rfl ?_; clear hF a; intro a hF
 refine WL_nil (hK _ _ ?_)
 clear hK K
 replace hF := hF.sub _ (c_ 7 rfl (c_ 0 rfl (c_ 2 rfl (c_ 3 rfl (c_ 4 rfl (n_))))))
 refine W_sr rfl (fun K hK => ?_)
 refine sv hF (v_move rfl) rfl ?_; clear hF a; intro a hF
 refine sv hF (v_lenS rfl sl39 rfl) rfl ?_; clear hF a; intro a hF
 refine sv hF (v_move rfl) rfl ?_; clear hF a; intro a hF
 refine WL_nil (hK _ _ ?_)
 clear hK K
 replace hF := hF.sub _ (c_ 15 rfl (c_ 14 rfl (c_ 7 rfl (c_ 0 rfl (c_ 2 rfl (c_ 3 rfl (c_ 4 rfl (n_))))))))
 refine W_block ?_
 refine W_loop (fun q a w1 => ∃ (j : Nat), Fr 35 [(0, .slice (some ⟨bs i, 0, none⟩) m (rc i)), (2, .pointer (some ⟨pf, 0, none⟩)), (3, .pointer (some ⟨pa, 0, none⟩)), (4, .pointer (some ⟨pt, 0, none⟩)), (7, .int .i64 ((f i c : Nat) : Int)), (14, .int .i64 (m : Int)), (15, .int .i64 (j : Int))] a ∧ (StZ FDx B (fun k => k = bs i) w w1) ∧ (Fo FDx B w1 fv (some (wb, p))) ∧ (KC FDx B w1 ⟨pf, 0, none⟩ (fv)) ∧ (KC FDx B w1 ⟨pa, 0, none⟩ (.slice (some ⟨g, 0, none⟩) n cap)) ∧ (KC FDx B w1 ⟨pt, 0, none⟩ (.int .i64 (t : Int))) ∧ (Gam.Own FDx B N w1 39 (.slice (some ⟨g, 0, none⟩) n cap) (some g) (vls n m bs rc)) ∧ (Wr FDx B N KM w1 n m bs rc (hp.fld.clrF t i (f i c) j f)) ∧ (j ≤ m) ∧ (q + j = m)) (m) ?_ ?_
 ·
  skip
  exact ⟨0, hF.sub _ (c_ 0 rfl (c_ 2 rfl (c_ 3 rfl (c_ 4 rfl (c_ 7 rfl (c_ 14 rfl (c_ 15 rfl (n_)))))))), hS, hf, hkf, hka, hkt, hO, hW.congr (fun a _ l _ => by unfold Fld.clrF; rw [if_neg (by omega)]), by omega, by omega⟩
 ·
  skip
  clear hF
  clear hS hf hkf hka hkt hO hW
  rintro q a w1 ⟨j, hF, hS, hf, hkf, hka, hkt, hO, hW, hj, hq⟩
  refine W_sr rfl (fun K hK => ?_)
  refine sv hF (v_lss rfl rfl) rfl ?_; clear hF a; intro a hF
  refine WL_nil (hK _ _ ?_)
  clear hK K
  refine W_seq ?_
  refine W_if hF rfl (fun hc1 => ?_) (fun hc1 => ?_)
  ·
   skip
   try simp only [dcl] at hc1
   have hlt : j < m := by omega
   have hb1 := hp.fld.clrF_bd (t := t) (i := i) (n := f i c) (J := j) hfb
   have hb2 := hfb i c
   have hb3 := hb1 t j
   have hb4 := hb1 i j
   have hb5 := hp.fld.lt (f i c) ((hp.fld.clrF t i (f i c) j f) t j)
   rw [hfw] at hb2 hb3 hb4 hb5
   have h16 : 2 ^ wb ≤ 65536 := by rcases hp.w with h | h <;> rw [h] <;> decide
   have hJt : (hp.fld.clrF t i (f i c) (j + 1) f) t j = (hp.fld.clrF t i (f i c) j f) t j := by unfold Fld.clrF; rw [if_neg (by omega), if_neg (by omega)]
   refine W_skip ?_
   refine W_seq ?_
   refine W_block ?_
   refine W_sr rfl (fun K hK => ?_)
   refine sv2 hF (v_move rfl) (v_assign rfl) rfl rfl ?_; clear hF a; intro a hF
   refine WL_nil (hK _ _ ?_)
   clear hK K
   replace hF := hF.sub _ (c_ 8 rfl (c_ 0 rfl (c_ 2 rfl (c_ 3 rfl (c_ 4 rfl (c_ 7 rfl (c_ 14 rfl (c_ 15 rfl (n_)))))))))
   refine W_dS (fun (w2 : World) => w2.cell? ⟨pf, 0, none⟩ = some fv ∧ w2.cell? ⟨pa, 0, none⟩ = some (.slice (some ⟨g, 0, none⟩) n cap) ∧ w2.cell? ⟨pt, 0, none⟩ = some (.int .i64 (t : Int)) ∧ w2.cell? ⟨g, 0 + t, none⟩ = some (.slice (some ⟨bs t, 0, none⟩) m (rc t)) ∧ w2.cell? ⟨bs t, 0 + j, none⟩ = some (.int .i64 ((hp.fld.clrF t i (f i c) j f t j : Nat) : Int))) (m := 17) rfl hmix (fun K hK => ?_)
   have hS' := St.drew hS.inv
   replace hf := hf.st hS'
   replace hkf := hkf.st hS'
   replace hka := hka.st hS'
   replace hkt := hkt.st hS'
   replace hO := hO.st (by decide) hS'
   replace hW := hW.st hS'
   replace hS := hS.trans hS'
   clear hS'
   have hSS : (fun (w2 : World) => w2.cell? ⟨pf, 0, none⟩ = some fv ∧ w2.cell? ⟨pa, 0, none⟩ = some (.slice (some ⟨g, 0, none⟩) n cap) ∧ w2.cell? ⟨pt, 0, none⟩ = some (.int .i64 (t : Int)) ∧ w2.cell? ⟨g, 0 + t, none⟩ = some (.slice (some ⟨bs t, 0, none⟩) m (rc t)) ∧ w2.cell? ⟨bs t, 0 + j, none⟩ = some (.int .i64 ((hp.fld.clrF t i (f i c) j f t j : Nat) : Int))) _ := And.intro hkf.c (And.intro hka.c (And.intro hkt.c (And.intro (hO.kc (by decide) (vls_at ht)).c (by first | exact (hW.rd ht hlt).c | (have hct := (hW.rd ht hlt).c; rw [hJt] at hct; exact hct)))))
   refine b_v (i := 0) rfl (by kernel_rfl) hF (fun w2 hx => v_move rfl) rfl hSS ?_; clear hF a; intro a hF
   refine b_v (i := 1) rfl (by kernel_rfl) hF (fun w2 hx => v_move rfl) rfl hSS ?_; clear hF a; intro a hF
   refine b_v (i := 2) rfl (by kernel_rfl) hF (fun w2 hx => v_ixS sl39 rfl rfl (by omega) (by omega)) rfl hSS ?_; clear hF a; intro a hF
   refine b_v (i := 4) rfl (by kernel_rfl) hF (fun w2 hx => v_load sc25 rfl hx.1) rfl hSS ?_; clear hF a; intro a hF
   refine b_v (i := 5) rfl (by kernel_rfl) hF (fun w2 hx => v_move rfl) rfl hSS ?_; clear hF a; intro a hF
   refine b_v (i := 6) rfl (by kernel_rfl) hF (fun w2 hx => v_load sc35 rfl hx.2.1) rfl hSS ?_; clear hF a; intro a hF
   refine b_v (i := 7) rfl (by kernel_rfl) hF (fun w2 hx => v_load sc3 rfl hx.2.2.1) rfl hSS ?_; clear hF a; intro a hF
   refine b_v (i := 8) rfl (by kernel_rfl) hF (fun w2 hx => v_ixS sl35 rfl rfl (by omega) (by omega)) rfl hSS ?_; clear hF a; intro a hF
   refine b_v (i := 9) rfl (by kernel_rfl) hF (fun w2 hx => v_load sc39 rfl (by rw [toNat_c]; exact hx.2.2.2.1)) rfl hSS ?_; clear hF a; intro a hF
   refine b_v (i := 10) rfl (by kernel_rfl) hF (fun w2 hx => v_move rfl) rfl hSS ?_; clear hF a; intro a hF
   refine b_v (i := 11) rfl (by kernel_rfl) hF (fun w2 hx => v_ixS sl39 rfl rfl (by omega) (by omega)) rfl hSS ?_; clear hF a; intro a hF
   refine b_v (i := 12) rfl (by kernel_rfl) hF (fun w2 hx => v_load sc3 rfl (by rw [toNat_c]; exact hx.2.2.2.2)) rfl hSS ?_; clear hF a; intro a hF
   refine b_e2 (i := 3) (i' := 13) (by kernel_rfl) rfl rfl ?_ ?_
   ·
    skip
    refine sv hF (v_load sc3 rfl (by rw [toNat_c]; exact (hW.rd hi hlt).c)) rfl ?_; clear hF a; intro a hF
    refine WL_nil ⟨hSS, ?_⟩
    refine b_e (i := 13) (by kernel_rfl) rfl ?_
    refine sc hF rfl rfl rfl en59 rfl (Mul_gf B (some (wb, p)) fv ((f i c : Nat) : Int) (((hp.fld.clrF t i (f i c) j f) t j : Nat) : Int) _ hS.inv hf) ?_; clear hF a; intro v w' a hv hF
    obtain ⟨rfl, hS'⟩ := hv
    replace hf := hf.st hS'
    replace hkf := hkf.st hS'
    replace hka := hka.st hS'
    replace hkt := hkt.st hS'
    replace hO := hO.st (by decide) hS'
    replace hW := hW.st hS'
    replace hS := hS.trans hS'
    clear hS'
    rw [gmul_num hp hb2 hb3] at hF
    clear hSS
    have hSS : (fun (w2 : World) => w2.cell? ⟨pf, 0, none⟩ = some fv ∧ w2.cell? ⟨pa, 0, none⟩ = some (.slice (some ⟨g, 0, none⟩) n cap) ∧ w2.cell? ⟨pt, 0, none⟩ = some (.int .i64 (t : Int)) ∧ w2.cell? ⟨g, 0 + t, none⟩ = some (.slice (some ⟨bs t, 0, none⟩) m (rc t)) ∧ w2.cell? ⟨bs t, 0 + j, none⟩ = some (.int .i64 ((hp.fld.clrF t i (f i c) j f t j : Nat) : Int))) _ := And.intro hkf.c (And.intro hka.c (And.intro hkt.c (And.intro (hO.kc (by decide) (vls_at ht)).c (by first | exact (hW.rd ht hlt).c | (have hct := (hW.rd ht hlt).c; rw [hJt] at hct; exact hct)))))
    refine WL_nil ⟨hSS, ?_⟩
    refine b_v (i := 14) rfl (by kernel_rfl) hF (fun w2 hx => v_xorN rfl rfl (fits_i64 (by omega)) (fits_i64 (by omega))) rfl hSS ?_; clear hF a; intro a hF
    refine b_v (i := 15) rfl (by kernel_rfl) hF (fun w2 hx => v_ixS sl39 rfl rfl (by omega) (by omega)) rfl hSS ?_; clear hF a; intro a hF
    refine b_e (i := 16) (by kernel_rfl) rfl ?_
    have hR0 := hW.row i hi
    refine s_set (D := FDx) (B := B) hF on3 rfl (by rw [toNat_c, zints_length, trow_length]; omega) rfl rfl hR0 (by decide) hS.inv ?_; intro w' hm hI' ho'
    replace hf := hf.mb hm
    replace hkf := hkf.mb hm (hW.ne hi hKp.1)
    replace hka := hka.mb hm (hW.ne hi hKp.2.1)
    replace hkt := hkt.mb hm (hW.ne hi hKp.2.2)
    replace hO := hO.mb hm (hO.ne_type hR0 (by decide))
    replace hW := hW.set (g := hp.fld.clrF t i (f i c) (j + 1) f) hi hm (ho'.cast (by rw [toNat_c, Nat.zero_add, zints_set, trow_set (g := hp.fld.clrF t i (f i c) (j + 1) f)]; intro l hl; exact Fld.clrF_at _ hne l)) (fun a ha hai l hl => by unfold Fld.clrF; rw [if_neg (by omega), if_neg (by omega)])
    replace hS := hS.mb hm (fun k e => ⟨by cases e; rfl, hR0.isrow k e⟩)
    replace hR0 := ho'
    clear hm hI' ho'
    clear hR0
    clear hSS
    have hSS : (fun (w2 : World) => w2.cell? ⟨pf, 0, none⟩ = some fv ∧ w2.cell? ⟨pa, 0, none⟩ = some (.slice (some ⟨g, 0, none⟩) n cap) ∧ w2.cell? ⟨pt, 0, none⟩ = some (.int .i64 (t : Int)) ∧ w2.cell? ⟨g, 0 + t, none⟩ = some (.slice (some ⟨bs t, 0, none⟩) m (rc t)) ∧ w2.cell? ⟨bs t, 0 + j, none⟩ = some (.int .i64 ((hp.fld.clrF t i (f i c) j f t j : Nat) : Int))) _ := And.intro hkf.c (And.intro hka.c (And.intro hkt.c (And.intro (hO.kc (by decide) (vls_at ht)).c (by first | exact (hW.rd ht hlt).c | (have hct := (hW.rd ht hlt).c; rw [hJt] at hct; exact hct)))))
    refine WL_nil ⟨hSS, ?_⟩
    refine b_done (by kernel_rfl) (hK _ _ ?_)
    clear hK K
    replace hF := hF.sub _ (c_ 0 rfl (c_ 2 rfl (c_ 3 rfl (c_ 4 rfl (c_ 7 rfl (c_ 14 rfl (c_ 15 rfl (n_))))))))
    refine W_reg rfl (fun K hK => ?_)
    refine sv hF (v_addI rfl rfl (by omega)) rfl ?_; clear hF a; intro a hF
    refine sv hF (v_move rfl) rfl ?_; clear hF a; intro a hF
    refine WL_nil (hK _ _ ?_)
    clear hK K
    exact ⟨q - 1, by omega, j + 1, hF.sub _ (c_ 0 rfl (c_ 2 rfl (c_ 3 rfl (c_ 4 rfl (c_ 7 rfl (c_ 14 rfl (c_ 15 rfl (n_)))))))), hS, hf, hkf, hka, hkt, hO, hW, by omega, by omega⟩
   ·
    skip
    refine sc hF rfl rfl rfl en59 rfl (Mul_gf B (some (wb, p)) fv ((f i c : Nat) : Int) (((hp.fld.clrF t i (f i c) j f) t j : Nat) : Int) _ hS.inv hf) ?_; clear hF a; intro v w' a hv hF
    obtain ⟨rfl, hS'⟩ := hv
    replace hf := hf.st hS'
    replace hkf := hkf.st hS'
    replace hka := hka.st hS'
    replace hkt := hkt.st hS'
    replace hO := hO.st (by decide) hS'
    replace hW := hW.st hS'
    replace hS := hS.trans hS'
    clear hS'
    rw [gmul_num hp hb2 hb3] at hF
    clear hSS
    have hSS : (fun (w2 : World) => w2.cell? ⟨pf, 0, none⟩ = some fv ∧ w2.cell? ⟨pa, 0, none⟩ = some (.slice (some ⟨g, 0, none⟩) n cap) ∧ w2.cell? ⟨pt, 0, none⟩ = some (.int .i64 (t : Int)) ∧ w2.cell? ⟨g, 0 + t, none⟩ = some (.slice (some ⟨bs t, 0, none⟩) m (rc t)) ∧ w2.cell? ⟨bs t, 0 + j, none⟩ = some (.int .i64 ((hp.fld.clrF t i (f i c) j f t j : Nat) : Int))) _ := And.intro hkf.c (And.intro hka.c (And.intro hkt.c (And.intro (hO.kc (by decide) (vls_at ht)).c (by first | exact (hW.rd ht hlt).c | (have hct := (hW.rd ht hlt).c; rw [hJt] at hct; exact hct)))))
    refine WL_nil ⟨hSS, ?_⟩
    refine b_e (i := 3) (by kernel_rfl) rfl ?_
    refine sv hF (v_load sc3 rfl (by rw [toNat_c]; exact (hW.rd hi hlt).c)) rfl ?_; clear hF a; intro a hF
    refine WL_nil ⟨hSS, ?_⟩
    refine b_v (i := 14) rfl (by kernel_rfl) hF (fun w2 hx => v_xorN rfl rfl (fits_i64 (by omega)) (fits_i64 (by omega))) rfl hSS ?_; clear hF a; intro a hF
    refine b_v (i := 15) rfl (by kernel_rfl) hF (fun w2 hx => v_ixS sl39 rfl rfl (by omega) (by omega)) rfl hSS ?_; clear hF a; intro a hF
    refine b_e (i := 16) (by kernel_rfl) rfl ?_
    have hR0 := hW.row i hi
    refine s_set (D := FDx) (B := B) hF on3 rfl (by rw [toNat_c, zints_length, trow_length]; omega) rfl rfl hR0 (by decide) hS.inv ?_; intro w' hm hI' ho'
    replace hf := hf.mb hm
    replace hkf := hkf.mb hm (hW.ne hi hKp.1)
    replace hka := hka.mb hm (hW.ne hi hKp.2.1)
    replace hkt := hkt.mb hm (hW.ne hi hKp.2.2)
    replace hO := hO.mb hm (hO.ne_type hR0 (by decide))
    replace hW := hW.set (g := hp.fld.clrF t i (f i c) (j + 1) f) hi hm (ho'.cast (by rw [toNat_c, Nat.zero_add, zints_set, trow_set (g := hp.fld.clrF t i (f i c) (j + 1) f)]; intro l hl; exact Fld.clrF_at _ hne l)) (fun a ha hai l hl => by unfold Fld.clrF; rw [if_neg (by omega), if_neg (by omega)])
    replace hS := hS.mb hm (fun k e => ⟨by cases e; rfl, hR0.isrow k e⟩)
    replace hR0 := ho'
    clear hm hI' ho'
    clear hR0
    clear hSS
    have hSS : (fun (w2 : World) => w2.cell? ⟨pf, 0, none⟩ = some fv ∧ w2.cell? ⟨pa, 0, none⟩ = some (.slice (some ⟨g, 0, none⟩) n cap) ∧ w2.cell? ⟨pt, 0, none⟩ = some (.int .i64 (t : Int)) ∧ w2.cell? ⟨g, 0 + t, none⟩ = some (.slice (some ⟨bs t, 0, none⟩) m (rc t)) ∧ w2.cell? ⟨bs t, 0 + j, none⟩ = some (.int .i64 ((hp.fld.clrF t i (f i c) j f t j : Nat) : Int))) _ := And.intro hkf.c (And.intro hka.c (And.intro hkt.c (And.intro (hO.kc (by decide) (vls_at ht)).c (by first | exact (hW.rd ht hlt).c | (have hct := (hW.rd ht hlt).c; rw [hJt] at hct; exact hct)))))
    refine WL_nil ⟨hSS, ?_⟩
    refine b_done (by kernel_rfl) (hK _ _ ?_)
    clear hK K
    replace hF := hF.sub _ (c_ 0 rfl (c_ 2 rfl (c_ 3 rfl (c_ 4 rfl (c_ 7 rfl (c_ 14 rfl (c_ 15 rfl (n_))))))))
    refine W_reg rfl (fun K hK => ?_)
    refine sv hF (v_addI rfl rfl (by omega)) rfl ?_; clear hF a; intro a hF
    refine sv hF (v_move rfl) rfl ?_; clear hF a; intro a hF
    refine WL_nil (hK _ _ ?_)
    clear hK K
    exact ⟨q - 1, by omega, j + 1, hF.sub _ (c_ 0 rfl (c_ 2 rfl (c_ 3 rfl (c_ 4 rfl (c_ 7 rfl (c_ 14 rfl (c_ 15 rfl (n_)))))))), hS, hf, hkf, hka, hkt, hO, hW, by omega, by omega⟩
  ·
   skip
   try simp only [dcl] at hc1
   refine W_exit rfl ?_
   refine ⟨_, hF, ?_⟩
   obtain rfl : j = m := by omega
   exact ⟨rfl, hO, hW, hS⟩

set_option maxRecDepth 100000 in
set_option maxHeartbeats 1000000 in
theorem red2_ok (B M pc c : Nat) (pr : Option Addr) (cr : Nat) (r : List Int) (w : World) (hI : Inv FDx B w) (hrow : Row FDx B M w (.slice pr r.length cr) (zints r)) (hkc : KC FDx B w ⟨pc, 0, none⟩ (.int .i64 (c : Int))) (hc : c < r.length) (hcl : c ≤ 40) : Ret Tryz.prog 64 [.slice pr r.length cr, .pointer (some ⟨pc, 0, none⟩)] w fun v w' => v = .bool (decide (r.getD c 0 ≠ 0)) ∧ St FDx B w w' := by
 refine enter 9 [(0, .slice pr r.length cr), (1, .pointer (some ⟨pc, 0, none⟩))] 3 Tryz.func64 rfl rfl rfl rfl rfl ?_; intro a hF
 have hS := St.refl hI
 obtain ⟨x, hx⟩ : ∃ z, r[c]? = some z := ⟨_, List.getElem?_eq_getElem hc⟩
 obtain ⟨gx, ox, hgx, hkx, -⟩ := hrow.kat (zints_at hx)
 subst hgx
 refine W_sr rfl (fun K hK => ?_)
 refine sv hF (v_assign rfl) rfl ?_; clear hF a; intro a hF
 refine WL_nil (hK _ _ ?_)
 clear hK K
 refine W_sr rfl (fun K hK => ?_)
 refine sv hF (v_move rfl) rfl ?_; clear hF a; intro a hF
 refine sv hF (v_load sc3 rfl hkc.c) rfl ?_; clear hF a; intro a hF
 refine sv hF (v_ixS sl39 rfl rfl (by omega) (by omega)) rfl ?_; clear hF a; intro a hF
 refine sv hF (v_load sc3 rfl (by rw [toNat_c]; exact hkx.c)) rfl ?_; clear hF a; intro a hF
 refine sv hF (v_neq rfl rfl) rfl ?_; clear hF a; intro a hF
 refine sv hF (v_assign rfl) rfl ?_; clear hF a; intro a hF
 refine WL_nil (hK _ _ ?_)
 clear hK K
 replace hF := hF.sub _ (c_ 3 rfl (n_))
 refine W_ret ?_
 refine ⟨_, _, hF, rfl, ?_⟩
 exact ⟨by rw [getD_at hx], hS⟩

end Go.Proofs.YtaeljbdpjiciaaaGreat

/- The walk of package invert: reduce. -/
set_option linter.unusedVariables false
set_option linter.unusedSimpArgs false
namespace Go.Proofs.YtaeljbdpjiciaaaGreat
open Go Go.Gam


namespace FxFInvC
theorem en27 : Ent Tryz.prog 27 := ent Tryz.func27 (by kernel_rfl) (by kernel_rfl)
theorem en47 : Ent Tryz.prog 47 := ent Tryz.func47 (by kernel_rfl) (by kernel_rfl)
theorem en59 : Ent Tryz.prog 59 := ent Tryz.func59 (by kernel_rfl) (by kernel_rfl)
theorem en63 : Ent Tryz.prog 63 := ent Tryz.func63 (by kernel_rfl) (by kernel_rfl)
theorem hmix : Tryz.prog.follows .mixedOrders = true := by kernel_rfl
theorem on3 : Gam.One Tryz.prog 3 := by unfold Gam.One; kernel_rfl
theorem on39 : Gam.One Tryz.prog 39 := by unfold Gam.One; kernel_rfl
theorem sc25 : Scalar Tryz.prog 25 := ⟨_, Tryz.underlying25, by simp, by simp⟩
theorem sc3 : Scalar Tryz.prog 3 := ⟨_, Tryz.underlying3, by simp, by simp⟩
theorem sc35 : Scalar Tryz.prog 35 := ⟨_, Tryz.underlying35, by simp, by simp⟩
theorem sc39 : Scalar Tryz.prog 39 := ⟨_, Tryz.underlying39, by simp, by simp⟩
theorem sl35 : Sl Tryz.prog 35 39 (.slice none 0 0) 24 := sl_of Tryz.underlying35 rfl (by kernel_rfl)
theorem sl39 : Sl Tryz.prog 39 3 (.int .i64 0) 8 := sl_of Tryz.underlying39 rfl (by kernel_rfl)
theorem zv3 : Zv Tryz.prog 3 (.int .i64 0) := zv_of rfl (by kernel_rfl)
end FxFInvC
open FxFInvC

set_option maxRecDepth 100000 in
set_option maxHeartbeats 1000000 in
theorem reduce_ok (B N wb p : Nat) (hp : Prm wb p) (fv : Value) (g cap n m cols : Nat) (bs rc : Nat → Nat) (f : Tb) (w : World) (hI : Inv FDx B w) (hf : Fo FDx B w fv (some (wb, p))) (hO : Gam.Own FDx B N w 39 (.slice (some ⟨g, 0, none⟩) n cap) (some g) (vls n m bs rc)) (hW : Wr FDx B N w.heap.size w n m bs rc f) (hN : N ≤ w.heap.size) (hfb : hp.fld.Bd f) (hcm : cols ≤ m) (hnm : n ≤ 40 ∧ m ≤ 40) : Ret Tryz.prog 52 [fv, .slice (some ⟨g, 0, none⟩) n cap, .int .i64 (cols : Int)] w fun v w' => v = .int .i64 ((hp.fld.rk n f cols : Nat) : Int) ∧ (∃ bs rc, Gam.Own FDx B N w' 39 (.slice (some ⟨g, 0, none⟩) n cap) (some g) (vls n m bs rc) ∧ Wr FDx B N w.heap.size w' n m bs rc (hp.fld.red n f cols).1) ∧ StZ FDx B (fun k => N ≤ k) w w' := by
 refine enter 102 [(0, fv), (1, .slice (some ⟨g, 0, none⟩) n cap), (2, .int .i64 (cols : Int))] 6 Tryz.func52 rfl rfl rfl rfl rfl ?_; intro a hF
 have hS := StZ.refl (Z := fun k => N ≤ k) hI
 have hfw := hp.fld_w
 have h16 : 2 ^ wb ≤ 65536 := by rcases hp.w with h | h <;> rw [h] <;> decide
 obtain ⟨KM, hKM⟩ : ∃ k, k = w.heap.size := ⟨_, rfl⟩
 rw [← hKM] at hW
 have hgK : g < KM := by rw [hKM]; exact (hO.lt _ rfl).2
 refine W_sr rfl (fun K hK => ?_)
 obtain ⟨pf, hpf⟩ : ∃ pf, pf = w.heap.size := ⟨_, rfl⟩
 have hKpf : KM ≤ pf := by omega
 refine s_boxN (D := FDx) (B := B) hF rfl (hf.cells1) (by decide) hS.inv rfl ?_; clear hF a; intro w' a hm hI' hbf hsz hF
 replace hf := hf.mb hm
 replace hO := hO.mb hm (fun _ _ => by simp)
 replace hW := hW.mb0 hm
 replace hS := hS.mb0 hm
 clear hm hI' hsz
 rw [← hpf] at hbf hF
 have hkf := hbf.kc
 clear hbf
 obtain ⟨pa, hpa⟩ : ∃ pf, pf = w'.heap.size := ⟨_, rfl⟩
 have hKpa : KM ≤ pa := by have := hS.ext.size; omega
 refine s_boxN (D := FDx) (B := B) hF rfl (rfl) (by decide) hS.inv rfl ?_; clear hF a; intro w' a hm hI' hba hsz hF
 replace hf := hf.mb hm
 replace hO := hO.mb hm (fun _ _ => by simp)
 replace hW := hW.mb0 hm
 replace hkf := hkf.mb hm (by simp)
 replace hS := hS.mb0 hm
 clear hm hI' hsz
 rw [← hpa] at hba hF
 have hka := hba.kc
 clear hba
 refine sv hF (v_assign rfl) rfl ?_; clear hF a; intro a hF
 refine WL_nil (hK _ _ ?_)
 clear hK K
 replace hF := hF.sub _ (c_ 6 rfl (c_ 4 rfl (c_ 3 rfl (c_ 2 rfl (n_)))))
 refine W_scope ?_
 refine W_sr rfl (fun K hK => ?_)
 obtain ⟨pt, hpt⟩ : ∃ pf, pf = w'.heap.size := ⟨_, rfl⟩
 have hKpt : KM ≤ pt := by have := hS.ext.size; omega
 have hlka := hka.2.1
 have hlkf := hkf.2.1
 have hapt : pa < pt := by rw [hpt]; exact hlka
 have hfpt : pf < pt := by rw [hpt]; exact hlkf
 have hgpf : g ≠ pf := by omega
 have hgpa : g ≠ pa := by omega
 refine s_alloc (D := FDx) (B := B) hF zv3 (by decide) hS.inv rfl ?_; clear hF a; intro w' a hm hI' hbt hsz hF
 replace hf := hf.mb hm
 replace hO := hO.mb hm (fun _ _ => by simp)
 replace hW := hW.mb0 hm
 replace hkf := hkf.mb hm (by simp)
 replace hka := hka.mb hm (by simp)
 replace hS := hS.mb0 hm
 clear hm hI' hsz
 rw [← hpt] at hbt hF
 refine s_stb (D := FDx) (B := B) hF on3 rfl rfl (rfl) hbt hS.inv ?_; intro w' hm hI' hbx'
 replace hf := hf.mb hm
 replace hO := hO.mb hm (fun k e e2 => by cases e; cases e2; exact absurd hgK (by omega))
 replace hW := hW.mbx hm (fun k e => by cases e; omega)
 replace hkf := hkf.mb hm (by simp; omega)
 replace hka := hka.mb hm (by simp; omega)
 replace hS := hS.mb hm (fun k h => by cases h; exact ⟨by omega, _, _, _, hbt.blk⟩)
 replace hbt := hbx'
 clear hm hI' hbx'
 refine WL_nil (hK _ _ ?_)
 clear hK K
 refine W_sr rfl (fun K hK => ?_)
 refine sv hF (v_mkf (cs := [.tmp 3, .tmp 4, .tmp 7]) (vs := [.pointer (some ⟨pf, 0, none⟩), .pointer (some ⟨pa, 0, none⟩), .pointer (some ⟨pt, 0, none⟩)]) rfl) rfl ?_; clear hF a; intro a hF
 refine sv hF (v_assign rfl) rfl ?_; clear hF a; intro a hF
 refine WL_nil (hK _ _ ?_)
 clear hK K
 replace hF := hF.sub _ (c_ 8 rfl (c_ 7 rfl (c_ 6 rfl (c_ 4 rfl (c_ 3 rfl (c_ 2 rfl (n_)))))))
 refine W_seq ?_
 refine W_label ?_
 refine W_seq ?_
 refine W_sr rfl (fun K hK => ?_)
 refine sv2 hF (v_move rfl) (v_move rfl) rfl rfl ?_; clear hF a; intro a hF
 refine WL_nil (hK _ _ ?_)
 clear hK K
 replace hF := hF.sub _ (c_ 19 rfl (c_ 18 rfl (c_ 8 rfl (c_ 7 rfl (c_ 6 rfl (c_ 4 rfl (c_ 3 rfl (n_))))))))
 refine W_block ?_
 refine W_loop (fun q a w1 => ∃ (c : Nat) (bs rc : Nat → Nat), Fr 102 [(3, .pointer (some ⟨pf, 0, none⟩)), (4, .pointer (some ⟨pa, 0, none⟩)), (7, .pointer (some ⟨pt, 0, none⟩)), (8, .func (.func 63) ([] : List Value).toArray ([.pointer (some ⟨pf, 0, none⟩), .pointer (some ⟨pa, 0, none⟩), .pointer (some ⟨pt, 0, none⟩)] : List Value).toArray), (18, .int .i64 (cols : Int)), (19, .int .i64 (c : Int))] a ∧ (StZ FDx B (fun k => N ≤ k) w w1) ∧ (Fo FDx B w1 fv (some (wb, p))) ∧ (KC FDx B w1 ⟨pf, 0, none⟩ (fv)) ∧ (KC FDx B w1 ⟨pa, 0, none⟩ (.slice (some ⟨g, 0, none⟩) n cap)) ∧ (Box FDx B pt w1 pt 3 (.int .i64 ((hp.fld.red n f c).2 : Int))) ∧ (Gam.Own FDx B N w1 39 (.slice (some ⟨g, 0, none⟩) n cap) (some g) (vls n m bs rc)) ∧ (Wr FDx B N KM w1 n m bs rc ((hp.fld.red n f c).1)) ∧ (c ≤ cols) ∧ (q + c = cols)) (cols) ?_ ?_
 ·
  skip
  exact ⟨0, _, _, hF.sub _ (c_ 3 rfl (c_ 4 rfl (c_ 7 rfl (c_ 8 rfl (c_ 18 rfl (c_ 19 rfl (n_))))))), hS, hf, hkf, hka, hbt, hO, hW, by omega, by omega⟩
 ·
  skip
  clear hF
  clear hS hf hkf hka hbt hO hW
  rintro q a w1 ⟨c, bs, rc, hF, hS, hf, hkf, hka, hbt, hO, hW, hc, hq⟩
  refine W_sr rfl (fun K hK => ?_)
  refine sv hF (v_lss rfl rfl) rfl ?_; clear hF a; intro a hF
  refine WL_nil (hK _ _ ?_)
  clear hK K
  refine W_seq ?_
  refine W_if hF rfl (fun hc1 => ?_) (fun hc1 => ?_)
  ·
   skip
   try simp only [dcl] at hc1
   obtain ⟨f1, hf1⟩ : ∃ x, x = (hp.fld.red n f c).1 := ⟨_, rfl⟩
   obtain ⟨t, ht1⟩ : ∃ x, x = (hp.fld.red n f c).2 := ⟨_, rfl⟩
   have hRd := hp.fld.red_ok (n := n) hfb c
   rw [← hf1, ← ht1] at hRd
   rw [← hf1] at hW
   rw [← ht1] at hbt
   have hb1 := hRd.bd
   have htn := hRd.tn
   clear hRd
   have hcl : c < m := by omega
   refine W_skip ?_
   refine W_seq ?_
   refine W_block ?_
   refine W_sr rfl (fun K hK => ?_)
   refine sv hF (v_move rfl) rfl ?_; clear hF a; intro a hF
   obtain ⟨pc, hpc⟩ : ∃ pf, pf = w1.heap.size := ⟨_, rfl⟩
   have hKpc : KM ≤ pc := by have := hS.ext.size; omega
   have hapc : pa < pc := by rw [hpc]; exact hka.2.1
   have hfpc : pf < pc := by rw [hpc]; exact hkf.2.1
   have htpc : pt < pc := by rw [hpc]; exact hbt.kc.2.1
   refine s_alloc (D := FDx) (B := B) hF zv3 (by decide) hS.inv rfl ?_; clear hF a; intro w' a hm hI' hbc hsz hF
   replace hf := hf.mb hm
   replace hkf := hkf.mb hm (by simp)
   replace hka := hka.mb hm (by simp)
   replace hbt := hbt.mb hm (by simp)
   replace hO := hO.mb hm (fun _ _ => by simp)
   replace hW := hW.mb0 hm
   replace hS := hS.mb0 hm
   clear hm hI' hsz
   rw [← hpc] at hbc hF
   refine s_stb (D := FDx) (B := B) hF on3 rfl rfl (rfl) hbc hS.inv ?_; intro w' hm hI' hbx'
   replace hf := hf.mb hm
   replace hkf := hkf.mb hm (by simp; omega)
   replace hka := hka.mb hm (by simp; omega)
   replace hbt := hbt.mb hm (by simp; omega)
   replace hO := hO.mb hm (fun k e e2 => by cases e; cases e2; exact absurd hgK (by omega))
   replace hW := hW.mbx hm (fun k e => by cases e; omega)
   replace hS := hS.mb hm (fun k h => by cases h; exact ⟨by omega, _, _, _, hbc.blk⟩)
   replace hbc := hbx'
   clear hm hI' hbx'
   refine WL_nil (hK _ _ ?_)
   clear hK K
   replace hF := hF.sub _ (c_ 9 rfl (c_ 3 rfl (c_ 4 rfl (c_ 7 rfl (c_ 8 rfl (c_ 18 rfl (c_ 19 rfl (n_))))))))
   refine W_seq ?_
   refine W_sr rfl (fun K hK => ?_)
   refine sv hF (v_load sc3 rfl (hbt.at)) rfl ?_; clear hF a; intro a hF
   refine sv hF (v_load sc35 rfl (hka.c)) rfl ?_; clear hF a; intro a hF
   refine sv hF (v_lenS rfl sl35 rfl) rfl ?_; clear hF a; intro a hF
   refine sv hF (v_eql rfl rfl) rfl ?_; clear hF a; intro a hF
   refine WL_nil (hK _ _ ?_)
   clear hK K
   replace hF := hF.sub _ (c_ 25 rfl (c_ 9 rfl (c_ 3 rfl (c_ 4 rfl (c_ 7 rfl (c_ 8 rfl (c_ 18 rfl (c_ 19 rfl (n_)))))))))
   refine W_if hF rfl (fun hc2 => ?_) (fun hc2 => ?_)
   ·
    skip
    try simp only [dcl] at hc2
    refine W_exit rfl ?_
    refine W_sr rfl (fun K hK => ?_)
    refine sv hF (v_load sc3 rfl (by first | assumption | (rw [toNat_c]; assumption) | exact KC.c (by assumption) | (rw [toNat_c]; exact KC.c (by assumption)) | exact Box.at (by assumption))) rfl ?_; clear hF a; intro a hF
    refine sv hF (v_assign rfl) rfl ?_; clear hF a; intro a hF
    refine WL_nil (hK _ _ ?_)
    clear hK K
    replace hF := hF.sub _ (c_ 6 rfl (c_ 101 rfl (c_ 3 rfl (c_ 4 rfl (c_ 7 rfl (c_ 8 rfl (c_ 18 rfl (c_ 19 rfl (n_)))))))))
    refine W_ret ?_
    refine ⟨_, _, hF, rfl, ?_⟩
    have hfull := hp.fld.red_full (n := n) (f := f) (c := c) (by rw [← ht1]; omega) (cols - c)
    rw [show c + (cols - c) = cols by omega] at hfull
    exact ⟨by unfold Fld.rk; rw [hfull, ← ht1], ⟨bs, rc, hO, by rw [← hKM, hfull, ← hf1]; exact hW⟩, hS⟩
   ·
    skip
    try simp only [dcl] at hc2
    refine W_skip ?_
    have hcapn := (hO.row (by decide)).capd
    have ht : t < n := by omega
    have hdl : ((tab n m f1).drop t).length = n - t := by rw [List.length_drop, tab_length]
    refine W_sd (m := 8) rfl hmix hS.inv (fun K hK w1 hS' hh => ?_)
    replace hf := hf.st hS'
    replace hkf := hkf.st hS'
    replace hka := hka.st hS'
    replace hbt := hbt.st hS'
    replace hO := hO.st (by decide) hS'
    replace hW := hW.st hS'
    replace hbc := hbc.st hS'
    replace hS := hS.trans hS'
    clear hS'
    clear hh
    refine a_v (i := 0) rfl (by kernel_rfl) hF (fun w2 hx => v_load sc3 rfl (hbt.kc.ld hx)) rfl ?_; clear hF a; intro a hF
    refine a_v (i := 1) rfl (by kernel_rfl) hF (fun w2 hx => v_load sc35 rfl (hka.ld hx)) rfl ?_; clear hF a; intro a hF
    refine a_v (i := 2) rfl (by kernel_rfl) hF (fun w2 hx => v_load sc3 rfl (hbt.kc.ld hx)) rfl ?_; clear hF a; intro a hF
    refine a_v (i := 3) rfl (by kernel_rfl) hF (fun w2 hx => v_slLo sl35 rfl rfl (by omega) (by omega)) rfl ?_; clear hF a; intro a hF
    rw [← hdl] at hF
    refine a_v (i := 4) rfl (by kernel_rfl) hF (fun w2 hx => v_mkf (cs := [.tmp 9]) (vs := [.pointer (some ⟨pc, 0, none⟩)]) rfl) rfl ?_; clear hF a; intro a hF
    have hcap := hO.kc (by decide) (vls_at ht)
    have hMt := (hW.mat (gb := g) hO (by decide)).from (lo := t) (b := (tab n m f1).drop t) (by rw [tab_length]; omega) rfl
    refine a_e (i := 5) rfl (by kernel_rfl) ?_
    refine sc hF rfl rfl rfl en47 rfl (IdxR_ok B _ 64 [.pointer (some ⟨pc, 0, none⟩)] (fun r => decide (r.getD c 0 ≠ 0)) _ _ _ _ hS.inv hMt (by rw [hdl]; exact Nat.le_trans (show _ ≤ 1000 by omega) (by decide)) (ent Tryz.func64 (by kernel_rfl) (by kernel_rfl)) (fun r hr pr cr w3 hs hrow => red2_ok B _ pc c pr cr r w3 hs.inv hrow (hbc.kc.st hs) (by rw [tab_mem hr]; exact hcl) (by omega))) ?_; clear hF a; intro v w' a hv hF
    obtain ⟨rfl, hS'⟩ := hv
    refine WL_nil ⟨hS'.ext, ?_⟩
    replace hf := hf.st hS'
    replace hkf := hkf.st hS'
    replace hka := hka.st hS'
    replace hbt := hbt.st hS'
    replace hO := hO.st (by decide) hS'
    replace hW := hW.st hS'
    replace hbc := hbc.st hS'
    replace hS := hS.trans hS'
    clear hS'
    clear hMt hcap
    have hidx := piv_idx (n := n) (f := f1) (t := t) hcl htn (p := fun r => decide (r.getD c 0 ≠ 0)) (fun r => rfl)
    have hib : -1 ≤ idxZ (fun r => decide (r.getD c 0 ≠ 0)) ((tab n m f1).drop t) ∧ idxZ (fun r => decide (r.getD c 0 ≠ 0)) ((tab n m f1).drop t) ≤ 40 := by rcases hidx with ⟨h, _⟩ | ⟨k, _, _, _, h⟩ <;> omega
    refine a_v (i := 6) rfl (by kernel_rfl) hF (fun w2 hx => v_addI rfl rfl (by omega)) rfl ?_; clear hF a; intro a hF
    refine a_v (i := 7) rfl (by kernel_rfl) hF (fun w2 hx => v_assign rfl) rfl ?_; clear hF a; intro a hF
    refine a_done (by kernel_rfl) (hK _ _ ?_)
    clear hK K
    replace hF := hF.sub _ (c_ 10 rfl (c_ 9 rfl (c_ 3 rfl (c_ 4 rfl (c_ 7 rfl (c_ 8 rfl (c_ 18 rfl (c_ 19 rfl (n_)))))))))
    refine W_seq ?_
    refine W_sr rfl (fun K hK => ?_)
    refine sv hF (v_move rfl) rfl ?_; clear hF a; intro a hF
    refine sv hF (v_load sc3 rfl (hbt.at)) rfl ?_; clear hF a; intro a hF
    refine sv hF (v_lss rfl rfl) rfl ?_; clear hF a; intro a hF
    refine WL_nil (hK _ _ ?_)
    clear hK K
    replace hF := hF.sub _ (c_ 35 rfl (c_ 10 rfl (c_ 9 rfl (c_ 3 rfl (c_ 4 rfl (c_ 7 rfl (c_ 8 rfl (c_ 18 rfl (c_ 19 rfl (n_))))))))))
    refine W_if hF rfl (fun hc3 => ?_) (fun hc3 => ?_)
    ·
     skip
     try simp only [dcl] at hc3
     have hpn : Fld.piv f1 n c t (n - t) = none := by
      rcases hidx with ⟨_, h⟩ | ⟨k, _, _, _, h⟩
      ·
       exact h
      ·
       exfalso; omega
     have hrd := hp.fld.red_none hf1.symm ht1.symm hpn
     have hrd1 : (hp.fld.red n f (c + 1)).1 = f1 := by rw [hrd]
     have hrd2 : (hp.fld.red n f (c + 1)).2 = t := by rw [hrd]
     clear hidx hib
     rw [← hrd1] at hW
     rw [← hrd2] at hbt
     clear hbc
     refine W_exit rfl ?_
     refine W_reg rfl (fun K hK => ?_)
     refine sv hF (v_addI rfl rfl (by omega)) rfl ?_; clear hF a; intro a hF
     refine sv hF (v_move rfl) rfl ?_; clear hF a; intro a hF
     refine WL_nil (hK _ _ ?_)
     clear hK K
     replace hF := hF.sub _ (c_ 19 rfl (c_ 100 rfl (c_ 3 rfl (c_ 4 rfl (c_ 7 rfl (c_ 8 rfl (c_ 18 rfl (n_))))))))
     exact ⟨q - 1, by omega, c + 1, _, _, hF.sub _ (c_ 3 rfl (c_ 4 rfl (c_ 7 rfl (c_ 8 rfl (c_ 18 rfl (c_ 19 rfl (n_))))))), hS, hf, hkf, hka, hbt, hO, hW, by omega, by omega⟩
    ·
     skip
     try simp only [dcl] at hc3
     obtain ⟨k, hpk, htk, hkn, hik⟩ : ∃ k, Fld.piv f1 n c t (n - t) = some k ∧ t ≤ k ∧ k < n ∧ idxZ (fun r => decide (r.getD c 0 ≠ 0)) ((tab n m f1).drop t) = (k : Int) - (t : Int) := by
      rcases hidx with ⟨h, _⟩ | h
      ·
       exfalso; omega
      ·
       exact h
     rw [hik, show (t : Int) + ((k : Int) - (t : Int)) = (k : Int) by omega] at hF
     clear hidx hib hik
     obtain ⟨-, -, hk0, -⟩ := Fld.piv_some hpk
     have hswt : Fld.sw t k t = k := by unfold Fld.sw; rw [if_pos rfl]
     refine W_skip ?_
     refine W_cut (fun a w1 => Fr 102 [(3, .pointer (some ⟨pf, 0, none⟩)), (4, .pointer (some ⟨pa, 0, none⟩)), (7, .pointer (some ⟨pt, 0, none⟩)), (8, .func (.func 63) ([] : List Value).toArray ([.pointer (some ⟨pf, 0, none⟩), .pointer (some ⟨pa, 0, none⟩), .pointer (some ⟨pt, 0, none⟩)] : List Value).toArray), (18, .int .i64 (cols : Int)), (19, .int .i64 (c : Int)), (9, .pointer (some ⟨pc, 0, none⟩)), (10, .int .i64 (k : Int))] a ∧ (StZ FDx B (fun k => N ≤ k) w w1) ∧ (Fo FDx B w1 fv (some (wb, p))) ∧ (KC FDx B w1 ⟨pf, 0, none⟩ (fv)) ∧ (KC FDx B w1 ⟨pa, 0, none⟩ (.slice (some ⟨g, 0, none⟩) n cap)) ∧ (Box FDx B pt w1 pt 3 (.int .i64 (t : Int))) ∧ (Box FDx B pc w1 pc 3 (.int .i64 (c : Int))) ∧ (Gam.Own FDx B N w1 39 (.slice (some ⟨g, 0, none⟩) n cap) (some g) (vls n m (fun i => bs (Fld.sw t k i)) (fun i => rc (Fld.sw t k i)))) ∧ (Wr FDx B N KM w1 n m (fun i => bs (Fld.sw t k i)) (fun i => rc (Fld.sw t k i)) (fun i j => f1 (Fld.sw t k i) j))) ?_ ?_
     ·
      skip
      refine W_dS (fun (w2 : World) => w2.cell? ⟨pa, 0, none⟩ = some (.slice (some ⟨g, 0, none⟩) n cap) ∧ w2.cell? ⟨pt, 0, none⟩ = some (.int .i64 (t : Int))) (m := 16) rfl hmix (fun K hK => ?_)
      have hS' := St.drew hS.inv
      replace hf := hf.st hS'
      replace hkf := hkf.st hS'
      replace hka := hka.st hS'
      replace hbt := hbt.st hS'
      replace hO := hO.st (by decide) hS'
      replace hW := hW.st hS'
      replace hbc := hbc.st hS'
      replace hS := hS.trans hS'
      clear hS'
      have hSS : (fun (w2 : World) => w2.cell? ⟨pa, 0, none⟩ = some (.slice (some ⟨g, 0, none⟩) n cap) ∧ w2.cell? ⟨pt, 0, none⟩ = some (.int .i64 (t : Int))) _ := And.intro hka.c hbt.at
      refine b_v (i := 0) rfl (by kernel_rfl) hF (fun w2 hx => v_load sc35 rfl (hx.1)) rfl hSS ?_; clear hF a; intro a hF
      refine b_v (i := 1) rfl (by kernel_rfl) hF (fun w2 hx => v_load sc3 rfl (hx.2)) rfl hSS ?_; clear hF a; intro a hF
      refine b_v (i := 2) rfl (by kernel_rfl) hF (fun w2 hx => v_load sc35 rfl (hx.1)) rfl hSS ?_; clear hF a; intro a hF
      refine b_v (i := 3) rfl (by kernel_rfl) hF (fun w2 hx => v_move rfl) rfl hSS ?_; clear hF a; intro a hF
      refine b_v (i := 4) rfl (by kernel_rfl) hF (fun w2 hx => v_load sc35 rfl (hx.1)) rfl hSS ?_; clear hF a; intro a hF
      refine b_v (i := 5) rfl (by kernel_rfl) hF (fun w2 hx => v_move rfl) rfl hSS ?_; clear hF a; intro a hF
      refine b_v (i := 6) rfl (by kernel_rfl) hF (fun w2 hx => v_ixS sl35 rfl rfl (by omega) (by omega)) rfl hSS ?_; clear hF a; intro a hF
      refine b_v (i := 8) rfl (by kernel_rfl) hF (fun w2 hx => v_load sc35 rfl (hx.1)) rfl hSS ?_; clear hF a; intro a hF
      refine b_v (i := 9) rfl (by kernel_rfl) hF (fun w2 hx => v_load sc3 rfl (hx.2)) rfl hSS ?_; clear hF a; intro a hF
      refine b_v (i := 10) rfl (by kernel_rfl) hF (fun w2 hx => v_ixS sl35 rfl rfl (by omega) (by omega)) rfl hSS ?_; clear hF a; intro a hF
      refine b_e2 (i := 7) (i' := 11) (by kernel_rfl) rfl rfl ?_ ?_
      ·
       skip
       refine sv hF (v_load sc39 rfl (by rw [toNat_c]; exact (hO.kc (by decide) (vls_at hkn)).c)) rfl ?_; clear hF a; intro a hF
       refine WL_nil ⟨hSS, ?_⟩
       refine b_e (i := 11) (by kernel_rfl) rfl ?_
       refine sv hF (v_load sc39 rfl (by rw [toNat_c]; exact (hO.kc (by decide) (vls_at ht)).c)) rfl ?_; clear hF a; intro a hF
       refine WL_nil ⟨hSS, ?_⟩
       refine b_v (i := 12) rfl (by kernel_rfl) hF (fun w2 hx => v_ixS sl35 rfl rfl (by omega) (by omega)) rfl hSS ?_; clear hF a; intro a hF
       refine b_e (i := 13) (by kernel_rfl) rfl ?_
       refine s_set (D := FDx) (B := B) hF on39 rfl (by rw [toNat_c, vls_length]; omega) rfl rfl hO (by decide) hS.inv ?_; intro w' hm hI' ho'
       replace hf := hf.mb hm
       replace hkf := hkf.mb hm (fun e => hgpf (Option.some.inj e))
       replace hka := hka.mb hm (fun e => hgpa (Option.some.inj e))
       replace hbt := hbt.mb hm (hbt.ne_own hO (by decide))
       replace hW := hW.mbo hm hO (by decide)
       replace hbc := hbc.mb hm (hbc.ne_own hO (by decide))
       replace hS := hS.mb hm (fun k e => ⟨(hO.lt k e).1, hO.isrow k e⟩)
       replace hO := ho'
       clear hm hI' ho'
       clear hSS
       have hSS : (fun (w2 : World) => w2.cell? ⟨pa, 0, none⟩ = some (.slice (some ⟨g, 0, none⟩) n cap) ∧ w2.cell? ⟨pt, 0, none⟩ = some (.int .i64 (t : Int))) _ := And.intro hka.c hbt.at
       refine WL_nil ⟨hSS, ?_⟩
       refine b_v (i := 14) rfl (by kernel_rfl) hF (fun w2 hx => v_ixS sl35 rfl rfl (by omega) (by omega)) rfl hSS ?_; clear hF a; intro a hF
       refine b_e (i := 15) (by kernel_rfl) rfl ?_
       refine s_set (D := FDx) (B := B) hF on39 rfl (by rw [toNat_c, List.length_set, vls_length]; omega) rfl rfl hO (by decide) hS.inv ?_; intro w' hm hI' ho'
       replace hf := hf.mb hm
       replace hkf := hkf.mb hm (fun e => hgpf (Option.some.inj e))
       replace hka := hka.mb hm (fun e => hgpa (Option.some.inj e))
       replace hbt := hbt.mb hm (hbt.ne_own hO (by decide))
       replace hW := hW.mbo hm hO (by decide)
       replace hbc := hbc.mb hm (hbc.ne_own hO (by decide))
       replace hS := hS.mb hm (fun k e => ⟨(hO.lt k e).1, hO.isrow k e⟩)
       replace hO := ho'
       clear hm hI' ho'
       clear hSS
       have hSS : (fun (w2 : World) => w2.cell? ⟨pa, 0, none⟩ = some (.slice (some ⟨g, 0, none⟩) n cap) ∧ w2.cell? ⟨pt, 0, none⟩ = some (.int .i64 (t : Int))) _ := And.intro hka.c hbt.at
       refine WL_nil ⟨hSS, ?_⟩
       refine b_done (by kernel_rfl) (hK _ _ ?_)
       clear hK K
       replace hF := hF.sub _ (c_ 10 rfl (c_ 9 rfl (c_ 3 rfl (c_ 4 rfl (c_ 7 rfl (c_ 8 rfl (c_ 18 rfl (c_ 19 rfl (n_)))))))))
       exact ⟨hF.sub _ (c_ 3 rfl (c_ 4 rfl (c_ 7 rfl (c_ 8 rfl (c_ 18 rfl (c_ 19 rfl (c_ 9 rfl (c_ 10 rfl (n_))))))))), hS, hf, hkf, hka, hbt, hbc, hO.cast (by rw [toNat_c, toNat_c, Nat.zero_add, Nat.zero_add]; exact vls_sw ht hkn), hW.sw ht hkn⟩
      ·
       skip
       refine sv hF (v_load sc39 rfl (by rw [toNat_c]; exact (hO.kc (by decide) (vls_at ht)).c)) rfl ?_; clear hF a; intro a hF
       refine WL_nil ⟨hSS, ?_⟩
       refine b_e (i := 7) (by kernel_rfl) rfl ?_
       refine sv hF (v_load sc39 rfl (by rw [toNat_c]; exact (hO.kc (by decide) (vls_at hkn)).c)) rfl ?_; clear hF a; intro a hF
       refine WL_nil ⟨hSS, ?_⟩
       refine b_v (i := 12) rfl (by kernel_rfl) hF (fun w2 hx => v_ixS sl35 rfl rfl (by omega) (by omega)) rfl hSS ?_; clear hF a; intro a hF
       refine b_e (i := 13) (by kernel_rfl) rfl ?_
       refine s_set (D := FDx) (B := B) hF on39 rfl (by rw [toNat_c, vls_length]; omega) rfl rfl hO (by decide) hS.inv ?_; intro w' hm hI' ho'
       replace hf := hf.mb hm
       replace hkf := hkf.mb hm (fun e => hgpf (Option.some.inj e))
       replace hka := hka.mb hm (fun e => hgpa (Option.some.inj e))
       replace hbt := hbt.mb hm (hbt.ne_own hO (by decide))
       replace hW := hW.mbo hm hO (by decide)
       replace hbc := hbc.mb hm (hbc.ne_own hO (by decide))
       replace hS := hS.mb hm (fun k e => ⟨(hO.lt k e).1, hO.isrow k e⟩)
       replace hO := ho'
       clear hm hI' ho'
       clear hSS
       have hSS : (fun (w2 : World) => w2.cell? ⟨pa, 0, none⟩ = some (.slice (some ⟨g, 0, none⟩) n cap) ∧ w2.cell? ⟨pt, 0, none⟩ = some (.int .i64 (t : Int))) _ := And.intro hka.c hbt.at
       refine WL_nil ⟨hSS, ?_⟩
       refine b_v (i := 14) rfl (by kernel_rfl) hF (fun w2 hx => v_ixS sl35 rfl rfl (by omega) (by omega)) rfl hSS ?_; clear hF a; intro a hF
       refine b_e (i := 15) (by kernel_rfl) rfl ?_
       refine s_set (D := FDx) (B := B) hF on39 rfl (by rw [toNat_c, List.length_set, vls_length]; omega) rfl rfl hO (by decide) hS.inv ?_; intro w' hm hI' ho'
       replace hf := hf.mb hm
       replace hkf := hkf.mb hm (fun e => hgpf (Option.some.inj e))
       replace hka := hka.mb hm (fun e => hgpa (Option.some.inj e))
       replace hbt := hbt.mb hm (hbt.ne_own hO (by decide))
       replace hW := hW.mbo hm hO (by decide)
       replace hbc := hbc.mb hm (hbc.ne_own hO (by decide))
       replace hS := hS.mb hm (fun k e => ⟨(hO.lt k e).1, hO.isrow k e⟩)
       replace hO := ho'
       clear hm hI' ho'
       clear hSS
       have hSS : (fun (w2 : World) => w2.cell? ⟨pa, 0, none⟩ = some (.slice (some ⟨g, 0, none⟩) n cap) ∧ w2.cell? ⟨pt, 0, none⟩ = some (.int .i64 (t : Int))) _ := And.intro hka.c hbt.at
       refine WL_nil ⟨hSS, ?_⟩
       refine b_done (by kernel_rfl) (hK _ _ ?_)
       clear hK K
       replace hF := hF.sub _ (c_ 10 rfl (c_ 9 rfl (c_ 3 rfl (c_ 4 rfl (c_ 7 rfl (c_ 8 rfl (c_ 18 rfl (c_ 19 rfl (n_)))))))))
       exact ⟨hF.sub _ (c_ 3 rfl (c_ 4 rfl (c_ 7 rfl (c_ 8 rfl (c_ 18 rfl (c_ 19 rfl (c_ 9 rfl (c_ 10 rfl (n_))))))))), hS, hf, hkf, hka, hbt, hbc, hO.cast (by rw [toNat_c, toNat_c, Nat.zero_add, Nat.zero_add]; exact vls_sw ht hkn), hW.sw ht hkn⟩
     ·
      skip
      clear hF
      clear hS hf hkf hka hbt hbc hO hW
      rintro a w1 ⟨hF, hS, hf, hkf, hka, hbt, hbc, hO, hW⟩
      refine W_sd (m := 14) rfl hmix hS.inv (fun K hK w1 hS' hh => ?_)
      replace hf := hf.st hS'
      replace hkf := hkf.st hS'
      replace hka := hka.st hS'
      replace hbt := hbt.st hS'
      replace hO := hO.st (by decide) hS'
      replace hW := hW.st hS'
      replace hbc := hbc.st hS'
      replace hS := hS.trans hS'
      clear hS'
      clear hh
      refine a_v (i := 0) rfl (by kernel_rfl) hF (fun w2 hx => v_load sc25 rfl (hkf.ld hx)) rfl ?_; clear hF a; intro a hF
      refine a_v (i := 1) rfl (by kernel_rfl) hF (fun w2 hx => v_load sc35 rfl (hka.ld hx)) rfl ?_; clear hF a; intro a hF
      refine a_v (i := 2) rfl (by kernel_rfl) hF (fun w2 hx => v_load sc3 rfl (hbt.kc.ld hx)) rfl ?_; clear hF a; intro a hF
      refine a_v (i := 3) rfl (by kernel_rfl) hF (fun w2 hx => v_ixS sl35 rfl rfl (by omega) (by omega)) rfl ?_; clear hF a; intro a hF
      refine a_v (i := 4) rfl (by kernel_rfl) hF (fun w2 hx => v_load sc39 rfl (by rw [toNat_c]; exact (hO.kc (by decide) (vls_at ht)).ld hx)) rfl ?_; clear hF a; intro a hF
      rw [hswt] at hF
      refine a_v (i := 5) rfl (by kernel_rfl) hF (fun w2 hx => v_load sc3 rfl (hbc.kc.ld hx)) rfl ?_; clear hF a; intro a hF
      refine a_v (i := 6) rfl (by kernel_rfl) hF (fun w2 hx => v_ixS sl39 rfl rfl (by omega) (by omega)) rfl ?_; clear hF a; intro a hF
      have hrk := hW.rd ht hcl
      rw [hswt] at hrk
      refine a_v (i := 7) rfl (by kernel_rfl) hF (fun w2 hx => v_load sc3 rfl (by rw [toNat_c]; exact hrk.ld hx)) rfl ?_; clear hF a; intro a hF
      refine a_e (i := 8) rfl (by kernel_rfl) ?_
      refine sc hF rfl rfl rfl en27 rfl (Inv_gf B (some (wb, p)) fv ((f1 k c : Nat) : Int) _ hS.inv hf) ?_; clear hF a; intro v w' a hv hF
      obtain ⟨rfl, hS'⟩ := hv
      refine WL_nil ⟨hS'.ext, ?_⟩
      replace hf := hf.st hS'
      replace hkf := hkf.st hS'
      replace hka := hka.st hS'
      replace hbt := hbt.st hS'
      replace hO := hO.st (by decide) hS'
      replace hW := hW.st hS'
      replace hbc := hbc.st hS'
      replace hS := hS.trans hS'
      clear hS'
      clear hrk
      have hkb := hb1 k c
      rw [hfw] at hkb
      rw [ginv_fld hp hkb hk0] at hF
      refine a_v (i := 9) rfl (by kernel_rfl) hF (fun w2 hx => v_move rfl) rfl ?_; clear hF a; intro a hF
      refine a_v (i := 10) rfl (by kernel_rfl) hF (fun w2 hx => v_ext rfl rfl) rfl ?_; clear hF a; intro a hF
      refine a_v (i := 11) rfl (by kernel_rfl) hF (fun w2 hx => v_ext rfl rfl) rfl ?_; clear hF a; intro a hF
      refine a_v (i := 12) rfl (by kernel_rfl) hF (fun w2 hx => v_assign rfl) rfl ?_; clear hF a; intro a hF
      refine a_v (i := 13) rfl (by kernel_rfl) hF (fun w2 hx => v_assign rfl) rfl ?_; clear hF a; intro a hF
      refine a_done (by kernel_rfl) (hK _ _ ?_)
      clear hK K
      replace hF := hF.sub _ (c_ 11 rfl (c_ 3 rfl (c_ 4 rfl (c_ 7 rfl (c_ 8 rfl (c_ 18 rfl (c_ 19 rfl (c_ 9 rfl (n_)))))))))
      refine W_seq ?_
      refine W_sr rfl (fun K hK => ?_)
      refine sv hF (v_load sc35 rfl (hka.c)) rfl ?_; clear hF a; intro a hF
      refine sv hF (v_load sc3 rfl (hbt.at)) rfl ?_; clear hF a; intro a hF
      refine sv hF (v_ixS sl35 rfl rfl (by omega) (by omega)) rfl ?_; clear hF a; intro a hF
      refine sv hF (v_load sc39 rfl (by rw [toNat_c]; exact (hO.kc (by decide) (vls_at ht)).c)) rfl ?_; clear hF a; intro a hF
      rw [hswt] at hF
      refine sv hF (v_lenS rfl sl39 rfl) rfl ?_; clear hF a; intro a hF
      refine sv hF (v_move rfl) rfl ?_; clear hF a; intro a hF
      refine WL_nil (hK _ _ ?_)
      clear hK K
      replace hF := hF.sub _ (c_ 67 rfl (c_ 66 rfl (c_ 65 rfl (c_ 11 rfl (c_ 3 rfl (c_ 4 rfl (c_ 7 rfl (c_ 8 rfl (c_ 18 rfl (c_ 19 rfl (c_ 9 rfl (n_))))))))))))
      refine W_block ?_
      refine W_loop (fun q2 a w3 => ∃ (j : Nat), Fr 102 [(3, .pointer (some ⟨pf, 0, none⟩)), (4, .pointer (some ⟨pa, 0, none⟩)), (7, .pointer (some ⟨pt, 0, none⟩)), (8, .func (.func 63) ([] : List Value).toArray ([.pointer (some ⟨pf, 0, none⟩), .pointer (some ⟨pa, 0, none⟩), .pointer (some ⟨pt, 0, none⟩)] : List Value).toArray), (18, .int .i64 (cols : Int)), (19, .int .i64 (c : Int)), (9, .pointer (some ⟨pc, 0, none⟩)), (11, .int .i64 ((hp.fld.inv (f1 k c) : Nat) : Int)), (65, .slice (some ⟨bs k, 0, none⟩) m (rc k)), (66, .int .i64 (m : Int)), (67, .int .i64 (j : Int))] a ∧ (StZ FDx B (fun k => N ≤ k) w w3) ∧ (Fo FDx B w3 fv (some (wb, p))) ∧ (KC FDx B w3 ⟨pf, 0, none⟩ (fv)) ∧ (KC FDx B w3 ⟨pa, 0, none⟩ (.slice (some ⟨g, 0, none⟩) n cap)) ∧ (Box FDx B pt w3 pt 3 (.int .i64 (t : Int))) ∧ (Box FDx B pc w3 pc 3 (.int .i64 (c : Int))) ∧ (Gam.Own FDx B N w3 39 (.slice (some ⟨g, 0, none⟩) n cap) (some g) (vls n m (fun i => bs (Fld.sw t k i)) (fun i => rc (Fld.sw t k i)))) ∧ (Wr FDx B N KM w3 n m (fun i => bs (Fld.sw t k i)) (fun i => rc (Fld.sw t k i)) (hp.fld.sclF t (hp.fld.inv (f1 k c)) j (fun i j => f1 (Fld.sw t k i) j))) ∧ (j ≤ m) ∧ (q2 + j = m)) (m) ?_ ?_
      ·
       skip
       exact ⟨0, hF.sub _ (c_ 3 rfl (c_ 4 rfl (c_ 7 rfl (c_ 8 rfl (c_ 18 rfl (c_ 19 rfl (c_ 9 rfl (c_ 11 rfl (c_ 65 rfl (c_ 66 rfl (c_ 67 rfl (n_)))))))))))), hS, hf, hkf, hka, hbt, hbc, hO, hW.congr (fun a _ l _ => by unfold Fld.sclF; rw [if_neg (by omega)]), by omega, by omega⟩
      ·
       skip
       clear hF
       clear hS hf hkf hka hbt hbc hO hW
       rintro q2 a w3 ⟨j, hF, hS, hf, hkf, hka, hbt, hbc, hO, hW, hj, hq2⟩
       refine W_sr rfl (fun K hK => ?_)
       refine sv hF (v_lss rfl rfl) rfl ?_; clear hF a; intro a hF
       refine WL_nil (hK _ _ ?_)
       clear hK K
       refine W_seq ?_
       refine W_if hF rfl (fun hc4 => ?_) (fun hc4 => ?_)
       ·
        skip
        try simp only [dcl] at hc4
        have hlt : j < m := by omega
        have hrk := hW.rd ht hlt
        rw [hswt] at hrk
        have hbs := hp.fld.sclF_bd (t := t) (s := hp.fld.inv (f1 k c)) (J := j) (f := fun i j => f1 (Fld.sw t k i) j) (fun a b => hb1 _ b)
        have hbj := hbs t j
        have hbi := hp.fld.inv_lt (f1 k c)
        have hbm := hp.fld.lt (((hp.fld.sclF t (hp.fld.inv (f1 k c)) j (fun i j => f1 (Fld.sw t k i) j)) t j)) (hp.fld.inv (f1 k c))
        rw [hfw] at hbj hbi hbm
        refine W_skip ?_
        refine W_seq ?_
        refine W_block ?_
        refine W_sr rfl (fun K hK => ?_)
        refine sv hF (v_move rfl) rfl ?_; clear hF a; intro a hF
        refine sv hF (v_ixS sl39 rfl rfl (by omega) (by omega)) rfl ?_; clear hF a; intro a hF
        refine sv hF (v_load sc3 rfl (by rw [toNat_c]; exact hrk.c)) rfl ?_; clear hF a; intro a hF
        refine sv2 hF (v_assign rfl) (v_assign rfl) rfl rfl ?_; clear hF a; intro a hF
        refine WL_nil (hK _ _ ?_)
        clear hK K
        replace hF := hF.sub _ (c_ 14 rfl (c_ 13 rfl (c_ 3 rfl (c_ 4 rfl (c_ 7 rfl (c_ 8 rfl (c_ 18 rfl (c_ 19 rfl (c_ 9 rfl (c_ 11 rfl (c_ 65 rfl (c_ 66 rfl (c_ 67 rfl (n_))))))))))))))
        clear hrk
        have hct := (hO.kc (by decide) (vls_at ht)).c
        rw [hswt] at hct
        refine W_dS (fun (w2 : World) => w2.cell? ⟨pf, 0, none⟩ = some (fv) ∧ w2.cell? ⟨pa, 0, none⟩ = some (.slice (some ⟨g, 0, none⟩) n cap) ∧ w2.cell? ⟨pt, 0, none⟩ = some (.int .i64 (t : Int)) ∧ w2.cell? ⟨g, 0 + t, none⟩ = some (.slice (some ⟨bs k, 0, none⟩) m (rc k))) (m := 11) rfl hmix (fun K hK => ?_)
        have hS' := St.drew hS.inv
        replace hf := hf.st hS'
        replace hkf := hkf.st hS'
        replace hka := hka.st hS'
        replace hbt := hbt.st hS'
        replace hO := hO.st (by decide) hS'
        replace hW := hW.st hS'
        replace hbc := hbc.st hS'
        replace hS := hS.trans hS'
        clear hS'
        have hSS : (fun (w2 : World) => w2.cell? ⟨pf, 0, none⟩ = some (fv) ∧ w2.cell? ⟨pa, 0, none⟩ = some (.slice (some ⟨g, 0, none⟩) n cap) ∧ w2.cell? ⟨pt, 0, none⟩ = some (.int .i64 (t : Int)) ∧ w2.cell? ⟨g, 0 + t, none⟩ = some (.slice (some ⟨bs k, 0, none⟩) m (rc k))) _ := And.intro hkf.c (And.intro hka.c (And.intro hbt.at hct))
        refine b_v (i := 0) rfl (by kernel_rfl) hF (fun w2 hx => v_load sc35 rfl (hx.2.1)) rfl hSS ?_; clear hF a; intro a hF
        refine b_v (i := 1) rfl (by kernel_rfl) hF (fun w2 hx => v_load sc3 rfl (hx.2.2.1)) rfl hSS ?_; clear hF a; intro a hF
        refine b_v (i := 2) rfl (by kernel_rfl) hF (fun w2 hx => v_ixS sl35 rfl rfl (by omega) (by omega)) rfl hSS ?_; clear hF a; intro a hF
        refine b_v (i := 3) rfl (by kernel_rfl) hF (fun w2 hx => v_load sc39 rfl (by rw [toNat_c]; exact hx.2.2.2)) rfl hSS ?_; clear hF a; intro a hF
        refine b_v (i := 4) rfl (by kernel_rfl) hF (fun w2 hx => v_move rfl) rfl hSS ?_; clear hF a; intro a hF
        refine b_v (i := 5) rfl (by kernel_rfl) hF (fun w2 hx => v_load sc25 rfl (hx.1)) rfl hSS ?_; clear hF a; intro a hF
        refine b_v (i := 6) rfl (by kernel_rfl) hF (fun w2 hx => v_move rfl) rfl hSS ?_; clear hF a; intro a hF
        refine b_v (i := 7) rfl (by kernel_rfl) hF (fun w2 hx => v_move rfl) rfl hSS ?_; clear hF a; intro a hF
        refine b_e (i := 8) (by kernel_rfl) rfl ?_
        refine sc hF rfl rfl rfl en59 rfl (Mul_gf B (some (wb, p)) fv (((hp.fld.sclF t (hp.fld.inv (f1 k c)) j (fun i j => f1 (Fld.sw t k i) j)) t j : Nat) : Int) ((hp.fld.inv (f1 k c) : Nat) : Int) _ hS.inv hf) ?_; clear hF a; intro v w' a hv hF
        obtain ⟨rfl, hS'⟩ := hv
        replace hf := hf.st hS'
        replace hkf := hkf.st hS'
        replace hka := hka.st hS'
        replace hbt := hbt.st hS'
        replace hO := hO.st (by decide) hS'
        replace hW := hW.st hS'
        replace hbc := hbc.st hS'
        replace hS := hS.trans hS'
        clear hS'
        rw [gmul_num hp hbj hbi] at hF
        clear hSS
        replace hct := (hO.kc (by decide) (vls_at ht)).c
        rw [hswt] at hct
        have hSS : (fun (w2 : World) => w2.cell? ⟨pf, 0, none⟩ = some (fv) ∧ w2.cell? ⟨pa, 0, none⟩ = some (.slice (some ⟨g, 0, none⟩) n cap) ∧ w2.cell? ⟨pt, 0, none⟩ = some (.int .i64 (t : Int)) ∧ w2.cell? ⟨g, 0 + t, none⟩ = some (.slice (some ⟨bs k, 0, none⟩) m (rc k))) _ := And.intro hkf.c (And.intro hka.c (And.intro hbt.at hct))
        refine WL_nil ⟨hSS, ?_⟩
        refine b_v (i := 9) rfl (by kernel_rfl) hF (fun w2 hx => v_ixS sl39 rfl rfl (by omega) (by omega)) rfl hSS ?_; clear hF a; intro a hF
        refine b_e (i := 10) (by kernel_rfl) rfl ?_
        have hR0 := hW.row t ht
        have hR0s := hW.ge ht
        rw [hswt] at hR0 hR0s
        refine s_set (D := FDx) (B := B) hF on3 rfl (by rw [toNat_c, zints_length, trow_length]; omega) rfl rfl hR0 (by decide) hS.inv ?_; intro w' hm hI' ho'
        replace hf := hf.mb hm
        replace hkf := hkf.mb hm ((hswt ▸ hW.ne ht hKpf : some (bs k) ≠ some pf))
        replace hka := hka.mb hm ((hswt ▸ hW.ne ht hKpa : some (bs k) ≠ some pa))
        replace hbt := hbt.mb hm ((hswt ▸ hW.ne ht hKpt : some (bs k) ≠ some pt))
        replace hO := hO.mb hm (hO.ne_type hR0 (by decide))
        replace hW := hW.set (g := hp.fld.sclF t (hp.fld.inv (f1 k c)) (j + 1) (fun i j => f1 (Fld.sw t k i) j)) ht (by rw [hswt]; exact hm) (by rw [hswt]; exact ho'.cast (by rw [toNat_c, Nat.zero_add, zints_set, trow_set (g := hp.fld.sclF t (hp.fld.inv (f1 k c)) (j + 1) (fun i j => f1 (Fld.sw t k i) j))]; intro l hl; exact Fld.sclF_at _ l)) (fun a ha hai l hl => by unfold Fld.sclF; rw [if_neg (by omega), if_neg (by omega)])
        replace hbc := hbc.mb hm ((hswt ▸ hW.ne ht hKpc : some (bs k) ≠ some pc))
        replace hS := hS.mb hm (fun k e => ⟨by cases e; exact hR0s.1, hR0.isrow k e⟩)
        replace hR0 := ho'
        clear hm hI' ho'
        clear hR0 hR0s hct
        clear hSS
        replace hct := (hO.kc (by decide) (vls_at ht)).c
        rw [hswt] at hct
        have hSS : (fun (w2 : World) => w2.cell? ⟨pf, 0, none⟩ = some (fv) ∧ w2.cell? ⟨pa, 0, none⟩ = some (.slice (some ⟨g, 0, none⟩) n cap) ∧ w2.cell? ⟨pt, 0, none⟩ = some (.int .i64 (t : Int)) ∧ w2.cell? ⟨g, 0 + t, none⟩ = some (.slice (some ⟨bs k, 0, none⟩) m (rc k))) _ := And.intro hkf.c (And.intro hka.c (And.intro hbt.at hct))
        refine WL_nil ⟨hSS, ?_⟩
        refine b_done (by kernel_rfl) (hK _ _ ?_)
        clear hK K
        replace hF := hF.sub _ (c_ 3 rfl (c_ 4 rfl (c_ 7 rfl (c_ 8 rfl (c_ 18 rfl (c_ 19 rfl (c_ 9 rfl (c_ 11 rfl (c_ 65 rfl (c_ 66 rfl (c_ 67 rfl (n_))))))))))))
        refine W_reg rfl (fun K hK => ?_)
        refine sv hF (v_addI rfl rfl (by omega)) rfl ?_; clear hF a; intro a hF
        refine sv hF (v_move rfl) rfl ?_; clear hF a; intro a hF
        refine WL_nil (hK _ _ ?_)
        clear hK K
        exact ⟨q2 - 1, by omega, j + 1, hF.sub _ (c_ 3 rfl (c_ 4 rfl (c_ 7 rfl (c_ 8 rfl (c_ 18 rfl (c_ 19 rfl (c_ 9 rfl (c_ 11 rfl (c_ 65 rfl (c_ 66 rfl (c_ 67 rfl (n_)))))))))))), hS, hf, hkf, hka, hbt, hbc, hO, hW, by omega, by omega⟩
       ·
        skip
        try simp only [dcl] at hc4
        have hjm : j = m := by omega
        rw [hjm] at hW
        refine W_exit rfl ?_
        refine W_seq ?_
        refine W_sr rfl (fun K hK => ?_)
        refine sv hF (v_load sc35 rfl (hka.c)) rfl ?_; clear hF a; intro a hF
        refine sv hF (v_lenS rfl sl35 rfl) rfl ?_; clear hF a; intro a hF
        refine sv hF (v_move rfl) rfl ?_; clear hF a; intro a hF
        refine WL_nil (hK _ _ ?_)
        clear hK K
        replace hF := hF.sub _ (c_ 85 rfl (c_ 84 rfl (c_ 83 rfl (c_ 3 rfl (c_ 4 rfl (c_ 7 rfl (c_ 8 rfl (c_ 18 rfl (c_ 19 rfl (c_ 9 rfl (c_ 11 rfl (c_ 65 rfl (c_ 66 rfl (c_ 67 rfl (n_)))))))))))))))
        refine W_block ?_
        refine W_loop (fun q3 a w4 => ∃ (i : Nat), Fr 102 [(3, .pointer (some ⟨pf, 0, none⟩)), (4, .pointer (some ⟨pa, 0, none⟩)), (7, .pointer (some ⟨pt, 0, none⟩)), (8, .func (.func 63) ([] : List Value).toArray ([.pointer (some ⟨pf, 0, none⟩), .pointer (some ⟨pa, 0, none⟩), .pointer (some ⟨pt, 0, none⟩)] : List Value).toArray), (18, .int .i64 (cols : Int)), (19, .int .i64 (c : Int)), (9, .pointer (some ⟨pc, 0, none⟩)), (83, .slice (some ⟨g, 0, none⟩) n cap), (84, .int .i64 (n : Int)), (85, .int .i64 (i : Int))] a ∧ (StZ FDx B (fun k => N ≤ k) w w4) ∧ (Fo FDx B w4 fv (some (wb, p))) ∧ (KC FDx B w4 ⟨pf, 0, none⟩ (fv)) ∧ (KC FDx B w4 ⟨pa, 0, none⟩ (.slice (some ⟨g, 0, none⟩) n cap)) ∧ (Box FDx B pt w4 pt 3 (.int .i64 (t : Int))) ∧ (Box FDx B pc w4 pc 3 (.int .i64 (c : Int))) ∧ (Gam.Own FDx B N w4 39 (.slice (some ⟨g, 0, none⟩) n cap) (some g) (vls n m (fun i => bs (Fld.sw t k i)) (fun i => rc (Fld.sw t k i)))) ∧ (Wr FDx B N KM w4 n m (fun i => bs (Fld.sw t k i)) (fun i => rc (Fld.sw t k i)) (hp.fld.cleF t c i (hp.fld.sclF t (hp.fld.inv (f1 k c)) m (fun i j => f1 (Fld.sw t k i) j)))) ∧ (i ≤ n) ∧ (q3 + i = n)) (n) ?_ ?_
        ·
         skip
         exact ⟨0, hF.sub _ (c_ 3 rfl (c_ 4 rfl (c_ 7 rfl (c_ 8 rfl (c_ 18 rfl (c_ 19 rfl (c_ 9 rfl (c_ 83 rfl (c_ 84 rfl (c_ 85 rfl (n_))))))))))), hS, hf, hkf, hka, hbt, hbc, hO, hW.congr (fun a _ l _ => by unfold Fld.cleF; rw [if_neg (by omega)]), by omega, by omega⟩
        ·
         skip
         clear hF
         clear hS hf hkf hka hbt hbc hO hW
         rintro q3 a w4 ⟨i, hF, hS, hf, hkf, hka, hbt, hbc, hO, hW, hi, hq3⟩
         refine W_sr rfl (fun K hK => ?_)
         refine sv hF (v_lss rfl rfl) rfl ?_; clear hF a; intro a hF
         refine WL_nil (hK _ _ ?_)
         clear hK K
         refine W_seq ?_
         refine W_if hF rfl (fun hc5 => ?_) (fun hc5 => ?_)
         ·
          skip
          try simp only [dcl] at hc5
          have hlt : i < n := by omega
          refine W_skip ?_
          refine W_seq ?_
          refine W_block ?_
          refine W_sr rfl (fun K hK => ?_)
          refine sv hF (v_move rfl) rfl ?_; clear hF a; intro a hF
          refine sv hF (v_ixS sl35 rfl rfl (by omega) (by omega)) rfl ?_; clear hF a; intro a hF
          refine sv hF (v_load sc39 rfl (by rw [toNat_c]; exact (hO.kc (by decide) (vls_at hlt)).c)) rfl ?_; clear hF a; intro a hF
          refine sv2 hF (v_assign rfl) (v_assign rfl) rfl rfl ?_; clear hF a; intro a hF
          refine WL_nil (hK _ _ ?_)
          clear hK K
          refine W_sr rfl (fun K hK => ?_)
          refine sv hF (v_move rfl) rfl ?_; clear hF a; intro a hF
          refine sv hF (v_load sc3 rfl (hbt.at)) rfl ?_; clear hF a; intro a hF
          refine sv hF (v_neq rfl rfl) rfl ?_; clear hF a; intro a hF
          refine WL_nil (hK _ _ ?_)
          clear hK K
          refine W_if hF rfl (fun hc6 => ?_) (fun hc6 => ?_)
          ·
           skip
           try simp only [dcl] at hc6
           have hbd4 : hp.fld.Bd (hp.fld.cleF t c i (hp.fld.sclF t (hp.fld.inv (f1 k c)) m (fun i j => f1 (Fld.sw t k i) j))) := hp.fld.cleF_bd (hp.fld.sclF_bd (fun a b => hb1 _ b))
           have hit : i ≠ t := by omega
           refine W_reg rfl (fun K hK => ?_)
           refine sv2 hF (v_move rfl) (v_move rfl) rfl rfl ?_; clear hF a; intro a hF
           refine sv hF (v_load sc3 rfl (hbc.at)) rfl ?_; clear hF a; intro a hF
           refine sc hF rfl rfl rfl en63 rfl (clear_ok B N KM wb p hp fv pf pa pt g cap n m (fun i => bs (Fld.sw t k i)) (fun i => rc (Fld.sw t k i)) (hp.fld.cleF t c i (hp.fld.sclF t (hp.fld.inv (f1 k c)) m (fun i j => f1 (Fld.sw t k i) j))) i t c _ hS.inv hf hkf hka hbt.kc ⟨hKpf, hKpa, hKpt⟩ hO hW hbd4 hlt ht hit hcl hnm) ?_; clear hF a; intro v w' a hv hF
           obtain ⟨-, hO', hW', hz⟩ := hv
           have hni := hW.ge hlt
           replace hkf := hkf.stz hz (fun e => hW.ne hlt hKpf (congrArg some e.symm))
           replace hka := hka.stz hz (fun e => hW.ne hlt hKpa (congrArg some e.symm))
           replace hbt := hbt.stz hz (fun e => hW.ne hlt hKpt (congrArg some e.symm))
           replace hbc := hbc.stz hz (fun e => hW.ne hlt hKpc (congrArg some e.symm))
           replace hf := hf.stz hz
           replace hS := hS.transZ (hz.weak (fun k e => by subst e; exact hni.1))
           replace hO := hO'
           replace hW := hW'.congr (fun a ha l hl => hp.fld.cleF_step (m := m) hcl (by omega) a l hl)
           clear hO' hW' hz hni
           refine WL_nil (hK _ _ ?_)
           clear hK K
           replace hF := hF.sub _ (c_ 95 rfl (c_ 94 rfl (c_ 93 rfl (c_ 92 rfl (c_ 91 rfl (c_ 90 rfl (c_ 16 rfl (c_ 15 rfl (c_ 89 rfl (c_ 88 rfl (c_ 87 rfl (c_ 86 rfl (c_ 3 rfl (c_ 4 rfl (c_ 7 rfl (c_ 8 rfl (c_ 18 rfl (c_ 19 rfl (c_ 9 rfl (c_ 83 rfl (c_ 84 rfl (c_ 85 rfl (n_)))))))))))))))))))))))
           refine W_reg rfl (fun K hK => ?_)
           refine sv hF (v_addI rfl rfl (by omega)) rfl ?_; clear hF a; intro a hF
           refine sv hF (v_move rfl) rfl ?_; clear hF a; intro a hF
           refine WL_nil (hK _ _ ?_)
           clear hK K
           exact ⟨q3 - 1, by omega, i + 1, hF.sub _ (c_ 3 rfl (c_ 4 rfl (c_ 7 rfl (c_ 8 rfl (c_ 18 rfl (c_ 19 rfl (c_ 9 rfl (c_ 83 rfl (c_ 84 rfl (c_ 85 rfl (n_))))))))))), hS, hf, hkf, hka, hbt, hbc, hO, hW, by omega, by omega⟩
          ·
           skip
           try simp only [dcl] at hc6
           obtain rfl : i = t := by omega
           replace hW := hW.congr (fun a _ l _ => hp.fld.cleF_skip a l)
           refine W_skip ?_
           refine W_reg rfl (fun K hK => ?_)
           refine sv hF (v_addI rfl rfl (by omega)) rfl ?_; clear hF a; intro a hF
           refine sv hF (v_move rfl) rfl ?_; clear hF a; intro a hF
           refine WL_nil (hK _ _ ?_)
           clear hK K
           exact ⟨q3 - 1, by omega, i + 1, hF.sub _ (c_ 3 rfl (c_ 4 rfl (c_ 7 rfl (c_ 8 rfl (c_ 18 rfl (c_ 19 rfl (c_ 9 rfl (c_ 83 rfl (c_ 84 rfl (c_ 85 rfl (n_))))))))))), hS, hf, hkf, hka, hbt, hbc, hO, hW, by omega, by omega⟩
         ·
          skip
          try simp only [dcl] at hc5
          obtain rfl : i = n := by omega
          have hrd := hp.fld.red_some hf1.symm ht1.symm hpk
          have hrd2 : (hp.fld.red i f (c + 1)).2 = t + 1 := by rw [hrd]
          replace hW := hW.congr (g := (hp.fld.red i f (c + 1)).1) (fun a ha l hl => by rw [hrd]; exact hp.fld.op_eq hcl a ha l hl)
          refine W_exit rfl ?_
          refine W_reg rfl (fun K hK => ?_)
          refine sv hF (v_load sc3 rfl (hbt.at)) rfl ?_; clear hF a; intro a hF
          refine sv hF (v_addI rfl rfl (by omega)) rfl ?_; clear hF a; intro a hF
          refine s_stb (D := FDx) (B := B) hF on3 rfl rfl (rfl) hbt hS.inv ?_; intro w' hm hI' hbx'
          replace hf := hf.mb hm
          replace hkf := hkf.mb hm (by simp; omega)
          replace hka := hka.mb hm (by simp; omega)
          replace hO := hO.mb hm (fun k e e2 => by cases e; cases e2; exact absurd hgK (by omega))
          replace hW := hW.mbx hm (fun k e => by cases e; omega)
          replace hS := hS.mb hm (fun k h => by cases h; exact ⟨by omega, _, _, _, hbt.blk⟩)
          replace hbt := hbx'
          clear hm hI' hbx'
          rw [show ((t : Int) + 1) = (((hp.fld.red i f (c + 1)).2 : Nat) : Int) by rw [hrd2]; omega] at hbt
          clear hbc
          refine WL_nil (hK _ _ ?_)
          clear hK K
          refine W_reg rfl (fun K hK => ?_)
          refine sv hF (v_addI rfl rfl (by omega)) rfl ?_; clear hF a; intro a hF
          refine sv hF (v_move rfl) rfl ?_; clear hF a; intro a hF
          refine WL_nil (hK _ _ ?_)
          clear hK K
          exact ⟨q - 1, by omega, c + 1, _, _, hF.sub _ (c_ 3 rfl (c_ 4 rfl (c_ 7 rfl (c_ 8 rfl (c_ 18 rfl (c_ 19 rfl (n_))))))), hS, hf, hkf, hka, hbt, hO, hW, by omega, by omega⟩
  ·
   skip
   try simp only [dcl] at hc1
   refine W_exit rfl ?_
   refine W_sr rfl (fun K hK => ?_)
   refine sv hF (v_load sc3 rfl (by first | assumption | (rw [toNat_c]; assumption) | exact KC.c (by assumption) | (rw [toNat_c]; exact KC.c (by assumption)) | exact Box.at (by assumption))) rfl ?_; clear hF a; intro a hF
   refine sv hF (v_assign rfl) rfl ?_; clear hF a; intro a hF
   refine WL_nil (hK _ _ ?_)
   clear hK K
   replace hF := hF.sub _ (c_ 6 rfl (c_ 101 rfl (c_ 3 rfl (c_ 4 rfl (c_ 7 rfl (c_ 8 rfl (c_ 18 rfl (c_ 19 rfl (n_)))))))))
   refine W_ret ?_
   refine ⟨_, _, hF, rfl, ?_⟩
   obtain rfl : c = cols := by omega
   exact ⟨rfl, ⟨bs, rc, hO, by rw [← hKM]; exact hW⟩, hS⟩

end Go.Proofs.YtaeljbdpjiciaaaGreat

/- The walks of package matrix: the identity; rows picked, joined. -/
set_option linter.unusedVariables false
set_option linter.unusedSimpArgs false
namespace Go.Proofs.YtaeljbdpjiciaaaGreat
open Go Go.Gam


namespace FxFMatB
theorem en30 : Ent Tryz.prog 30 := ent Tryz.func30 (by kernel_rfl) (by kernel_rfl)
theorem on3 : Gam.One Tryz.prog 3 := by unfold Gam.One; kernel_rfl
theorem sl35 : Sl Tryz.prog 35 39 (.slice none 0 0) 24 := sl_of Tryz.underlying35 rfl (by kernel_rfl)
theorem sl39 : Sl Tryz.prog 39 3 (.int .i64 0) 8 := sl_of Tryz.underlying39 rfl (by kernel_rfl)
end FxFMatB
open FxFMatB

set_option maxRecDepth 100000 in
set_option maxHeartbeats 1000000 in
theorem Clone_ok (B M : Nat) (pxs : Option Addr) (cxs : Nat) (xs : List Int) (w : World) (hI : Inv FDx B w) (hx : Row FDx B M w (.slice pxs xs.length cxs) (zints xs)) (hM : M ≤ w.heap.size) (hl : xs.length ≤ 1000000) : Ret Tryz.prog 53 [.slice pxs xs.length cxs] w fun v w' => ∃ ob, Gam.Own FDx B w.heap.size w' FDx.E v ob (zints (xs)) ∧ St FDx B w w' := by
 refine enter 8 [(0, .slice pxs xs.length cxs)] 2 Tryz.func53 rfl rfl rfl rfl rfl ?_; intro a hF
 have hS := St.refl hI
 refine W_sr rfl (fun K hK => ?_)
 refine sv hF (v_assign rfl) rfl ?_; clear hF a; intro a hF
 refine WL_nil (hK _ _ ?_)
 clear hK K
 refine W_seq ?_
 refine W_sr rfl (fun K hK => ?_)
 refine sv hF (v_move rfl) rfl ?_; clear hF a; intro a hF
 refine sv hF (v_eqlSl (by exact Tryz.underlying39) rfl rfl) rfl ?_; clear hF a; intro a hF
 refine WL_nil (hK _ _ ?_)
 clear hK K
 replace hF := hF.sub _ (c_ 4 rfl (c_ 2 rfl (c_ 0 rfl (n_))))
 refine W_if hF rfl (fun hc1 => ?_) (fun hc1 => ?_)
 ·
  skip
  try simp only [dcl] at hc1
  refine W_sr rfl (fun K hK => ?_)
  refine sv hF (v_assign rfl) rfl ?_; clear hF a; intro a hF
  refine WL_nil (hK _ _ ?_)
  clear hK K
  replace hF := hF.sub _ (c_ 2 rfl (c_ 0 rfl (n_)))
  refine W_ret ?_
  refine ⟨_, _, hF, rfl, ?_⟩
  have hn : pxs = none := by cases pxs with | none => rfl | some a => simp at hc1
  subst hn
  have he := ofz hx.nilx
  subst he
  exact ⟨none, Gam.Own.nil _ _ _ _ _, hS⟩
 ·
  skip
  try simp only [dcl] at hc1
  refine W_skip ?_
  refine W_sr rfl (fun K hK => ?_)
  refine s_bs (D := FDx) (B := B) hF sl39 rfl rfl (by decide) (by simp [Value.cells]) (by decide) hS.inv rfl ?_; clear hF a; intro w' a hm hI' hO hF
  replace hx := hx.mb hm (fun _ h => by cases h)
  replace hS := hS.mb0 hm
  clear hm hI'
  refine sv hF (v_move rfl) rfl ?_; clear hF a; intro a hF
  refine s_app (D := FDx) (B := B) hF rfl sl39 rfl rfl hO (hx) (by intro u hu; obtain ⟨_, _, rfl⟩ := List.mem_map.1 hu; rfl) (by simp; omega) (by simp [maxLen]; omega) (by have := hS.ext.size; omega) (by decide) hS.inv rfl ?_; clear hF a; intro v' b' w' a ho' hm hI' hb' hF
  replace hx := hx.mb hm (fun k h => Nat.le_trans (hM) (hO.lt k h).1)
  replace hS := hS.mb hm (fun k h => Nat.le_trans (Nat.le_refl _) (hO.lt k h).1)
  replace hO := ho'
  clear hm hI' ho'
  refine sv hF (v_assign rfl) rfl ?_; clear hF a; intro a hF
  refine WL_nil (hK _ _ ?_)
  clear hK K
  replace hF := hF.sub _ (c_ 2 rfl (n_))
  refine W_ret ?_
  refine ⟨_, _, hF, rfl, ?_⟩
  exact ⟨_, hO.cast (List.nil_append _), hS⟩

set_option maxRecDepth 100000 in
set_option maxHeartbeats 1000000 in
theorem Identity_ok (B : Nat) (n : Int) (w : World) (hI : Inv FDx B w) (hn : -9223372036854775808 ≤ n ∧ n < 9223372036854775808) : Ret Tryz.prog 51 [.int .i64 n] w fun v w' => ∃ ob, MOwn FDx B w.heap.size 0 w'.heap.size w' 39 v ob (identM n) ∧ St FDx B w w' := by
 refine enter 24 [(0, .int .i64 n)] 2 Tryz.func51 rfl rfl rfl rfl rfl ?_; intro a hF
 have hS := St.refl hI
 refine W_sr rfl (fun K hK => ?_)
 refine sv hF (v_assign rfl) rfl ?_; clear hF a; intro a hF
 refine WL_nil (hK _ _ ?_)
 clear hK K
 refine W_seq ?_
 refine W_sr rfl (fun K hK => ?_)
 refine sv hF (v_move rfl) rfl ?_; clear hF a; intro a hF
 refine sc hF rfl rfl rfl en30 rfl (within_ok n _) ?_; clear hF a; intro v w' a hv hF
 obtain ⟨rfl, hw⟩ := hv
 obtain rfl := hw.symm
 have hS' := St.refl hS.inv
 replace hS := hS.trans hS'
 clear hS'
 refine sv hF (v_not rfl) rfl ?_; clear hF a; intro a hF
 refine WL_nil (hK _ _ ?_)
 clear hK K
 replace hF := hF.sub _ (c_ 8 rfl (c_ 2 rfl (c_ 0 rfl (n_))))
 refine W_if hF rfl (fun hc1 => ?_) (fun hc1 => ?_)
 ·
  skip
  try simp only [dcl] at hc1
  refine W_sr rfl (fun K hK => ?_)
  refine sv hF (v_assign rfl) rfl ?_; clear hF a; intro a hF
  refine WL_nil (hK _ _ ?_)
  clear hK K
  replace hF := hF.sub _ (c_ 2 rfl (c_ 0 rfl (n_)))
  refine W_ret ?_
  refine ⟨_, _, hF, rfl, ?_⟩
  have he : identM n = [] := if_neg (by simpa using hc1)
  rw [he]
  exact ⟨none, MOwn.nil _ _ _ _ _ _ _ (Nat.zero_le _), hS⟩
 ·
  skip
  try simp only [dcl] at hc1
  have hn20 : 1 ≤ n ∧ n ≤ 20 := by simpa using hc1
  refine W_skip ?_
  refine W_sr rfl (fun K hK => ?_)
  refine sv hF (v_assign rfl) rfl ?_; clear hF a; intro a hF
  refine WL_nil (hK _ _ ?_)
  clear hK K
  replace hF := hF.sub _ (c_ 3 rfl (c_ 2 rfl (c_ 0 rfl (n_))))
  refine W_seq ?_
  refine W_sr rfl (fun K hK => ?_)
  refine sv2 hF (v_move rfl) (v_move rfl) rfl rfl ?_; clear hF a; intro a hF
  refine WL_nil (hK _ _ ?_)
  clear hK K
  refine W_block ?_
  refine W_loop (fun m a w1 => ∃ (i : Nat) (v3 : Value) (b3 : Option Nat), Fr 24 [(0, .int .i64 n), (3, v3), (9, .int .i64 n), (10, .int .i64 (i : Int))] a ∧ (St FDx B w w1) ∧ (MOwn FDx B w.heap.size 0 w1.heap.size w1 39 v3 b3 ((List.range i).map (unitR n.toNat))) ∧ (i ≤ n.toNat) ∧ (m + i = n.toNat)) (n.toNat) ?_ ?_
  ·
   skip
   exact ⟨0, _, none, hF.sub _ (c_ 0 rfl (c_ 3 rfl (c_ 9 rfl (c_ 10 rfl (n_))))), hS, MOwn.nil _ _ _ _ _ _ _ (Nat.zero_le _), by omega, by omega⟩
  ·
   skip
   clear hF
   clear hS
   rintro m a w1 ⟨i, v3, b3, hF, hS, hMO, hi, hm⟩
   obtain ⟨K, hKe⟩ : ∃ K, K = w1.heap.size := ⟨_, rfl⟩
   rw [← hKe] at hMO
   have hKs : K ≤ w1.heap.size := by omega
   have hNK : w.heap.size ≤ K := by have := hS.ext.size; omega
   clear hKe
   refine W_sr rfl (fun K hK => ?_)
   refine sv hF (v_lss rfl rfl) rfl ?_; clear hF a; intro a hF
   refine WL_nil (hK _ _ ?_)
   clear hK K
   refine W_seq ?_
   refine W_if hF rfl (fun hc2 => ?_) (fun hc2 => ?_)
   ·
    skip
    try simp only [dcl] at hc2
    have hlt : i < n.toNat := by omega
    refine W_skip ?_
    refine W_seq ?_
    refine W_block ?_
    refine W_sr rfl (fun K hK => ?_)
    refine sv2 hF (v_move rfl) (v_assign rfl) rfl rfl ?_; clear hF a; intro a hF
    refine WL_nil (hK _ _ ?_)
    clear hK K
    replace hF := hF.sub _ (c_ 4 rfl (c_ 0 rfl (c_ 3 rfl (c_ 9 rfl (c_ 10 rfl (n_))))))
    refine W_sr rfl (fun K hK => ?_)
    refine sv hF (v_move rfl) rfl ?_; clear hF a; intro a hF
    refine s_mk (D := FDx) (B := B) (m := n.toNat) hF sl39 rfl rfl (by omega) (by omega) (by simp only [maxLen]; omega) (by decide) hS.inv rfl ?_; clear hF a; intro w' a hm hI' hO hF
    replace hO := hO.le hKs
    replace hMO := hMO.mb0 hm
    replace hKs := Nat.le_trans hKs hm.size
    replace hS := hS.mb0 hm
    clear hm hI'
    replace hO := hO.cast (show List.replicate n.toNat (Value.int .i64 0) = zints (List.replicate n.toNat 0) by simp [zints])
    generalize Array.size _ = gO at hO hF
    refine sv hF (v_assign rfl) rfl ?_; clear hF a; intro a hF
    refine WL_nil (hK _ _ ?_)
    clear hK K
    replace hF := hF.sub _ (c_ 5 rfl (c_ 4 rfl (c_ 0 rfl (c_ 3 rfl (c_ 9 rfl (c_ 10 rfl (n_)))))))
    refine W_sr rfl (fun K hK => ?_)
    refine sv2 hF (v_move rfl) (v_move rfl) rfl rfl ?_; clear hF a; intro a hF
    refine sv hF (v_ixS sl39 rfl rfl (by omega) (by omega)) rfl ?_; clear hF a; intro a hF
    refine s_set (D := FDx) (B := B) hF on3 rfl (by rw [toNat_c]; simp; omega) rfl rfl hO (by decide) hS.inv ?_; intro w' hm hI' ho'
    replace hMO := hMO.mbo hm hO (by decide) (Nat.le_refl _) (Nat.zero_le _)
    replace hKs := Nat.le_trans hKs hm.size
    replace hS := hS.mb hm (fun k h => Nat.le_trans (hNK) (hO.lt k h).1)
    replace hO := ho'
    clear hm hI' ho'
    rw [toNat_c, Nat.zero_add, zints_set, unitR_set _ _ (by omega)] at hO
    refine WL_nil (hK _ _ ?_)
    clear hK K
    replace hF := hF.sub _ (c_ 5 rfl (c_ 0 rfl (c_ 3 rfl (c_ 9 rfl (c_ 10 rfl (n_))))))
    refine W_reg rfl (fun K hK => ?_)
    refine sv2 hF (v_move rfl) (v_move rfl) rfl rfl ?_; clear hF a; intro a hF
    skip
    refine s_bs (D := FDx) (B := B) hF sl35 rfl rfl (by decide) (by simp [Value.cells]) (by decide) hS.inv rfl ?_; clear hF a; intro w' a hm hI' hL hF
    replace hMO := hMO.mb0 hm
    replace hKs := Nat.le_trans hKs hm.size
    replace hO := hO.mb hm (fun _ _ => by simp)
    replace hS := hS.mb0 hm
    clear hm hI'
    replace hMO := hMO.up hKs
    clear hKs
    refine s_appM (D := FDx) (B := B) hF rfl sl35 rfl rfl hMO hL (.of hO (Nat.zero_le _)) rfl rfl (by simp; omega) (hS.ext.size) (by decide) (by decide) hS.inv rfl ?_; clear hF a; intro v' b' w' a ho' hm hI' hF
    replace hS := hS.mb hm (fun k h => (hMO.lt k h).1)
    have hKm := hm.size
    replace hMO := ho'
    clear hm hI' ho' hL
    refine sv hF (v_assign rfl) rfl ?_; clear hF a; intro a hF
    refine WL_nil (hK _ _ ?_)
    clear hK K
    replace hF := hF.sub _ (c_ 3 rfl (c_ 0 rfl (c_ 9 rfl (c_ 10 rfl (n_)))))
    refine W_reg rfl (fun K hK => ?_)
    refine sv hF (v_addI rfl rfl (by omega)) rfl ?_; clear hF a; intro a hF
    refine sv hF (v_move rfl) rfl ?_; clear hF a; intro a hF
    refine WL_nil (hK _ _ ?_)
    clear hK K
    exact ⟨m - 1, by omega, i + 1, _, _, hF.sub _ (c_ 0 rfl (c_ 3 rfl (c_ 9 rfl (c_ 10 rfl (n_))))), hS, (hMO.up hKm).cast (idM_snoc _ _).symm, by omega, by omega⟩
   ·
    skip
    try simp only [dcl] at hc2
    refine W_exit rfl ?_
    refine W_sr rfl (fun K hK => ?_)
    refine sv2 hF (v_move rfl) (v_assign rfl) rfl rfl ?_; clear hF a; intro a hF
    refine WL_nil (hK _ _ ?_)
    clear hK K
    replace hF := hF.sub _ (c_ 2 rfl (c_ 23 rfl (c_ 0 rfl (c_ 3 rfl (c_ 9 rfl (c_ 10 rfl (n_)))))))
    refine W_ret ?_
    refine ⟨_, _, hF, rfl, ?_⟩
    obtain rfl : i = n.toNat := by omega
    exact ⟨_, (hMO.up hKs).cast (by unfold identM; rw [if_pos hn20, idM_eq]), hS⟩

end Go.Proofs.YtaeljbdpjiciaaaGreat

/- The walks of package matrix: products. -/
set_option linter.unusedVariables false
set_option linter.unusedSimpArgs false
namespace Go.Proofs.YtaeljbdpjiciaaaGreat
open Go Go.Gam


namespace FxFMatC
end FxFMatC
open FxFMatC

end Go.Proofs.YtaeljbdpjiciaaaGreat

/- The walk of package matrix: Mul. -/
set_option linter.unusedVariables false
set_option linter.unusedSimpArgs false
namespace Go.Proofs.YtaeljbdpjiciaaaGreat
open Go Go.Gam


namespace FxFMatD
end FxFMatD
open FxFMatD

end Go.Proofs.YtaeljbdpjiciaaaGreat

/- The walk of package matrix: Apply. -/
set_option linter.unusedVariables false
set_option linter.unusedSimpArgs false
namespace Go.Proofs.YtaeljbdpjiciaaaGreat
open Go Go.Gam


namespace FxFMatE
end FxFMatE
open FxFMatE

end Go.Proofs.YtaeljbdpjiciaaaGreat

/- The walks of package invert: Inverse, Rank, Solve. -/
set_option linter.unusedVariables false
set_option linter.unusedSimpArgs false
namespace Go.Proofs.YtaeljbdpjiciaaaGreat
open Go Go.Gam


namespace FxFInvD
theorem en13 : Ent Tryz.prog 13 := ent Tryz.func13 (by kernel_rfl) (by kernel_rfl)
theorem en49 : Ent Tryz.prog 49 := ent Tryz.func49 (by kernel_rfl) (by kernel_rfl)
theorem en50 : Ent Tryz.prog 50 := ent Tryz.func50 (by kernel_rfl) (by kernel_rfl)
theorem en51 : Ent Tryz.prog 51 := ent Tryz.func51 (by kernel_rfl) (by kernel_rfl)
theorem en52 : Ent Tryz.prog 52 := ent Tryz.func52 (by kernel_rfl) (by kernel_rfl)
theorem en53 : Ent Tryz.prog 53 := ent Tryz.func53 (by kernel_rfl) (by kernel_rfl)
theorem sc39 : Scalar Tryz.prog 39 := ⟨_, Tryz.underlying39, by simp, by simp⟩
theorem sl35 : Sl Tryz.prog 35 39 (.slice none 0 0) 24 := sl_of Tryz.underlying35 rfl (by kernel_rfl)
theorem sl39 : Sl Tryz.prog 39 3 (.int .i64 0) 8 := sl_of Tryz.underlying39 rfl (by kernel_rfl)
end FxFInvD
open FxFInvD

set_option maxRecDepth 100000 in
set_option maxHeartbeats 1000000 in
theorem square_ok (B M : Nat) (o : Fq) (fv : Value) (pmt : Option Addr) (cmt : Nat) (mt : Mtx) (w : World) (hI : Inv FDx B w) (hf : Fo FDx B w fv o) (hAmt : Mat FDx B M w pmt cmt mt) (hlmt : mt.length ≤ maxLen) (hbmt : ∀ r ∈ mt, r.length ≤ maxLen) : Ret Tryz.prog 49 [fv, .slice pmt mt.length cmt] w fun v w' => v = .bool (sqM o mt) ∧ St FDx B w w' := by
 refine enter 17 [(0, fv), (1, .slice pmt mt.length cmt)] 4 Tryz.func49 rfl rfl rfl rfl rfl ?_; intro a hF
 have hS := St.refl hI
 refine W_sr rfl (fun K hK => ?_)
 refine sv hF (v_assign rfl) rfl ?_; clear hF a; intro a hF
 refine WL_nil (hK _ _ ?_)
 clear hK K
 refine W_sr rfl (fun K hK => ?_)
 refine sv2 hF (v_move rfl) (v_move rfl) rfl rfl ?_; clear hF a; intro a hF
 refine sc hF rfl rfl rfl en13 rfl (May_ok B M o fv pmt cmt mt _ hS.inv hf hAmt hlmt hbmt) ?_; clear hF a; intro v w' a hv hF
 obtain ⟨rfl, hS'⟩ := hv
 replace hAmt := hAmt.st hS'
 replace hS := hS.trans hS'
 clear hS'
 obtain hc1 | hc1 : (mayM o mt) = true ∨ (mayM o mt) = false := by cases (mayM o mt) <;> simp
 ·
  rw [hc1] at hF
  have hmay : mayM o mt = true := hc1
  have hmp := mayM_pos hmay
  obtain ⟨r0, h0⟩ : ∃ r, mt[0]? = some r := ⟨_, List.getElem?_eq_getElem (by omega)⟩
  obtain ⟨g0, o0, pr0, cr0, hg0, hk0, hrow0, -⟩ := hAmt.row h0
  have hw0 := wid_at h0
  subst hg0
  refine sv hF (v_move rfl) rfl ?_; clear hF a; intro a hF
  refine svg hF rfl ?_
  refine sv hF (v_move rfl) rfl ?_; clear hF a; intro a hF
  refine svg hF rfl ?_
  refine sv hF (v_lenS rfl sl35 rfl) rfl ?_; clear hF a; intro a hF
  refine svg hF rfl ?_
  refine sv hF (v_move rfl) rfl ?_; clear hF a; intro a hF
  refine svg hF rfl ?_
  refine sv hF (v_ixS sl35 rfl rfl (by decide) (by omega)) rfl ?_; clear hF a; intro a hF
  refine svg hF rfl ?_
  refine sv hF (v_load sc39 rfl hk0.c) rfl ?_; clear hF a; intro a hF
  refine svg hF rfl ?_
  refine sv hF (v_lenS rfl sl39 rfl) rfl ?_; clear hF a; intro a hF
  refine svg hF rfl ?_
  refine sv hF (v_eql rfl rfl) rfl ?_; clear hF a; intro a hF
  refine sv2 hF (v_pickT rfl rfl) (v_assign rfl) rfl rfl ?_; clear hF a; intro a hF
  refine WL_nil (hK _ _ ?_)
  clear hK K
  replace hF := hF.sub _ (c_ 4 rfl (n_))
  refine W_ret ?_
  refine ⟨_, _, hF, rfl, ?_⟩
  exact ⟨by congr 1; unfold sqM; rw [hmay, hw0]; simp only [Bool.true_and]; rw [decide_eq_decide]; omega, hS⟩
 ·
  rw [hc1] at hF
  refine sv hF (v_move rfl) rfl ?_; clear hF a; intro a hF
  refine svn hF rfl rfl rfl ?_; clear hF a; intro a hF
  refine svn hF rfl rfl rfl ?_; clear hF a; intro a hF
  refine svn hF rfl rfl rfl ?_; clear hF a; intro a hF
  refine svn hF rfl rfl rfl ?_; clear hF a; intro a hF
  refine svn hF rfl rfl rfl ?_; clear hF a; intro a hF
  refine svn hF rfl rfl rfl ?_; clear hF a; intro a hF
  refine svn hF rfl rfl rfl ?_; clear hF a; intro a hF
  refine sv2 hF (v_pickF rfl rfl) (v_assign rfl) rfl rfl ?_; clear hF a; intro a hF
  refine WL_nil (hK _ _ ?_)
  clear hK K
  replace hF := hF.sub _ (c_ 4 rfl (n_))
  refine W_ret ?_
  refine ⟨_, _, hF, rfl, ?_⟩
  exact ⟨by congr 1; unfold sqM; rw [show mayM o mt = false by simpa using hc1]; rfl, hS⟩

set_option maxRecDepth 100000 in
set_option maxHeartbeats 1000000 in
theorem Inverse_ok (B M wb p : Nat) (hp : Prm wb p) (fv : Value) (pmt : Option Addr) (cmt : Nat) (mt : Mtx) (w : World) (hI : Inv FDx B w) (hM : M ≤ w.heap.size) (hf : Fo FDx B w fv (some (wb, p))) (hAmt : Mat FDx B M w pmt cmt mt) (hlmt : mt.length ≤ maxLen) (hbmt : ∀ r ∈ mt, r.length ≤ maxLen) : Ret Tryz.prog 36 [fv, .slice pmt mt.length cmt] w fun v w' => ∃ ob u, v = .tuple #[u, .int .i64 (invR hp mt).1] ∧ MOwn FDx B w.heap.size 0 w'.heap.size w' 39 u ob (invR hp mt).2 ∧ St FDx B w w' := by
 refine enter2 42 [(0, fv), (1, .slice pmt mt.length cmt)] 4 5 Tryz.func36 rfl rfl rfl rfl rfl ?_; intro a hF
 have hS := St.refl hI
 refine W_sr rfl (fun K hK => ?_)
 refine sv2 hF (v_assign rfl) (v_assign rfl) rfl rfl ?_; clear hF a; intro a hF
 refine WL_nil (hK _ _ ?_)
 clear hK K
 refine W_seq ?_
 refine W_sr rfl (fun K hK => ?_)
 refine sv2 hF (v_move rfl) (v_move rfl) rfl rfl ?_; clear hF a; intro a hF
 refine sc hF rfl rfl rfl en49 rfl (square_ok B M (some (wb, p)) fv pmt cmt mt _ hS.inv hf hAmt hlmt hbmt) ?_; clear hF a; intro v w' a hv hF
 obtain ⟨rfl, hS'⟩ := hv
 replace hf := hf.st hS'
 replace hAmt := hAmt.st hS'
 replace hS := hS.trans hS'
 clear hS'
 refine sv hF (v_not rfl) rfl ?_; clear hF a; intro a hF
 refine WL_nil (hK _ _ ?_)
 clear hK K
 replace hF := hF.sub _ (c_ 14 rfl (c_ 5 rfl (c_ 4 rfl (c_ 0 rfl (c_ 1 rfl (n_))))))
 refine W_if hF rfl (fun hc1 => ?_) (fun hc1 => ?_)
 ·
  skip
  try simp only [dcl] at hc1
  refine W_sr rfl (fun K hK => ?_)
  refine sv2 hF (v_assign rfl) (v_assign rfl) rfl rfl ?_; clear hF a; intro a hF
  refine WL_nil (hK _ _ ?_)
  clear hK K
  replace hF := hF.sub _ (c_ 5 rfl (c_ 4 rfl (c_ 0 rfl (c_ 1 rfl (n_)))))
  refine W_ret ?_
  refine ⟨_, _, _, hF, rfl, rfl, ?_⟩
  rw [invR_bad hp (by simpa using hc1)]
  exact ⟨none, _, rfl, MOwn.nil _ _ _ _ _ _ _ (Nat.zero_le _), hS⟩
 ·
  skip
  try simp only [dcl] at hc1
  refine W_skip ?_
  have hsq : sqM (some (wb, p)) mt = true := by simpa using hc1
  obtain ⟨hmx, hn1, hn20, -⟩ := sqM_Mx hsq
  obtain ⟨n, hn⟩ : ∃ n, n = mt.length := ⟨_, rfl⟩
  rw [← hn] at hmx hn1 hn20 hF
  have hbd := hmx.bd hp
  have htab := hmx.eq_tab
  have hid : identM (n : Int) = tab n n I1 := by rw [identM_of ⟨hn1, hn20⟩, idM_tab]; rfl
  refine W_sr rfl (fun K hK => ?_)
  refine sv hF (v_move rfl) rfl ?_; clear hF a; intro a hF
  refine sv hF (v_lenS rfl sl35 rfl) rfl ?_; clear hF a; intro a hF
  refine sv hF (v_assign rfl) rfl ?_; clear hF a; intro a hF
  refine WL_nil (hK _ _ ?_)
  clear hK K
  replace hF := hF.sub _ (c_ 6 rfl (c_ 5 rfl (c_ 4 rfl (c_ 0 rfl (c_ 1 rfl (n_))))))
  refine W_sr rfl (fun K hK => ?_)
  refine sv2 hF (v_move rfl) (v_move rfl) rfl rfl ?_; clear hF a; intro a hF
  refine sc hF rfl rfl rfl en51 rfl (Identity_ok B (n : Int) _ hS.inv (by omega)) ?_; clear hF a; intro v w' a hv hF
  obtain ⟨ob, ho, hS'⟩ := hv
  rw [hid] at ho
  obtain ⟨sI, cI, rfl, hId⟩ := ho.mat (by decide) (Nat.zero_le _)
  rw [tab_length] at hF
  clear ho
  replace hf := hf.st hS'
  replace hAmt := hAmt.st hS'
  replace hS := hS.trans hS'
  clear hS'
  refine sc hF rfl rfl rfl en50 rfl (beside_ok B _ n n n pmt sI cmt cI (en mt) I1 _ hS.inv (Nat.le_refl _) (htab ▸ hAmt.mono (Nat.le_trans hM hS.ext.size)) hId ⟨hn1, hn20⟩ ⟨hn1, hn20⟩ hn20) ?_; clear hF a; intro v w' a hv hF
  obtain ⟨gv, cap, bs, rc, rfl, hO, hW, hS'⟩ := hv
  replace hO := hO.le hS.ext.size
  replace hW := hW.le hS.ext.size
  clear hId hAmt
  replace hf := hf.st hS'
  replace hS := hS.trans hS'
  clear hS'
  refine sv hF (v_assign rfl) rfl ?_; clear hF a; intro a hF
  refine WL_nil (hK _ _ ?_)
  clear hK K
  replace hF := hF.sub _ (c_ 7 rfl (c_ 6 rfl (c_ 5 rfl (c_ 4 rfl (c_ 0 rfl (n_))))))
  refine W_seq ?_
  refine W_sr rfl (fun K hK => ?_)
  refine sv3 hF (v_move rfl) (v_move rfl) (v_move rfl) rfl rfl rfl ?_; clear hF a; intro a hF
  refine sc hF rfl rfl rfl en52 rfl (reduce_ok B w.heap.size wb p hp fv gv cap n (n + n) n bs rc _ _ hS.inv hf hO hW hS.ext.size (Fld.bes_bd hp.fld hbd hp.fld.I1_bd) (by omega) ⟨by omega, by omega⟩) ?_; clear hF a; intro v w' a hv hF
  clear hO hW bs rc
  obtain ⟨rfl, ⟨bs, rc, hO, hW⟩, hz⟩ := hv
  replace hW := hW
  replace hS := hS.thenZ hz (fun k hk => Nat.not_le.2 hk)
  clear hz hf
  refine sv hF (v_move rfl) rfl ?_; clear hF a; intro a hF
  refine sv hF (v_lss rfl rfl) rfl ?_; clear hF a; intro a hF
  refine WL_nil (hK _ _ ?_)
  clear hK K
  replace hF := hF.sub _ (c_ 26 rfl (c_ 7 rfl (c_ 6 rfl (c_ 5 rfl (c_ 4 rfl (n_))))))
  refine W_if hF rfl (fun hc2 => ?_) (fun hc2 => ?_)
  ·
   skip
   try simp only [dcl] at hc2
   refine W_sr rfl (fun K hK => ?_)
   refine sv2 hF (v_assign rfl) (v_assign rfl) rfl rfl ?_; clear hF a; intro a hF
   refine WL_nil (hK _ _ ?_)
   clear hK K
   replace hF := hF.sub _ (c_ 5 rfl (c_ 4 rfl (c_ 7 rfl (c_ 6 rfl (n_)))))
   refine W_ret ?_
   refine ⟨_, _, _, hF, rfl, rfl, ?_⟩
   rw [invR_none hp hsq (by rw [← hn]; exact iv_lt hp (by omega))]
   exact ⟨none, _, rfl, MOwn.nil _ _ _ _ _ _ _ (Nat.zero_le _), hS⟩
  ·
   skip
   try simp only [dcl] at hc2
   refine W_skip ?_
   have hiv := iv_ge hp (n := n) (f := en mt) (by omega)
   have hinv := invR_some hp hsq (by rw [← hn]; exact hiv)
   rw [← hn] at hinv
   obtain ⟨K0, hK0⟩ : ∃ k, k = w'.heap.size := ⟨_, rfl⟩
   have hWd := hW.mat (gb := gv) hO (by decide)
   rw [← hK0] at hWd
   have hwK : w.heap.size ≤ K0 := by have := hS.ext.size; omega
   clear hO hW
   refine W_sr rfl (fun K hK => ?_)
   refine sv hF (v_assign rfl) rfl ?_; clear hF a; intro a hF
   refine WL_nil (hK _ _ ?_)
   clear hK K
   replace hF := hF.sub _ (c_ 8 rfl (c_ 7 rfl (c_ 6 rfl (c_ 5 rfl (c_ 4 rfl (n_))))))
   refine W_seq ?_
   refine W_sr rfl (fun K hK => ?_)
   refine sv hF (v_move rfl) rfl ?_; clear hF a; intro a hF
   refine sv hF (v_lenS rfl sl35 rfl) rfl ?_; clear hF a; intro a hF
   refine sv hF (v_move rfl) rfl ?_; clear hF a; intro a hF
   refine WL_nil (hK _ _ ?_)
   clear hK K
   replace hF := hF.sub _ (c_ 29 rfl (c_ 28 rfl (c_ 27 rfl (c_ 8 rfl (c_ 6 rfl (c_ 5 rfl (c_ 4 rfl (n_))))))))
   refine W_block ?_
   refine W_loop (fun m a w1 => ∃ (i : Nat) (v8 : Value) (b8 : Option Nat), Fr 42 [(6, .int .i64 (n : Int)), (8, v8), (27, .slice (some ⟨gv, 0, none⟩) n cap), (28, .int .i64 (n : Int)), (29, .int .i64 (i : Int))] a ∧ (St FDx B w w1) ∧ (Mat FDx B K0 w1 (some ⟨gv, 0, none⟩) cap (tab n (n + n) (hp.fld.red n (Fld.bes n (en mt) I1) n).1)) ∧ (MOwn FDx B K0 0 w1.heap.size w1 39 v8 b8 ((List.range i).map (trow n (half hp n (en mt))))) ∧ (K0 ≤ w1.heap.size) ∧ (i ≤ n) ∧ (m + i = n)) (n) ?_ ?_
   ·
    skip
    exact ⟨0, _, none, hF.sub _ (c_ 6 rfl (c_ 8 rfl (c_ 27 rfl (c_ 28 rfl (c_ 29 rfl (n_)))))), hS, hWd, MOwn.nil _ _ _ _ _ _ _ (Nat.zero_le _), by omega, by omega, by omega⟩
   ·
    skip
    clear hF
    clear hS hWd
    rintro m a w1 ⟨i, v8, b8, hF, hS, hWd, hMO, hKz, hi, hm⟩
    obtain ⟨KM, hKe⟩ : ∃ K, K = w1.heap.size := ⟨_, rfl⟩
    rw [← hKe] at hMO
    have hKs : KM ≤ w1.heap.size := by omega
    clear hKe
    refine W_sr rfl (fun K hK => ?_)
    refine sv hF (v_lss rfl rfl) rfl ?_; clear hF a; intro a hF
    refine WL_nil (hK _ _ ?_)
    clear hK K
    refine W_seq ?_
    refine W_if hF rfl (fun hc3 => ?_) (fun hc3 => ?_)
    ·
     skip
     try simp only [dcl] at hc3
     have hlt : i < n := by omega
     obtain ⟨gw, ow, pr, cr, hgw, hkw, hrw, -⟩ := hWd.row (tab_at (f := (hp.fld.red n (Fld.bes n (en mt) I1) n).1) (m := n + n) hlt)
     cases hgw
     have hrl : ((List.range (n + n)).map fun j => (((hp.fld.red n (Fld.bes n (en mt) I1) n).1 i j : Nat) : Int)).length = n + n := by simp
     rw [hrl] at hrw hkw
     have hcr := hrw.capd
     have hpart := hrw.part (lo := n) (hi := n + n) (by omega) (by simp)
     have hhr := half_row hp n (en mt) i
     have hxs : (List.take (n + n) (zints ((List.range (n + n)).map fun j => (((hp.fld.red n (Fld.bes n (en mt) I1) n).1 i j : Nat) : Int)))).drop n = zints (trow n (half hp n (en mt)) i) := by
      rw [List.take_of_length_le (by simp), ← hhr]; simp [zints, trow]
     rw [hxs] at hpart
     rw [show n + n - n = (trow n (half hp n (en mt)) i).length by simp] at hpart
     clear hxs hhr
     refine W_skip ?_
     refine W_seq ?_
     refine W_block ?_
     refine W_sr rfl (fun K hK => ?_)
     refine sv hF (v_ixS sl35 rfl rfl (by omega) (by omega)) rfl ?_; clear hF a; intro a hF
     refine sv hF (v_load sc39 rfl (by rw [toNat_c]; exact hkw.c)) rfl ?_; clear hF a; intro a hF
     refine sv hF (v_assign rfl) rfl ?_; clear hF a; intro a hF
     refine WL_nil (hK _ _ ?_)
     clear hK K
     replace hF := hF.sub _ (c_ 10 rfl (c_ 6 rfl (c_ 8 rfl (c_ 27 rfl (c_ 28 rfl (c_ 29 rfl (n_)))))))
     refine W_reg rfl (fun K hK => ?_)
     refine sv3 hF (v_move rfl) (v_move rfl) (v_move rfl) rfl rfl rfl ?_; clear hF a; intro a hF
     refine sv hF (v_slLo sl39 rfl rfl (by omega) (by omega)) rfl ?_; clear hF a; intro a hF
     rw [show n + n - n = (trow n (half hp n (en mt)) i).length by simp] at hF
     refine sc hF rfl rfl rfl en53 rfl (Clone_ok B _ _ _ _ _ hS.inv hpart hKz (by simp; omega)) ?_; clear hF a; intro v w' a hv hF
     obtain ⟨ob, hC, hS'⟩ := hv
     replace hC := hC.le hKz
     replace hWd := hWd.st hS'
     replace hMO := hMO.st (by decide) hS'
     replace hKz := Nat.le_trans hKz hS'.ext.size
     replace hKs := Nat.le_trans hKs hS'.ext.size
     replace hS := hS.trans hS'
     clear hS'
     obtain ⟨a_, c_r, rfl⟩ := hC.shape
     refine s_bs (D := FDx) (B := B) hF sl35 rfl rfl (by decide) (by simp [Value.cells]) (by decide) hS.inv rfl ?_; clear hF a; intro w' a hm hI' hL hF
     replace hWd := hWd.mb hm (fun _ h => by cases h)
     replace hMO := hMO.mb0 hm
     replace hKz := Nat.le_trans hKz hm.size
     replace hKs := Nat.le_trans hKs hm.size
     replace hC := hC.mb hm (fun _ _ => by simp)
     replace hS := hS.mb0 hm
     clear hm hI'
     replace hMO := hMO.up hKs
     clear hKs
     refine s_appM (D := FDx) (B := B) hF rfl sl35 rfl rfl hMO hL (.of hC (Nat.zero_le _)) rfl rfl (by simp; omega) (hKz) (by decide) (by decide) hS.inv rfl ?_; clear hF a; intro v' b' w' a ho' hm hI' hF
     replace hWd := hWd.mb hm (fun k h => Nat.le_trans ((Nat.le_refl _)) (hMO.lt k h).1)
     replace hKz := Nat.le_trans hKz hm.size
     replace hS := hS.mb hm (fun k h => Nat.le_trans hwK (hMO.lt k h).1)
     have hKm := hm.size
     replace hMO := ho'
     clear hm hI' ho' hL
     refine sv hF (v_assign rfl) rfl ?_; clear hF a; intro a hF
     refine WL_nil (hK _ _ ?_)
     clear hK K
     replace hF := hF.sub _ (c_ 8 rfl (c_ 6 rfl (c_ 27 rfl (c_ 28 rfl (c_ 29 rfl (n_))))))
     refine W_reg rfl (fun K hK => ?_)
     refine sv hF (v_addI rfl rfl (by omega)) rfl ?_; clear hF a; intro a hF
     refine sv hF (v_move rfl) rfl ?_; clear hF a; intro a hF
     refine WL_nil (hK _ _ ?_)
     clear hK K
     exact ⟨m - 1, by omega, i + 1, _, _, hF.sub _ (c_ 6 rfl (c_ 8 rfl (c_ 27 rfl (c_ 28 rfl (c_ 29 rfl (n_)))))), hS, hWd, (hMO.up hKm).cast (by rw [List.range_succ, List.map_append]; rfl), hKz, by omega, by omega⟩
    ·
     skip
     try simp only [dcl] at hc3
     refine W_exit rfl ?_
     refine W_sr rfl (fun K hK => ?_)
     refine sv3 hF (v_move rfl) (v_assign rfl) (v_assign rfl) rfl rfl rfl ?_; clear hF a; intro a hF
     refine WL_nil (hK _ _ ?_)
     clear hK K
     replace hF := hF.sub _ (c_ 5 rfl (c_ 4 rfl (c_ 41 rfl (c_ 6 rfl (c_ 8 rfl (c_ 27 rfl (c_ 28 rfl (c_ 29 rfl (n_)))))))))
     refine W_ret ?_
     refine ⟨_, _, _, hF, rfl, rfl, ?_⟩
     obtain rfl : i = n := by omega
     rw [hinv]
     exact ⟨_, _, rfl, (hMO.up hKs).le hwK (Nat.zero_le _), hS⟩

end Go.Proofs.YtaeljbdpjiciaaaGreat

/- What the statements of layer 5 ask of inverses, ranks, what is solved. No program in sight. -/
set_option linter.unusedVariables false
set_option linter.unusedSimpArgs false
namespace Go.Gam
open Px

namespace Fld
variable (F : Fld)
end Fld

section
variable {wb p : Nat} (hp : Prm wb p)
theorem fld_bd16 {f : Tb} (h : hp.fld.Bd f) : ∀ i j, f i j < 2 ^ wb := fun i j => by have := h i j; rw [hp.fld_w] at this; exact this
theorem inv_reg {a : Mtx} (hsq : sqM (some (wb, p)) a = true) (h : (invR hp a).1 = 0) : ∃ g, hp.fld.iv a.length (en a) = some g ∧ hp.fld.Iv a.length (en a) g ∧ invR hp a = (0, tab a.length a.length g) := by
  obtain ⟨hm, -⟩ := sqM_Mx hsq
  cases hi : hp.fld.iv a.length (en a) with
  | none => rw [invR_none hp hsq hi] at h; cases h
  | some g => exact ⟨g, rfl, hp.fld.iv_some (hm.bd hp) hi, invR_some hp hsq hi⟩
theorem inv_no {a : Mtx} (hsq : sqM (some (wb, p)) a = true) (h : (invR hp a).1 ≠ 0) : hp.fld.iv a.length (en a) = none ∧ invR hp a = (2, []) := by
  cases hi : hp.fld.iv a.length (en a) with
  | none => exact ⟨rfl, invR_none hp hsq hi⟩
  | some g => rw [invR_some hp hsq hi] at h; exact absurd rfl h
theorem mx_tab {n m : Nat} {g : Tb} (h : hp.fld.Bd g) : Mx wb n m (tab n m g) := Mx.tab fun i j _ _ => fld_bd16 hp h i j
end
/-- Are numbers all different, and below a bound? -/
def unl (l : List Int) (b : Int) : Bool := decide (l.Nodup ∧ ∀ x ∈ l, 0 ≤ x ∧ x < b)
theorem unl_no {l : List Int} {b : Int} (h : ¬ (l.Nodup ∧ ∀ x ∈ l, 0 ≤ x ∧ x < b)) : unl l b = false := decide_eq_false h
theorem nodup_no {l : List Int} {i k : Nat} {x : Int} (h : k < i) (hi : l[i]? = some x) (hk : l[k]? = some x) : ¬ l.Nodup := fun hn => by
  obtain ⟨h1, h2⟩ := List.getElem?_eq_some_iff.1 hi
  obtain ⟨h3, h4⟩ := List.getElem?_eq_some_iff.1 hk
  exact List.pairwise_iff_getElem.1 hn k i h3 h1 h (h4.trans h2.symm)
theorem nodup_snoc {l : List Int} {i : Nat} {x : Int} (h : (l.take i).Nodup) (hi : l[i]? = some x) (hx : ∀ y ∈ l.take i, y ≠ x) : (l.take (i + 1)).Nodup := by
  rw [take_snoc hi]
  refine List.pairwise_append.2 ⟨h, List.pairwise_singleton _ _, fun a ha b hb => ?_⟩
  obtain rfl : b = x := by simpa using hb
  exact hx a ha
/-- The rows of powers of some numbers. -/
def vtab {wb p : Nat} (hp : Prm wb p) (l : List Nat) : Tb := fun i k => hp.fld.pow (l.getD i 0) k
def vrows {wb p : Nat} (hp : Prm wb p) (l : List Nat) : Mtx := tab l.length l.length (vtab hp l)
theorem vrows_inv {wb p : Nat} (hp : Prm wb p) {l : List Nat} (h1 : 1 ≤ l.length) (h2 : l.length ≤ 20) (hl : ∀ x ∈ l, x < 256) : ((invR hp (vrows hp l)).1 = 0 ↔ unl (l.map fun (x : Nat) => (x : Int)) 256 = true) ∧ ((invR hp (vrows hp l)).1 = 0 ∨ (invR hp (vrows hp l)).1 = 2) := by
  have h16 := hp.size.1
  have hx : ∀ i, l.getD i 0 < 2 ^ hp.fld.w := fun i => by
    rw [hp.fld_w, List.getD_eq_getElem?_getD]
    cases hi : l[i]? with
    | none => simp; omega
    | some x => have := hl x (List.mem_of_getElem? hi); simp; omega
  have et : vrows hp l = tab l.length l.length fun i k => hp.fld.pow (l.getD i 0) k := rfl
  have hb : hp.fld.Bd fun i k => hp.fld.pow (l.getD i 0) k := fun i k => hp.fld.pow_lt _ _
  have hm : Mx wb l.length l.length (vrows hp l) := by rw [et]; exact mx_tab hp hb
  have hsq := hm.sq (p := p) h1 h2
  have hlen := hm.1
  have hen : ∀ i j, i < l.length → j < l.length → en (vrows hp l) i j = hp.fld.pow (l.getD i 0) j := fun i j hi hj => by rw [et]; exact en_tab hi hj
  have hiff := hp.fld.iv_congr (n := l.length) (hm.bd hp) hb hen
  have hcase : (invR hp (vrows hp l)).1 = 0 ∨ (invR hp (vrows hp l)).1 = 2 := by
    by_cases h : (invR hp (vrows hp l)).1 = 0
    · exact .inl h
    · rw [(inv_no hp hsq h).2]; exact .inr rfl
  refine ⟨⟨fun h => ?_, fun h => ?_⟩, hcase⟩
  · obtain ⟨g, hg, -⟩ := inv_reg hp hsq h
    rw [hlen] at hg
    rw [hg] at hiff
    refine decide_eq_true ⟨?_, fun x hx => ?_⟩
    · refine List.pairwise_iff_getElem.2 fun i j hi hj hij e => ?_
      have hjl : j < l.length := by simpa using hj
      simp only [List.getElem_map] at e
      have hn := hp.fld.iv_twice (n := l.length) hb (a := i) (b := j) (by omega) hjl (by omega) fun k _ => by
        rw [getD_of (show i < l.length by omega), getD_of hjl, show l[i] = l[j] by omega]
      rw [hn] at hiff
      cases hiff
    · obtain ⟨y, hy, rfl⟩ := List.mem_map.1 hx
      have := hl y hy
      exact ⟨by omega, by omega⟩
  · obtain ⟨hnd, -⟩ := of_decide_eq_true h
    obtain ⟨g, hg⟩ := hp.fld.vander (n := l.length) hx fun i j hi hj e => by
      refine Classical.byContradiction fun hne => ?_
      have key : ∀ a b, a < b → b < l.length → l.getD a 0 = l.getD b 0 → False := fun a b hab hb e => by
        refine List.pairwise_iff_getElem.1 hnd a b (by simp; omega) (by simpa using hb) hab ?_
        rw [getD_of (show a < l.length by omega), getD_of hb] at e
        simp [e]
      rcases Nat.lt_or_gt_of_ne hne with h' | h'
      · exact key i j h' hj e
      · exact key j i h' hi e.symm
    rw [hg] at hiff
    refine Classical.byContradiction fun h0 => ?_
    rw [← hlen, (inv_no hp hsq h0).1] at hiff
    cases hiff
/-! ### the smallest ones -/
theorem aw5_len (a b c d : Int) : ([[a, b], [c, d]] : Mtx).length ≤ maxLen ∧ ∀ r ∈ ([[a, b], [c, d]] : Mtx), r.length ≤ maxLen := by
  refine ⟨(by decide : (2 : Nat) ≤ maxLen), fun r hr => ?_⟩
  simp only [List.mem_cons, List.mem_nil_iff, or_false] at hr
  rcases hr with rfl | rfl <;> exact (by decide : (2 : Nat) ≤ maxLen)
theorem aw5_sq {a b c d : Int} (h : ∀ x ∈ [a, b, c, d], inF (some (8, 285)) x = true) : sqM (some (8, 285)) [[a, b], [c, d]] = true := by
  have hm : Mx 8 2 2 [[a, b], [c, d]] := ⟨rfl, fun r hr => by
    simp only [List.mem_cons, List.mem_nil_iff, or_false] at hr
    have h2 := fun x hx => inF_some.1 (h x hx)
    rcases hr with rfl | rfl
    · exact ⟨rfl, fun x hx => h2 x (by simp at hx ⊢; rcases hx with rfl | rfl <;> simp)⟩
    · exact ⟨rfl, fun x hx => h2 x (by simp at hx ⊢; rcases hx with rfl | rfl <;> simp)⟩⟩
  exact hm.sq (by decide) (by decide)
theorem aw5_no : invR prm_285 [[1, 1], [1, 1]] = (2, []) := by
  have hsq := aw5_sq (a := 1) (b := 1) (c := 1) (d := 1) (by decide)
  obtain ⟨hm, -⟩ := sqM_Mx hsq
  exact invR_none prm_285 hsq (prm_285.fld.iv_twice (n := 2) (hm.bd prm_285) (a := 0) (b := 1) (by decide) (by decide) (by decide) fun j hj => by
    match j, hj with
    | 0, _ => rfl
    | 1, _ => rfl)
theorem aw5_inv : ∃ x, invR prm_285 [[1, 1], [1, 2]] = (0, x) ∧ x.length = 2 := by
  have hsq := aw5_sq (a := 1) (b := 1) (c := 1) (d := 2) (by decide)
  obtain ⟨hm, -⟩ := sqM_Mx hsq
  have e : ([[1, 1], [1, 2]] : Mtx) = vrows prm_285 [1, 2] := by
    have hv : ∀ i k : Nat, vtab prm_285 [1, 2] i k = prm_285.fld.pow ([1, 2].getD i 0) k := fun _ _ => rfl
    show _ = tab 2 2 (vtab prm_285 [1, 2])
    have h0 : ∀ x, prm_285.fld.pow x 0 = 1 := fun _ => rfl
    have h1 : prm_285.fld.pow 1 1 = 1 := prm_285.fld.pow_one 1 (by rw [prm_285.fld_w]; decide)
    have h2 : prm_285.fld.pow 2 1 = 2 := prm_285.fld.pow_one 2 (by rw [prm_285.fld_w]; decide)
    show _ = [[((prm_285.fld.pow 1 0 : Nat) : Int), ((prm_285.fld.pow 1 1 : Nat) : Int)], [((prm_285.fld.pow 2 0 : Nat) : Int), ((prm_285.fld.pow 2 1 : Nat) : Int)]]
    rw [h0, h1, h0, h2]
    rfl
  have h0 : (invR prm_285 [[1, 1], [1, 2]]).1 = 0 := by
    rw [e]
    exact (vrows_inv prm_285 (l := [1, 2]) (by decide) (by decide) (by decide)).1.2 (by decide)
  obtain ⟨g, -, -, h⟩ := inv_reg prm_285 hsq h0
  exact ⟨_, h, tab_length _ _ _⟩
end Go.Gam

/- Matrices of powers: what package vander tells; rows that are chosen. No program in sight. -/
set_option linter.unusedVariables false
set_option linter.unusedSimpArgs false
namespace Go.Gam
open Px

/-- Powers of the rows' numbers; of powers of 2. -/
def pwT (o : Fq) : Tb := fun i j => (gpow o (i : Int) (j : Int)).toNat
def isT (o : Fq) : Tb := fun i j => (gpow o (gpow o 2 (i : Int)) (j : Int)).toNat
def fitB (o : Fq) (k m : Int) : Bool := o.isSome && decide (1 ≤ k ∧ 1 ≤ m ∧ k < 20 ∧ m < 20 ∧ k + m ≤ 20)
def rawB (o : Fq) (k m : Int) : Bool := o.isSome && decide (1 ≤ k ∧ k ≤ 20 ∧ 1 ≤ m ∧ m ≤ 20)
def rawM (o : Fq) (k m : Int) : Option Mtx := if rawB o k m = true then some (tab k.toNat m.toNat (pwT o)) else none
def isalM (o : Fq) (k m : Int) : Option Mtx := if fitB o k m = true then some (tab m.toNat k.toNat (isT o)) else none
section
variable {wb p : Nat} (hp : Prm wb p)
def vinv (k : Nat) : Tb := (hp.fld.iv k fun i j => hp.fld.pow i j).getD I1
def sysT (k : Nat) : Tb := hp.fld.mm k (fun i j => hp.fld.pow i j) (vinv hp k)
def sysM (k m : Int) : Option Mtx := if fitB (some (wb, p)) k m = true then some (tab (k + m).toNat k.toNat (sysT hp k.toNat)) else none
end

/-! ### rows chosen -/
/-- What is chosen so far; which ones that are, bit by bit; where. -/
def stC (rows step : Nat) (s : List Nat × Nat × Nat) : List Nat × Nat × Nat :=
  let o := if s.2.1.testBit s.2.2 then s.1 else s.1 ++ [s.2.2]
  let b := if s.2.1.testBit s.2.2 then s.2.1 else s.2.1 ||| 1 <<< s.2.2
  let a := (s.2.2 + step) % rows
  (o, b, if b.testBit a then (a + 1) % rows else a)
def chS (rows step at0 : Nat) : Nat → List Nat × Nat × Nat
  | 0 => ([], 0, at0)
  | i + 1 => stC rows step (chS rows step at0 i)
def chI (rows step : Nat) : Nat → List Nat × Nat × Nat → List Nat × Nat × Nat
  | 0, s => s
  | i + 1, s => chI rows step i (stC rows step s)
/-- How many are chosen. -/
def chN (rows step : Nat) : Nat → Nat → Nat → Nat → Nat
  | 0, n, _, _ => n
  | i + 1, n, b, t =>
    bif Nat.beq ((b >>> t) % 2) 1 then
      (bif Nat.beq ((b >>> ((t + step) % rows)) % 2) 1 then chN rows step i n b (((t + step) % rows + 1) % rows) else chN rows step i n b ((t + step) % rows))
    else
      (bif Nat.beq (((b ||| 1 <<< t) >>> ((t + step) % rows)) % 2) 1 then chN rows step i (n + 1) (b ||| 1 <<< t) (((t + step) % rows + 1) % rows) else chN rows step i (n + 1) (b ||| 1 <<< t) ((t + step) % rows))
def chOk : Bool := (List.range 21).all fun rows => (List.range rows).all fun t => (List.range rows).all fun step => Nat.ble (rows - 1) (chN rows step (2 * rows) 0 0 t)
def bls (b : Nat) : List Value := (List.range 20).map fun x => .bool (b.testBit x)
@[simp] theorem bls_length (b : Nat) : (bls b).length = 20 := by simp [bls]
theorem fitB_iff {o : Fq} {k m : Int} : fitB o k m = true ↔ o.isSome = true ∧ 1 ≤ k ∧ 1 ≤ m ∧ k < 20 ∧ m < 20 ∧ k + m ≤ 20 := by unfold fitB; rw [Bool.and_eq_true, decide_eq_true_iff]
end Go.Gam
