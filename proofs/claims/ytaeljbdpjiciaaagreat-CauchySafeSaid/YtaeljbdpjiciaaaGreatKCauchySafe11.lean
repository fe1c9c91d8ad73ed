/- Texts of the claim CauchySafe (part 11), put together in the order of their imports. -/
import Derived.Test.YtaeljbdpjiciaaaGreatKCauchySafe10
/- The walks of gambrelref08: the choice behind a choice; rows that are safe. -/
set_option linter.unusedVariables false
set_option linter.unusedSimpArgs false
namespace Go.Proofs.YtaeljbdpjiciaaaGreat
open Go Go.Gam


namespace FxFRef08b
theorem en16 : Ent Tryz.prog 16 := ent Tryz.func16 (by kernel_rfl) (by kernel_rfl)
theorem en17 : Ent Tryz.prog 17 := ent Tryz.func17 (by kernel_rfl) (by kernel_rfl)
theorem en18 : Ent Tryz.prog 18 := ent Tryz.func18 (by kernel_rfl) (by kernel_rfl)
theorem en19 : Ent Tryz.prog 19 := ent Tryz.func19 (by kernel_rfl) (by kernel_rfl)
theorem en20 : Ent Tryz.prog 20 := ent Tryz.func20 (by kernel_rfl) (by kernel_rfl)
theorem en21 : Ent Tryz.prog 21 := ent Tryz.func21 (by kernel_rfl) (by kernel_rfl)
theorem en22 : Ent Tryz.prog 22 := ent Tryz.func22 (by kernel_rfl) (by kernel_rfl)
theorem sc3 : Scalar Tryz.prog 3 := ⟨_, Tryz.underlying3, by simp, by simp⟩
theorem sc39 : Scalar Tryz.prog 39 := ⟨_, Tryz.underlying39, by simp, by simp⟩
theorem sl22 : Sl Tryz.prog 22 39 (.slice none 0 0) 24 := sl_of Tryz.underlying22 rfl (by kernel_rfl)
theorem sl39 : Sl Tryz.prog 39 3 (.int .i64 0) 8 := sl_of Tryz.underlying39 rfl (by kernel_rfl)
end FxFRef08b
open FxFRef08b

theorem casts_at {L : List Nat} {i a : Nat} (h : L[i]? = some a) : (casts L)[i]? = some (a : Int) := by unfold casts; rw [List.getElem?_map, h]; rfl
theorem casts_snoc (l : List Nat) (x : Nat) : zints (casts (l ++ [x])) = zints (casts l) ++ [.int .i64 (x : Int)] := by simp [casts, zints]

set_option maxRecDepth 100000 in
set_option maxHeartbeats 1000000 in
theorem rnext_ok (B M N : Nat) (pl : Option Addr) (cl : Nat) (L : List Nat) (w : World) (hI : Inv FDx B w) (hM : M ≤ w.heap.size) (hx : Row FDx B M w (.slice pl L.length cl) (zints (casts L))) (hl : L.length ≤ 1000) (hN : N ≤ 1000 ∧ ∀ x ∈ L, x < 1000) : Ret Tryz.prog 22 [.slice pl L.length cl, .int .i64 (N : Int)] w fun v w' => ∃ u ob, v = .tuple #[u, .bool (nx N L).isSome] ∧ Gam.Own FDx B w.heap.size w' FDx.E u ob (zints (casts ((nx N L).getD []))) ∧ St FDx B w w' := by
 refine enter2 52 [(0, .slice pl L.length cl), (1, .int .i64 (N : Int))] 4 5 Tryz.func22 rfl rfl rfl rfl rfl ?_; intro a hF
 have hS := St.refl hI
 have hcl := casts_length L
 have hN1 := hN.1
 refine W_sr rfl (fun K hK => ?_)
 refine sv2 hF (v_assign rfl) (v_assign rfl) rfl rfl ?_; clear hF a; intro a hF
 refine WL_nil (hK _ _ ?_)
 clear hK K
 refine W_sr rfl (fun K hK => ?_)
 refine sv hF (v_move rfl) rfl ?_; clear hF a; intro a hF
 refine sv hF (v_lenS rfl sl39 rfl) rfl ?_; clear hF a; intro a hF
 refine sv hF (v_assign rfl) rfl ?_; clear hF a; intro a hF
 refine WL_nil (hK _ _ ?_)
 clear hK K
 replace hF := hF.sub _ (c_ 6 rfl (c_ 5 rfl (c_ 4 rfl (c_ 0 rfl (c_ 1 rfl (n_))))))
 refine W_seq ?_
 refine W_sr rfl (fun K hK => ?_)
 refine sv hF (v_move rfl) rfl ?_; clear hF a; intro a hF
 refine sv hF (v_subI rfl rfl (by omega)) rfl ?_; clear hF a; intro a hF
 refine sv hF (v_assign rfl) rfl ?_; clear hF a; intro a hF
 refine WL_nil (hK _ _ ?_)
 clear hK K
 replace hF := hF.sub _ (c_ 7 rfl (c_ 6 rfl (c_ 5 rfl (c_ 4 rfl (c_ 0 rfl (c_ 1 rfl (n_)))))))
 refine W_block ?_
 refine W_loop (fun q a w1 => ∃ (c : Nat), Fr 52 [(0, .slice pl L.length cl), (1, .int .i64 (N : Int)), (6, .int .i64 (L.length : Int)), (7, .int .i64 ((c : Int) - 1))] a ∧ (St FDx B w w1) ∧ (Row FDx B M w1 (.slice pl L.length cl) (zints (casts L))) ∧ (c ≤ L.length) ∧ (nx N (L.drop c) = none) ∧ (q = c)) (L.length) ?_ ?_
 ·
  skip
  exact ⟨L.length, hF.sub _ (c_ 0 rfl (c_ 1 rfl (c_ 6 rfl (c_ 7 rfl (n_))))), hS, hx, by omega, by rw [List.drop_length]; rfl, rfl⟩
 ·
  skip
  clear hF
  clear hS hx
  rintro q a w1 ⟨c, hF, hS, hx, hc, hn, hq⟩
  refine W_seq ?_
  refine W_sr rfl (fun K hK => ?_)
  refine sv hF (v_move rfl) rfl ?_; clear hF a; intro a hF
  refine sv hF (v_geq rfl rfl) rfl ?_; clear hF a; intro a hF
  refine WL_nil (hK _ _ ?_)
  clear hK K
  replace hF := hF.sub _ (c_ 15 rfl (c_ 0 rfl (c_ 1 rfl (c_ 6 rfl (c_ 7 rfl (n_))))))
  refine W_if hF rfl (fun hc1 => ?_) (fun hc1 => ?_)
  ·
   skip
   try simp only [dcl] at hc1
   obtain ⟨i, rfl⟩ : ∃ i, c = i + 1 := ⟨c - 1, by omega⟩
   rw [show (((i + 1 : Nat) : Int) - 1) = (i : Int) by omega] at hF
   obtain ⟨b_, hb⟩ : ∃ z, L[i]? = some z := ⟨_, List.getElem?_eq_getElem (by omega)⟩
   have hbl := hN.2 b_ (List.mem_of_getElem? hb)
   obtain ⟨gp, op, rfl, hkb, -⟩ := hx.kat (zints_at (casts_at hb))
   refine W_skip ?_
   refine W_seq ?_
   refine W_block ?_
   refine W_sr rfl (fun K hK => ?_)
   refine sv2 hF (v_move rfl) (v_move rfl) rfl rfl ?_; clear hF a; intro a hF
   refine sv hF (v_ixS sl39 rfl rfl (by omega) (by omega)) rfl ?_; clear hF a; intro a hF
   refine sv hF (v_load sc3 rfl (by rw [toNat_c]; exact hkb.c)) rfl ?_; clear hF a; intro a hF
   refine sv2 hF (v_move rfl) (v_move rfl) rfl rfl ?_; clear hF a; intro a hF
   refine sv hF (v_subI rfl rfl (by omega)) rfl ?_; clear hF a; intro a hF
   refine sv hF (v_move rfl) rfl ?_; clear hF a; intro a hF
   refine sv hF (v_addI rfl rfl (by omega)) rfl ?_; clear hF a; intro a hF
   refine sv hF (v_lss rfl rfl) rfl ?_; clear hF a; intro a hF
   refine WL_nil (hK _ _ ?_)
   clear hK K
   replace hF := hF.sub _ (c_ 27 rfl (c_ 0 rfl (c_ 1 rfl (c_ 6 rfl (c_ 7 rfl (n_))))))
   refine W_if hF rfl (fun hc2 => ?_) (fun hc2 => ?_)
   ·
    skip
    try simp only [dcl] at hc2
    have hyes := nx_yes hb hn (by omega)
    have hs0 := hS.ext.size
    have hcap := hx.capd
    refine W_sr rfl (fun K hK => ?_)
    refine s_bs (D := FDx) (B := B) hF sl39 rfl rfl (by decide) (by simp [Value.cells]) (by decide) hS.inv rfl ?_; clear hF a; intro w' a hm hI' hO hF
    replace hx := hx.mb hm (fun _ h => by cases h)
    replace hS := hS.mb0 hm
    clear hm hI'
    replace hO := hO.le hs0
    clear hs0
    refine sv2 hF (v_move rfl) (v_move rfl) rfl rfl ?_; clear hF a; intro a hF
    refine sv hF (v_slHi sl39 rfl rfl (by omega) (by omega)) rfl ?_; clear hF a; intro a hF
    refine s_app (D := FDx) (B := B) hF rfl sl39 rfl rfl hO ((hx.to (hi := i) (by rw [zints_length]; omega))) ((fun u hu => zints_one _ u (List.mem_of_mem_take hu))) (by simp; omega) (by simp [maxLen]; omega) (hS.ext.size) (by decide) hS.inv rfl ?_; clear hF a; intro v' b' w' a ho' hm hI' hb' hF
    replace hx := hx.mb hm (fun k h => Nat.le_trans (hM) (hO.lt k h).1)
    replace hS := hS.mb hm (fun k h => Nat.le_trans (Nat.le_refl _) (hO.lt k h).1)
    replace hO := ho'
    clear hm hI' ho'
    refine sv hF (v_assign rfl) rfl ?_; clear hF a; intro a hF
    refine WL_nil (hK _ _ ?_)
    clear hK K
    replace hF := hF.sub _ (c_ 8 rfl (c_ 0 rfl (c_ 1 rfl (c_ 6 rfl (c_ 7 rfl (n_))))))
    refine W_seq ?_
    refine W_sr rfl (fun K hK => ?_)
    refine sv2 hF (v_move rfl) (v_assign rfl) rfl rfl ?_; clear hF a; intro a hF
    refine WL_nil (hK _ _ ?_)
    clear hK K
    replace hF := hF.sub _ (c_ 9 rfl (c_ 8 rfl (c_ 0 rfl (c_ 1 rfl (c_ 6 rfl (c_ 7 rfl (n_)))))))
    refine W_block ?_
    refine W_loop (fun q2 a w2 => ∃ (k : Nat) (v8 : Value) (b8 : Option Nat), Fr 52 [(0, .slice (some ⟨gp, op, none⟩) L.length cl), (6, .int .i64 (L.length : Int)), (7, .int .i64 (i : Int)), (8, v8), (9, .int .i64 (k : Int))] a ∧ (St FDx B w w2) ∧ (Row FDx B M w2 (.slice (some ⟨gp, op, none⟩) L.length cl) (zints (casts L))) ∧ (Gam.Own FDx B w.heap.size w2 FDx.E v8 b8 (zints (casts (L.take i ++ upN (b_ + 1) (k - i))))) ∧ (i ≤ k ∧ k ≤ L.length) ∧ (q2 + k = L.length)) (L.length - i) ?_ ?_
    ·
     skip
     exact ⟨i, _, _, hF.sub _ (c_ 0 rfl (c_ 6 rfl (c_ 7 rfl (c_ 8 rfl (c_ 9 rfl (n_)))))), hS, hx, hO.cast (by rw [Nat.sub_self]; simp [casts, zints, upN]), by omega, by omega⟩
    ·
     skip
     clear hF
     clear hS hx
     rintro q2 a w2 ⟨k, v8, b8, hF, hS, hx, hO, hk, hq2⟩
     refine W_seq ?_
     refine W_sr rfl (fun K hK => ?_)
     refine sv2 hF (v_move rfl) (v_move rfl) rfl rfl ?_; clear hF a; intro a hF
     refine sv hF (v_lss rfl rfl) rfl ?_; clear hF a; intro a hF
     refine WL_nil (hK _ _ ?_)
     clear hK K
     replace hF := hF.sub _ (c_ 36 rfl (c_ 0 rfl (c_ 6 rfl (c_ 7 rfl (c_ 8 rfl (c_ 9 rfl (n_)))))))
     refine W_if hF rfl (fun hc3 => ?_) (fun hc3 => ?_)
     ·
      skip
      try simp only [dcl] at hc3
      have hlt : k < L.length := by omega
      obtain ⟨gp2, op2, hg2, hkb, -⟩ := hx.kat (zints_at (casts_at hb))
      cases hg2
      have hzl : (zints (casts (L.take i ++ upN (b_ + 1) (k - i)))).length = i + (k - i) := by rw [zints_length, casts_length, List.length_append, List.length_take, upN_length]; omega
      refine W_skip ?_
      refine W_seq ?_
      refine W_block ?_
      refine W_reg rfl (fun K hK => ?_)
      refine sv3 hF (v_move rfl) (v_move rfl) (v_move rfl) rfl rfl rfl ?_; clear hF a; intro a hF
      refine sv hF (v_ixS sl39 rfl rfl (by omega) (by omega)) rfl ?_; clear hF a; intro a hF
      refine sv hF (v_load sc3 rfl (by rw [toNat_c]; exact hkb.c)) rfl ?_; clear hF a; intro a hF
      refine sv hF (v_addI rfl rfl (by omega)) rfl ?_; clear hF a; intro a hF
      refine sv hF (v_move rfl) rfl ?_; clear hF a; intro a hF
      refine sv hF (v_addI rfl rfl (by omega)) rfl ?_; clear hF a; intro a hF
      refine sv hF (v_move rfl) rfl ?_; clear hF a; intro a hF
      refine sv hF ((v_subI rfl rfl (by omega)).as (show Value.int .i64 ((b_ : Int) + 1 + (k : Int) - (i : Int)) = .int .i64 ((b_ + 1 + (k - i) : Nat) : Int) by congr 1; omega)) rfl ?_; clear hF a; intro a hF
      refine s_bs (D := FDx) (B := B) hF sl39 rfl rfl (by decide) (by simp [Value.cells]) (by decide) hS.inv rfl ?_; clear hF a; intro w' a hm hI' hL hF
      replace hx := hx.mb hm (fun _ h => by cases h)
      replace hO := hO.mb hm (fun _ _ => by simp)
      replace hS := hS.mb0 hm
      clear hm hI'
      refine s_app (D := FDx) (B := B) hF rfl sl39 rfl rfl hO (hL.row (by decide)) (by simp [Value.oneCell']) (by rw [hzl]; simp; omega) (by rw [hzl]; simp [maxLen]; omega) (hS.ext.size) (by decide) hS.inv rfl ?_; clear hF a; intro v' b' w' a ho' hm hI' hb' hF
      replace hx := hx.mb hm (fun k h => Nat.le_trans (hM) (hO.lt k h).1)
      replace hS := hS.mb hm (fun k h => Nat.le_trans (Nat.le_refl _) (hO.lt k h).1)
      replace hO := ho'
      clear hm hI' ho'
      refine sv hF (v_assign rfl) rfl ?_; clear hF a; intro a hF
      refine WL_nil (hK _ _ ?_)
      clear hK K
      replace hF := hF.sub _ (c_ 8 rfl (c_ 0 rfl (c_ 6 rfl (c_ 7 rfl (c_ 9 rfl (n_))))))
      refine W_reg rfl (fun K hK => ?_)
      refine sv hF (v_move rfl) rfl ?_; clear hF a; intro a hF
      refine sv hF (v_addI rfl rfl (by omega)) rfl ?_; clear hF a; intro a hF
      refine sv hF (v_assign rfl) rfl ?_; clear hF a; intro a hF
      refine WL_nil (hK _ _ ?_)
      clear hK K
      exact ⟨q2 - 1, by omega, k + 1, _, _, hF.sub _ (c_ 0 rfl (c_ 6 rfl (c_ 7 rfl (c_ 8 rfl (c_ 9 rfl (n_)))))), hS, hx, hO.cast (by rw [show k + 1 - i = (k - i) + 1 by omega, upN_snoc, ← List.append_assoc, casts_snoc]), by omega, by omega⟩
     ·
      skip
      try simp only [dcl] at hc3
      refine W_exit rfl ?_
      refine W_sr rfl (fun K hK => ?_)
      refine sv3 hF (v_move rfl) (v_assign rfl) (v_assign rfl) rfl rfl rfl ?_; clear hF a; intro a hF
      refine WL_nil (hK _ _ ?_)
      clear hK K
      replace hF := hF.sub _ (c_ 5 rfl (c_ 4 rfl (c_ 51 rfl (c_ 0 rfl (c_ 6 rfl (c_ 7 rfl (c_ 8 rfl (c_ 9 rfl (n_)))))))))
      refine W_ret ?_
      refine ⟨_, _, _, hF, rfl, rfl, ?_⟩
      obtain rfl : k = L.length := by omega
      rw [hyes]
      exact ⟨_, _, rfl, hO, hS⟩
   ·
    skip
    try simp only [dcl] at hc2
    have hno := nx_no hb hn (by omega)
    refine W_skip ?_
    refine W_reg rfl (fun K hK => ?_)
    refine sv hF (v_move rfl) rfl ?_; clear hF a; intro a hF
    refine sv hF (v_subI rfl rfl (by omega)) rfl ?_; clear hF a; intro a hF
    refine sv hF (v_assign rfl) rfl ?_; clear hF a; intro a hF
    refine WL_nil (hK _ _ ?_)
    clear hK K
    replace hF := hF.sub _ (c_ 7 rfl (c_ 17 rfl (c_ 16 rfl (c_ 0 rfl (c_ 1 rfl (c_ 6 rfl (n_)))))))
    exact ⟨q - 1, by omega, i, hF.sub _ (c_ 0 rfl (c_ 1 rfl (c_ 6 rfl (c_ 7 rfl (n_))))), hS, hx, by omega, hno, by omega⟩
  ·
   skip
   try simp only [dcl] at hc1
   refine W_exit rfl ?_
   refine W_sr rfl (fun K hK => ?_)
   refine sv2 hF (v_assign rfl) (v_assign rfl) rfl rfl ?_; clear hF a; intro a hF
   refine WL_nil (hK _ _ ?_)
   clear hK K
   replace hF := hF.sub _ (c_ 5 rfl (c_ 4 rfl (c_ 0 rfl (c_ 1 rfl (c_ 6 rfl (c_ 7 rfl (n_)))))))
   refine W_ret ?_
   refine ⟨_, _, _, hF, rfl, rfl, ?_⟩
   obtain rfl : c = 0 := by omega
   rw [List.drop_zero] at hn
   rw [hn]
   exact ⟨.slice none 0 0, none, rfl, Gam.Own.nil _ _ _ _ _, hS⟩

set_option maxRecDepth 100000 in
set_option maxHeartbeats 1000000 in
theorem rSafe_ok (B M wb p : Nat) (hp : Prm wb p) (pmt : Option Addr) (cmt : Nat) (mt : Mtx) (w : World) (hI : Inv FDx B w) (hM : M ≤ w.heap.size) (hA : Mat FDx B M w pmt cmt mt) (hl : mt.length ≤ maxLen) (hb : ∀ r ∈ mt, r.length ≤ maxLen) : Ret Tryz.prog 8 [.int .i64 (wb : Int), .int .u32 (p : Int), .slice pmt mt.length cmt] w fun v w' => v = .tuple #[.bool (safeM hp mt).1, .int .i64 (safeM hp mt).2] ∧ St FDx B w w' := by
 refine enter2 71 [(0, .int .i64 (wb : Int)), (1, .int .u32 (p : Int)), (2, .slice pmt mt.length cmt)] 6 7 Tryz.func8 rfl rfl rfl rfl rfl ?_; intro a hF
 have hS := St.refl hI
 have hl2 := hl
 simp only [maxLen] at hl2
 refine W_sr rfl (fun K hK => ?_)
 refine sv2 hF (v_assign rfl) (v_assign rfl) rfl rfl ?_; clear hF a; intro a hF
 refine WL_nil (hK _ _ ?_)
 clear hK K
 refine W_seq ?_
 refine W_sr rfl (fun K hK => ?_)
 refine sv2 hF (v_move rfl) (v_move rfl) rfl rfl ?_; clear hF a; intro a hF
 refine sc hF rfl rfl rfl en16 rfl (rMay_ok B M wb p hp pmt cmt mt _ hS.inv hA hl hb) ?_; clear hF a; intro v w' a hv hF
 obtain ⟨rfl, hS'⟩ := hv
 replace hA := hA.st hS'
 replace hS := hS.trans hS'
 clear hS'
 refine sb hF (v_not rfl) rfl ?_ ?_
 ·
  clear hF a; intro hc1 a hF
  try simp only [dcl] at hc1
  refine sv hF (v_move rfl) rfl ?_; clear hF a; intro a hF
  refine svn hF rfl rfl rfl ?_; clear hF a; intro a hF
  refine svn hF rfl rfl rfl ?_; clear hF a; intro a hF
  refine svn hF rfl rfl rfl ?_; clear hF a; intro a hF
  refine sv2 hF (v_pickT rfl rfl) (v_move rfl) rfl rfl ?_; clear hF a; intro a hF
  refine svn hF rfl rfl rfl ?_; clear hF a; intro a hF
  refine svn hF rfl rfl rfl ?_; clear hF a; intro a hF
  refine svn hF rfl rfl rfl ?_; clear hF a; intro a hF
  refine svn hF rfl rfl rfl ?_; clear hF a; intro a hF
  refine svn hF rfl rfl rfl ?_; clear hF a; intro a hF
  refine sv hF (v_pickT rfl rfl) rfl ?_; clear hF a; intro a hF
  refine WL_nil (hK _ _ ?_)
  clear hK K
  replace hF := hF.sub _ (c_ 32 rfl (c_ 7 rfl (c_ 6 rfl (c_ 0 rfl (c_ 1 rfl (c_ 2 rfl (n_)))))))
  refine W_ifT hF rfl ?_
  refine W_sr rfl (fun K hK => ?_)
  refine sv2 hF (v_assign rfl) (v_assign rfl) rfl rfl ?_; clear hF a; intro a hF
  refine WL_nil (hK _ _ ?_)
  clear hK K
  replace hF := hF.sub _ (c_ 7 rfl (c_ 6 rfl (c_ 0 rfl (c_ 1 rfl (c_ 2 rfl (n_))))))
  refine W_ret ?_
  refine ⟨_, _, _, hF, rfl, rfl, ?_⟩
  rw [safeM_no hp (by first | (left; simpa using hc1) | (right; left; omega) | (right; right; omega))]
  exact ⟨rfl, hS⟩
 ·
  clear hF a; intro hc1 a hF
  try simp only [dcl] at hc1
  refine sv hF (v_move rfl) rfl ?_; clear hF a; intro a hF
  refine svg hF rfl ?_
  refine sv hF (v_move rfl) rfl ?_; clear hF a; intro a hF
  refine svg hF rfl ?_
  refine sv hF (v_lenS rfl sl22 rfl) rfl ?_; clear hF a; intro a hF
  refine svg hF rfl ?_
  refine sb hF (v_gtr rfl rfl) rfl ?_ ?_
  ·
   clear hF a; intro hc2 a hF
   try simp only [dcl] at hc2
   refine sv2 hF (v_pickF rfl rfl) (v_move rfl) rfl rfl ?_; clear hF a; intro a hF
   refine svn hF rfl rfl rfl ?_; clear hF a; intro a hF
   refine svn hF rfl rfl rfl ?_; clear hF a; intro a hF
   refine svn hF rfl rfl rfl ?_; clear hF a; intro a hF
   refine svn hF rfl rfl rfl ?_; clear hF a; intro a hF
   refine svn hF rfl rfl rfl ?_; clear hF a; intro a hF
   refine sv hF (v_pickT rfl rfl) rfl ?_; clear hF a; intro a hF
   refine WL_nil (hK _ _ ?_)
   clear hK K
   replace hF := hF.sub _ (c_ 32 rfl (c_ 7 rfl (c_ 6 rfl (c_ 0 rfl (c_ 1 rfl (c_ 2 rfl (n_)))))))
   refine W_ifT hF rfl ?_
   refine W_sr rfl (fun K hK => ?_)
   refine sv2 hF (v_assign rfl) (v_assign rfl) rfl rfl ?_; clear hF a; intro a hF
   refine WL_nil (hK _ _ ?_)
   clear hK K
   replace hF := hF.sub _ (c_ 7 rfl (c_ 6 rfl (c_ 0 rfl (c_ 1 rfl (c_ 2 rfl (n_))))))
   refine W_ret ?_
   refine ⟨_, _, _, hF, rfl, rfl, ?_⟩
   rw [safeM_no hp (by first | (left; simpa using hc1) | (right; left; omega) | (right; right; omega))]
   exact ⟨rfl, hS⟩
  ·
   clear hF a; intro hc2 a hF
   try simp only [dcl] at hc2
   refine sv2 hF (v_pickF rfl rfl) (v_move rfl) rfl rfl ?_; clear hF a; intro a hF
   refine svg hF rfl ?_
   have hmay : mayM (some (wb, p)) mt = true := by simpa using hc1
   have hMx := mayM_Mx hmay
   obtain ⟨gp, op, rfl⟩ := hA.at1 (by omega)
   obtain ⟨r0, h0⟩ : ∃ r, mt[0]? = some r := ⟨_, List.getElem?_eq_getElem (by omega)⟩
   obtain ⟨p0, c0, hk0, hrow0, -⟩ := hA.row2 h0
   have hw0 := wid_at h0
   refine sv hF (v_move rfl) rfl ?_; clear hF a; intro a hF
   refine svg hF rfl ?_
   refine sv hF (v_ixS sl22 rfl rfl (by decide) (by omega)) rfl ?_; clear hF a; intro a hF
   refine svg hF rfl ?_
   refine sv hF (v_load sc39 rfl hk0.c) rfl ?_; clear hF a; intro a hF
   refine svg hF rfl ?_
   refine sv hF (v_lenS rfl sl39 rfl) rfl ?_; clear hF a; intro a hF
   refine svg hF rfl ?_
   refine sv hF (v_gtr rfl rfl) rfl ?_; clear hF a; intro a hF
   refine sv hF (v_pickF rfl rfl) rfl ?_; clear hF a; intro a hF
   refine WL_nil (hK _ _ ?_)
   clear hK K
   replace hF := hF.sub _ (c_ 32 rfl (c_ 7 rfl (c_ 6 rfl (c_ 0 rfl (c_ 1 rfl (c_ 2 rfl (n_)))))))
   refine W_if hF rfl (fun hc3 => ?_) (fun hc3 => ?_)
   ·
    skip
    try simp only [dcl] at hc3
    refine W_sr rfl (fun K hK => ?_)
    refine sv2 hF (v_assign rfl) (v_assign rfl) rfl rfl ?_; clear hF a; intro a hF
    refine WL_nil (hK _ _ ?_)
    clear hK K
    replace hF := hF.sub _ (c_ 7 rfl (c_ 6 rfl (c_ 0 rfl (c_ 1 rfl (c_ 2 rfl (n_))))))
    refine W_ret ?_
    refine ⟨_, _, _, hF, rfl, rfl, ?_⟩
    rw [safeM_no hp (by first | (left; simpa using hc1) | (right; left; omega) | (right; right; omega))]
    exact ⟨rfl, hS⟩
   ·
    skip
    try simp only [dcl] at hc3
    refine W_skip ?_
    have hsafe := safeM_is hp hmay (by omega) (by rw [hw0]; omega)
    obtain ⟨n, hn⟩ : ∃ n, mt.length = n := ⟨_, rfl⟩
    obtain ⟨m, hm⟩ : ∃ n, wid mt = n := ⟨_, rfl⟩
    obtain ⟨f, hfe⟩ : ∃ f, en mt = f := ⟨_, rfl⟩
    have hbd := hMx.1.bd hp
    rw [hn, hm, hfe] at hsafe
    rw [hfe] at hbd
    have htab := hMx.1.eq_tab
    rw [hn, hm, hfe] at htab
    have hnm : 1 ≤ n ∧ n ≤ 5 ∧ 1 ≤ m ∧ m ≤ 8 := by rw [← hn, ← hm]; exact ⟨by omega, by omega, by omega, by rw [hw0]; omega⟩
    rw [htab] at hA
    rw [hn] at hF
    clear hk0 hrow0
    obtain ⟨pr0, cr0, hk0, hrow0, -⟩ := hA.row2 (show (tab n m f)[0]? = some (trow m f 0) from tab_at (by omega))
    rw [trow_length] at hk0
    have hid : identM (m : Int) = idM m := identM_of (by omega)
    have hidl := idM_lens (m : Int)
    rw [hid] at hidl
    have hji := join_id hp (k := m) hbd (m := n) (by omega) (by omega) (by omega)
    have hal := len1k (tab_lens (n := n) (m := m) (f := f) (by omega) (by omega))
    have hjl := len1k (tab_lens (n := m + n) (m := m) (f := beh m f) (by omega) (by omega))
    refine W_sr rfl (fun K hK => ?_)
    refine sv hF (v_move rfl) rfl ?_; clear hF a; intro a hF
    refine sv hF (v_ixS sl22 rfl rfl (by decide) (by omega)) rfl ?_; clear hF a; intro a hF
    refine sv hF (v_load sc39 rfl hk0.c) rfl ?_; clear hF a; intro a hF
    refine sv hF (v_lenS rfl sl39 rfl) rfl ?_; clear hF a; intro a hF
    refine sv hF (v_assign rfl) rfl ?_; clear hF a; intro a hF
    refine WL_nil (hK _ _ ?_)
    clear hK K
    replace hF := hF.sub _ (c_ 8 rfl (c_ 7 rfl (c_ 6 rfl (c_ 0 rfl (c_ 1 rfl (c_ 2 rfl (n_)))))))
    clear hk0 hrow0
    refine W_sr rfl (fun K hK => ?_)
    refine sv2 hF (v_move rfl) (v_move rfl) rfl rfl ?_; clear hF a; intro a hF
    refine sc hF rfl rfl rfl en18 rfl (rIdentity_ok B (m : Int) _ hS.inv (by omega)) ?_; clear hF a; intro v w' a hv hF
    obtain ⟨obI_, hoI_, hS'⟩ := hv
    rw [hid] at hoI_
    obtain ⟨sI_, cI_, rfl, hI_⟩ := hoI_.mat (by decide) (Nat.zero_le _)
    clear hoI_
    replace hA := hA.st hS'
    replace hS := hS.trans hS'
    clear hS'
    refine sv hF (v_move rfl) rfl ?_; clear hF a; intro a hF
    rw [show Value.slice (some ⟨gp, op, none⟩) n cmt = .slice (some ⟨gp, op, none⟩) (tab n m f).length cmt by rw [tab_length]] at hF
    refine sc hF rfl rfl rfl en17 rfl (rJoin_ok B _ wb p hp _ _ (idM m) _ _ (tab n m f) _ hS.inv (Nat.le_refl _) hI_ (len1k hidl).1 (len1k hidl).2 (hA.mono (Nat.le_trans hM hS.ext.size)) hal.1 hal.2) ?_; clear hF a; intro v w' a hv hF
    obtain ⟨obJ, uJ, rfl, hoJ, hS'⟩ := hv
    rw [hji] at hoJ hF
    try simp only [Option.getD_some, Option.getD_none] at hoJ
    obtain ⟨sJ, cJ, rfl, hJ⟩ := hoJ.mat (by decide) hS'.ext.size
    clear hoJ
    replace hS := hS.trans hS'
    clear hS'
    refine sv5 hF (v_move rfl) (v_ext rfl rfl) (v_ext rfl rfl) (v_assign rfl) (v_assign rfl) rfl rfl rfl rfl rfl ?_; clear hF a; intro a hF
    refine WL_nil (hK _ _ ?_)
    clear hK K
    replace hF := hF.sub _ (c_ 9 rfl (c_ 8 rfl (c_ 7 rfl (c_ 6 rfl (c_ 0 rfl (c_ 1 rfl (n_)))))))
    rw [tab_length] at hF
    refine W_sr rfl (fun K hK => ?_)
    refine sv hF (v_move rfl) rfl ?_; clear hF a; intro a hF
    refine sc hF rfl rfl rfl en19 rfl (rfrom_ok B 0 m _ hS.inv (by omega)) ?_; clear hF a; intro v w' a hv hF
    obtain ⟨obR, hO, hS'⟩ := hv
    obtain ⟨pR, cR, rfl⟩ := hO.shape
    have hR := hO.row (by decide)
    rw [← upN_rnL, zints_length, casts_length, show upN 0 m = ((ch (m + n) m 0)[0]?).getD [] by rw [ch_0 (by omega)]; rfl] at hR hF
    clear hO
    replace hJ := (hJ.st hS').mono hS'.ext.size
    replace hS := hS.trans hS'
    clear hS'
    refine sv hF (v_assign rfl) rfl ?_; clear hF a; intro a hF
    refine WL_nil (hK _ _ ?_)
    clear hK K
    replace hF := hF.sub _ (c_ 11 rfl (c_ 9 rfl (c_ 7 rfl (c_ 6 rfl (c_ 0 rfl (c_ 1 rfl (n_)))))))
    refine W_seq ?_
    refine W_sr rfl (fun K hK => ?_)
    refine sv hF (v_assign rfl) rfl ?_; clear hF a; intro a hF
    refine WL_nil (hK _ _ ?_)
    clear hK K
    rw [show Value.bool true = .bool ((ch (m + n) m 0)[0]?).isSome by rw [ch_0 (by omega)]; rfl] at hF
    obtain ⟨KJ, hKe⟩ : ∃ K, K = w'.heap.size := ⟨_, rfl⟩
    have hKJ : KJ ≤ w'.heap.size := by omega
    rw [← hKe] at hJ
    clear hKe
    refine W_block ?_
    refine W_loop (fun q a w1 => ∃ (i : Nat) (pR : Option Addr) (cR : Nat), Fr 71 [(0, .int .i64 (wb : Int)), (1, .int .u32 (p : Int)), (9, .slice sJ (m + n) cJ), (11, .slice pR (((ch (m + n) m 0)[i]?).getD []).length cR), (12, .bool ((ch (m + n) m 0)[i]?).isSome)] a ∧ (St FDx B w w1) ∧ (Mat FDx B KJ w1 sJ cJ (tab (m + n) m (beh m f))) ∧ (KJ ≤ w1.heap.size) ∧ (Row FDx B w1.heap.size w1 (.slice pR (((ch (m + n) m 0)[i]?).getD []).length cR) (zints (casts (((ch (m + n) m 0)[i]?).getD [])))) ∧ (∀ j, j < i → ∀ L, (ch (m + n) m 0)[j]? = some L → bOk hp m f L) ∧ (i ≤ (ch (m + n) m 0).length) ∧ (q + i = (ch (m + n) m 0).length)) ((ch (m + n) m 0).length) ?_ ?_
    ·
     skip
     exact ⟨0, _, _, hF.sub _ (c_ 0 rfl (c_ 1 rfl (c_ 9 rfl (c_ 11 rfl (c_ 12 rfl (n_)))))), hS, hJ, hKJ, hR, (fun j hj => by omega), Nat.zero_le _, by omega⟩
    ·
     skip
     clear hF
     clear hS hJ hKJ hR
     rintro q a w1 ⟨i, pR, cR, hF, hS, hJ, hKJ, hR, hall, hi, hq⟩
     refine W_seq ?_
     refine W_sr rfl (fun K hK => ?_)
     refine sv hF (v_move rfl) rfl ?_; clear hF a; intro a hF
     refine WL_nil (hK _ _ ?_)
     clear hK K
     refine W_if hF rfl (fun hc4 => ?_) (fun hc4 => ?_)
     ·
      skip
      try simp only [dcl] at hc4
      have hsm : ((ch (m + n) m 0)[i]?).isSome = true := by assumption
      obtain ⟨L, hL⟩ := Option.isSome_iff_exists.1 hsm
      have hlt := (List.getElem?_eq_some_iff.1 hL).1
      rw [hL, Option.getD_some] at hR
      rw [hL, Option.getD_some] at hF
      obtain ⟨hLl, hLr, hLb⟩ := ch_mem.1 (List.mem_of_getElem? hL)
      have hcL := casts_length L
      have hpk : pickM (some (wb, p)) (tab (m + n) m (beh m f)) (casts L) = some (bT m f L) := by rw [pick_tab hp (hp.fld.beh_bd hbd) (by omega) (by omega) (by omega) (fun x hx => by have := hLb x hx; omega), hLl]; rfl
      have hnx := nx_ch hL
      have hbl := len1k (tab_lens (n := m + n) (m := m) (f := beh m f) (by omega) (by omega))
      have hal2 := len20 (tab_lens (n := m) (m := m) (f := fun i j => beh m f (L.getD i 0) j) (by omega) (by omega))
      rw [show Value.slice sJ (m + n) cJ = .slice sJ (tab (m + n) m (beh m f)).length cJ by rw [tab_length], show Value.slice pR L.length cR = .slice pR (casts L).length cR by rw [hcL]] at hF
      rw [← hcL] at hR
      refine W_skip ?_
      refine W_block ?_
      refine W_sr rfl (fun K hK => ?_)
      refine sv3 hF (v_move rfl) (v_move rfl) (v_move rfl) rfl rfl rfl ?_; clear hF a; intro a hF
      refine sc hF rfl rfl rfl en20 rfl (rPick_ok B _ wb p hp _ _ (tab (m + n) m (beh m f)) _ _ (casts L) _ hS.inv (Nat.le_refl _) (hJ.mono hKJ) hjl.1 hjl.2 hR (by rw [hcL]; omega)) ?_; clear hF a; intro v w' a hv hF
      obtain ⟨obP, uP, rfl, hoP, hS'⟩ := hv
      rw [hpk] at hoP hF
      try simp only [Option.getD_some, Option.getD_none] at hoP
      obtain ⟨sP, cP, rfl, hP⟩ := hoP.mat (by decide) hS'.ext.size
      clear hoP
      replace hJ := hJ.st hS'
      replace hKJ := Nat.le_trans hKJ hS'.ext.size
      replace hR := (hR.st hS').mono hS'.ext.size
      replace hS := hS.trans hS'
      clear hS'
      refine sv5 hF (v_move rfl) (v_ext rfl rfl) (v_ext rfl rfl) (v_assign rfl) (v_assign rfl) rfl rfl rfl rfl rfl ?_; clear hF a; intro a hF
      refine WL_nil (hK _ _ ?_)
      clear hK K
      replace hF := hF.sub _ (c_ 13 rfl (c_ 0 rfl (c_ 1 rfl (c_ 9 rfl (c_ 11 rfl (c_ 12 rfl (n_)))))))
      refine W_sr rfl (fun K hK => ?_)
      refine sv3 hF (v_move rfl) (v_move rfl) (v_move rfl) rfl rfl rfl ?_; clear hF a; intro a hF
      refine sc hF rfl rfl rfl en21 rfl (rInverse_ok B _ wb p hp _ _ (bT m f L) _ hS.inv (Nat.le_refl _) hP hal2.1 hal2.2) ?_; clear hF a; intro v w' a hv hF
      obtain ⟨sY, cY, rfl, hY, hS'⟩ := hv
      clear hY
      replace hJ := hJ.st hS'
      replace hKJ := Nat.le_trans hKJ hS'.ext.size
      replace hR := (hR.st hS').mono hS'.ext.size
      replace hS := hS.trans hS'
      clear hS'
      refine sv5 hF (v_move rfl) (v_ext rfl rfl) (v_ext rfl rfl) (v_assign rfl) (v_assign rfl) rfl rfl rfl rfl rfl ?_; clear hF a; intro a hF
      refine WL_nil (hK _ _ ?_)
      clear hK K
      replace hF := hF.sub _ (c_ 16 rfl (c_ 0 rfl (c_ 1 rfl (c_ 9 rfl (c_ 11 rfl (c_ 12 rfl (n_)))))))
      refine W_seq ?_
      refine W_sr rfl (fun K hK => ?_)
      refine sv hF (v_move rfl) rfl ?_; clear hF a; intro a hF
      refine sv hF (v_neq rfl rfl) rfl ?_; clear hF a; intro a hF
      refine WL_nil (hK _ _ ?_)
      clear hK K
      replace hF := hF.sub _ (c_ 63 rfl (c_ 0 rfl (c_ 1 rfl (c_ 9 rfl (c_ 11 rfl (c_ 12 rfl (n_)))))))
      refine W_if hF rfl (fun hc5 => ?_) (fun hc5 => ?_)
      ·
       skip
       try simp only [dcl] at hc5
       have hne : ¬ bOk hp m f L := by unfold bOk; assumption
       have hno : safeB hp n m f = false := by rw [Bool.eq_false_iff]; exact fun h => hne (safe_pick hp hbd (by omega) h (List.mem_of_getElem? hL))
       refine W_sr rfl (fun K hK => ?_)
       refine sv2 hF (v_assign rfl) (v_assign rfl) rfl rfl ?_; clear hF a; intro a hF
       refine WL_nil (hK _ _ ?_)
       clear hK K
       replace hF := hF.sub _ (c_ 7 rfl (c_ 6 rfl (c_ 0 rfl (c_ 1 rfl (c_ 9 rfl (c_ 11 rfl (c_ 12 rfl (n_))))))))
       refine W_ret ?_
       refine ⟨_, _, _, hF, rfl, rfl, ?_⟩
       rw [hsafe, hno]
       exact ⟨rfl, hS⟩
      ·
       skip
       try simp only [dcl] at hc5
       have hyes : bOk hp m f L := by unfold bOk; first | assumption | exact Decidable.of_not_not (by assumption)
       have hall2 : ∀ j, j < i + 1 → ∀ L, (ch (m + n) m 0)[j]? = some L → bOk hp m f L := fun j hj L' hL' => by
        rcases Nat.lt_or_ge j i with h | h
        ·
         exact hall j h L' hL'
        ·
         obtain rfl : j = i := by omega
         rw [hL] at hL'; obtain rfl := Option.some.inj hL'; exact hyes
       rw [tab_length, hcL] at hF
       rw [hcL] at hR
       refine W_skip ?_
       refine W_reg rfl (fun K hK => ?_)
       refine sv2 hF (v_move rfl) (v_move rfl) rfl rfl ?_; clear hF a; intro a hF
       refine sv hF (v_lenS rfl sl22 rfl) rfl ?_; clear hF a; intro a hF
       refine sc hF rfl rfl rfl en22 rfl (rnext_ok B _ (m + n) pR cR L _ hS.inv (Nat.le_refl _) hR (by omega) ⟨by omega, fun x hx => by have := hLb x hx; omega⟩) ?_; clear hF a; intro v w' a hv hF
       obtain ⟨u, obR, rfl, hO, hS'⟩ := hv
       obtain ⟨pR2, cR2, rfl⟩ := hO.shape
       have hR2 := hO.row (by decide)
       rw [hnx] at hR2 hF
       rw [zints_length, casts_length] at hR2 hF
       clear hO
       replace hJ := hJ.st hS'
       replace hKJ := Nat.le_trans hKJ hS'.ext.size
       replace hS := hS.trans hS'
       clear hS'
       refine sv5 hF (v_move rfl) (v_ext rfl rfl) (v_ext rfl rfl) (v_assign rfl) (v_assign rfl) rfl rfl rfl rfl rfl ?_; clear hF a; intro a hF
       refine WL_nil (hK _ _ ?_)
       clear hK K
       replace hF := hF.sub _ (c_ 12 rfl (c_ 11 rfl (c_ 0 rfl (c_ 1 rfl (c_ 9 rfl (n_))))))
       exact ⟨q - 1, by omega, i + 1, _, _, hF.sub _ (c_ 0 rfl (c_ 1 rfl (c_ 9 rfl (c_ 11 rfl (c_ 12 rfl (n_)))))), hS, hJ, by omega, hR2, hall2, by omega, by omega⟩
     ·
      skip
      try simp only [dcl] at hc4
      have hnone : ¬ i < (ch (m + n) m 0).length := fun h => by
       have e : ((ch (m + n) m 0)[i]?).isSome = true := by rw [List.getElem?_eq_getElem h]; rfl
       have e2 : ((ch (m + n) m 0)[i]?).isSome = false := by assumption
       rw [e] at e2; cases e2
      have hyes : safeB hp n m f = true := safe_all hp hbd (by omega) (by omega) fun L hL => by
       obtain ⟨j, hj⟩ := List.getElem?_of_mem hL
       exact hall j (by have := (List.getElem?_eq_some_iff.1 hj).1; omega) L hj
      refine W_exit rfl ?_
      refine W_sr rfl (fun K hK => ?_)
      refine sv2 hF (v_assign rfl) (v_assign rfl) rfl rfl ?_; clear hF a; intro a hF
      refine WL_nil (hK _ _ ?_)
      clear hK K
      replace hF := hF.sub _ (c_ 7 rfl (c_ 6 rfl (c_ 0 rfl (c_ 1 rfl (c_ 9 rfl (c_ 11 rfl (c_ 12 rfl (n_))))))))
      refine W_ret ?_
      refine ⟨_, _, _, hF, rfl, rfl, ?_⟩
      rw [hsafe, hyes]
      exact ⟨rfl, hS⟩

end Go.Proofs.YtaeljbdpjiciaaaGreat

/- The statement CauchySafe, walked: it returns true. -/
set_option linter.unusedVariables false
set_option linter.unusedSimpArgs false
namespace Go.Proofs.YtaeljbdpjiciaaaGreat
open Go Go.Gam


namespace FxFCauchySafe
theorem en4 : Ent Tryz.prog 4 := ent Tryz.func4 (by kernel_rfl) (by kernel_rfl)
theorem en5 : Ent Tryz.prog 5 := ent Tryz.func5 (by kernel_rfl) (by kernel_rfl)
theorem en6 : Ent Tryz.prog 6 := ent Tryz.func6 (by kernel_rfl) (by kernel_rfl)
theorem en7 : Ent Tryz.prog 7 := ent Tryz.func7 (by kernel_rfl) (by kernel_rfl)
theorem en8 : Ent Tryz.prog 8 := ent Tryz.func8 (by kernel_rfl) (by kernel_rfl)
end FxFCauchySafe
open FxFCauchySafe

set_option maxRecDepth 100000 in
set_option maxHeartbeats 1000000 in
theorem CauchySafe_ok (B M : Nat) (lg : Bool) (pma : Option Addr) (cma : Nat) (ma : Mtx) (w : World) (hI : Inv FDx B w) (hM : M ≤ w.heap.size) (hAma : Mat FDx B M w pma cma ma) (hlma : ma.length ≤ maxLen) (hbma : ∀ r ∈ ma, r.length ≤ maxLen) : Ret Tryz.prog 3 [.bool lg, .slice pma ma.length cma] w fun v w' => v = .bool true ∧ St FDx B w w' := by
 refine enter 48 [(0, .bool lg), (1, .slice pma ma.length cma)] 4 Tryz.func3 rfl rfl rfl rfl rfl ?_; intro a hF
 have hS := St.refl hI
 have hl2 := hlma
 simp only [maxLen] at hl2
 refine W_sr rfl (fun K hK => ?_)
 refine sv hF (v_assign rfl) rfl ?_; clear hF a; intro a hF
 refine WL_nil (hK _ _ ?_)
 clear hK K
 refine W_sr rfl (fun K hK => ?_)
 refine sc hF rfl rfl rfl en4 rfl (aw08_ok B _ hS.inv) ?_; clear hF a; intro v w' a hv hF
 obtain ⟨rfl, hS'⟩ := hv
 replace hAma := hAma.st hS'
 replace hS := hS.trans hS'
 clear hS'
 refine sv hF (v_assign rfl) rfl ?_; clear hF a; intro a hF
 refine WL_nil (hK _ _ ?_)
 clear hK K
 replace hF := hF.sub _ (c_ 5 rfl (c_ 4 rfl (c_ 0 rfl (c_ 1 rfl (n_)))))
 refine W_seq ?_
 refine W_sr rfl (fun K hK => ?_)
 refine sv hF (v_move rfl) rfl ?_; clear hF a; intro a hF
 refine sc hF rfl rfl rfl en5 rfl (Few04_ok B _ _ _ ma _ hAma hlma hbma) ?_; clear hF a; intro v w' a hv hF
 obtain ⟨rfl, hw⟩ := hv
 obtain rfl := hw.symm
 have hS' := St.refl hS.inv
 replace hAma := hAma.st hS'
 replace hS := hS.trans hS'
 clear hS'
 refine sv hF (v_not rfl) rfl ?_; clear hF a; intro a hF
 refine WL_nil (hK _ _ ?_)
 clear hK K
 replace hF := hF.sub _ (c_ 16 rfl (c_ 5 rfl (c_ 4 rfl (c_ 0 rfl (c_ 1 rfl (n_))))))
 refine W_if hF rfl (fun hc1 => ?_) (fun hc1 => ?_)
 ·
  skip
  try simp only [dcl] at hc1
  refine W_sr rfl (fun K hK => ?_)
  refine sv2 hF (v_move rfl) (v_assign rfl) rfl rfl ?_; clear hF a; intro a hF
  refine WL_nil (hK _ _ ?_)
  clear hK K
  replace hF := hF.sub _ (c_ 4 rfl (c_ 5 rfl (c_ 0 rfl (c_ 1 rfl (n_)))))
  refine W_ret ?_
  refine ⟨_, _, hF, rfl, ?_⟩
  exact ⟨rfl, hS⟩
 ·
  skip
  try simp only [dcl] at hc1
  refine W_skip ?_
  refine W_sr rfl (fun K hK => ?_)
  refine sv hF (v_move rfl) rfl ?_; clear hF a; intro a hF
  refine sc hF rfl rfl rfl en6 rfl (field8_ok B lg _ hS.inv) ?_; clear hF a; intro v w' a hv hF
  obtain ⟨fv, rfl, hf, hS'⟩ := hv
  obtain ⟨⟨wb, p⟩, hq⟩ : ∃ q, fq lg = q := ⟨_, rfl⟩
  have hq1 : (fq lg).1 = wb := by rw [hq]
  have hq2 : (fq lg).2 = p := by rw [hq]
  rw [hq] at hf
  rw [hq1, hq2] at hF
  clear hq1 hq2
  have hp : Prm wb p := hf.1
  replace hAma := hAma.st hS'
  replace hS := hS.trans hS'
  clear hS'
  refine sv6 hF (v_move rfl) (v_ext rfl rfl) (v_ext rfl rfl) (v_ext rfl rfl) (v_assign rfl) (v_assign rfl) rfl rfl rfl rfl rfl rfl ?_; clear hF a; intro a hF
  refine sv hF (v_assign rfl) rfl ?_; clear hF a; intro a hF
  refine WL_nil (hK _ _ ?_)
  clear hK K
  replace hF := hF.sub _ (c_ 8 rfl (c_ 7 rfl (c_ 6 rfl (c_ 5 rfl (c_ 4 rfl (c_ 1 rfl (n_)))))))
  refine W_sr rfl (fun K hK => ?_)
  refine sv2 hF (v_move rfl) (v_move rfl) rfl rfl ?_; clear hF a; intro a hF
  refine sc hF rfl rfl rfl en7 rfl (Safe_ok B _ wb p hp fv _ _ ma _ hS.inv (Nat.le_trans hM hS.ext.size) hf hAma hlma hbma) ?_; clear hF a; intro v w' a hv hF
  obtain ⟨rfl, hS'⟩ := hv
  replace hAma := hAma.st hS'
  replace hf := hf.st hS'
  replace hS := hS.trans hS'
  clear hS'
  refine sv5 hF (v_move rfl) (v_ext rfl rfl) (v_ext rfl rfl) (v_assign rfl) (v_assign rfl) rfl rfl rfl rfl rfl ?_; clear hF a; intro a hF
  refine WL_nil (hK _ _ ?_)
  clear hK K
  replace hF := hF.sub _ (c_ 10 rfl (c_ 9 rfl (c_ 8 rfl (c_ 7 rfl (c_ 5 rfl (c_ 4 rfl (c_ 1 rfl (n_))))))))
  refine W_sr rfl (fun K hK => ?_)
  refine sv3 hF (v_move rfl) (v_move rfl) (v_move rfl) rfl rfl rfl ?_; clear hF a; intro a hF
  refine sc hF rfl rfl rfl en8 rfl (rSafe_ok B _ wb p hp _ _ ma _ hS.inv (Nat.le_trans hM hS.ext.size) hAma hlma hbma) ?_; clear hF a; intro v w' a hv hF
  obtain ⟨rfl, hS'⟩ := hv
  replace hAma := hAma.st hS'
  replace hf := hf.st hS'
  replace hS := hS.trans hS'
  clear hS'
  refine sv5 hF (v_move rfl) (v_ext rfl rfl) (v_ext rfl rfl) (v_assign rfl) (v_assign rfl) rfl rfl rfl rfl rfl ?_; clear hF a; intro a hF
  refine WL_nil (hK _ _ ?_)
  clear hK K
  replace hF := hF.sub _ (c_ 12 rfl (c_ 11 rfl (c_ 10 rfl (c_ 9 rfl (c_ 5 rfl (c_ 4 rfl (n_)))))))
  refine W_sr rfl (fun K hK => ?_)
  refine sv2 hF (v_move rfl) (v_move rfl) rfl rfl ?_; clear hF a; intro a hF
  refine svg hF rfl ?_
  refine sv hF (v_move rfl) rfl ?_; clear hF a; intro a hF
  refine svg hF rfl ?_
  refine sv hF (v_move rfl) rfl ?_; clear hF a; intro a hF
  refine svg hF rfl ?_
  refine sv hF ((v_eqlB Tryz.underlying4 rfl rfl).as (congrArg Value.bool (decide_eq_true (rfl)))) rfl ?_; clear hF a; intro a hF
  refine sv2 hF (v_pickT rfl rfl) (v_move rfl) rfl rfl ?_; clear hF a; intro a hF
  refine svg hF rfl ?_
  refine sv hF (v_move rfl) rfl ?_; clear hF a; intro a hF
  refine svg hF rfl ?_
  refine sv hF (v_move rfl) rfl ?_; clear hF a; intro a hF
  refine svg hF rfl ?_
  refine sv hF ((v_eql rfl rfl).as (congrArg Value.bool (decide_eq_true (rfl)))) rfl ?_; clear hF a; intro a hF
  refine sv2 hF (v_pickT rfl rfl) (v_assign rfl) rfl rfl ?_; clear hF a; intro a hF
  refine WL_nil (hK _ _ ?_)
  clear hK K
  replace hF := hF.sub _ (c_ 4 rfl (n_))
  refine W_ret ?_
  refine ⟨_, _, hF, rfl, ?_⟩
  exact ⟨rfl, hS⟩

end Go.Proofs.YtaeljbdpjiciaaaGreat
