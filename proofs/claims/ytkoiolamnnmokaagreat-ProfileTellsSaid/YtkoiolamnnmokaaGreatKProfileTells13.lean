/- Texts of the claim ProfileTells (part 13), put together in the order of their imports. -/
import Derived.Test.YtkoiolamnnmokaaGreatKProfileTells12
/- The walk of gambrelref07: parity rows by the formula. -/
set_option linter.unusedVariables false
set_option linter.unusedSimpArgs false
namespace Go.Proofs.YtkoiolamnnmokaaGreat
open Go Go.Gam
namespace FxFRef07b
theorem en60 : Ent Tryz.prog 60 := ent Tryz.func60 (by kernel_rfl) (by kernel_rfl)
theorem en61 : Ent Tryz.prog 61 := ent Tryz.func61 (by kernel_rfl) (by kernel_rfl)
theorem en62 : Ent Tryz.prog 62 := ent Tryz.func62 (by kernel_rfl) (by kernel_rfl)
theorem en63 : Ent Tryz.prog 63 := ent Tryz.func63 (by kernel_rfl) (by kernel_rfl)
theorem hmix : Tryz.prog.follows .mixedOrders = true := by kernel_rfl
theorem sc3 : Scalar Tryz.prog 3 := ⟨_, Tryz.underlying3, by simp, by simp⟩
theorem sc53 : Scalar Tryz.prog 53 := ⟨_, Tryz.underlying53, by simp, by simp⟩
theorem sl35 : Sl Tryz.prog 35 53 (.slice none 0 0) 24 := sl_of Tryz.underlying35 rfl (by kernel_rfl)
theorem sl53 : Sl Tryz.prog 53 3 (.int .i64 0) 8 := sl_of Tryz.underlying53 rfl (by kernel_rfl)
end FxFRef07b
open FxFRef07b
set_option maxRecDepth 100000 in
set_option maxHeartbeats 1000000 in
theorem rParity_ok (B wb p : Nat) (hp : Prm wb p) (k m : Int) (w : World) (hI : Inv FDx B w) : Ret Tryz.prog 31 [.int .i64 (wb : Int), .int .u32 (p : Int), .int .i64 k, .int .i64 m] w fun v w' => ∃ ob u, v = .tuple #[u, .bool (parM hp k m).isSome] ∧ MOwn FDx B w.heap.size 0 w'.heap.size w' 53 u ob ((parM hp k m).getD []) ∧ St FDx B w w' := by
 refine enter2 103 [(0, .int .i64 (wb : Int)), (1, .int .u32 (p : Int)), (2, .int .i64 k), (3, .int .i64 m)] 8 9 Tryz.func31 rfl rfl rfl rfl rfl ?_; intro a hF
 have hS := St.refl hI
 refine W_sr rfl fun K hK => ?_
 refine sv2w hK hF (v_assign rfl) (v_assign rfl) rfl rfl ?_; clear hF a hK K; intro a hF
 refine W_sr rfl fun K hK => ?_
 refine sv4 hF (v_move rfl) (v_move rfl) (v_move rfl) (v_move rfl) rfl rfl rfl rfl ?_; clear hF a; intro a hF
 refine sc hF rfl rfl rfl en60 rfl (rExtended_ok B wb p hp k m _ hS.inv) ?_; clear hF a; intro v w' a hv hF
 obtain ⟨ob, u, rfl, hMO, hS'⟩ := hv
 obtain ⟨sE, cE, rfl, hE⟩ := hMO.mat (by decide) (Nat.zero_le _)
 clear hMO
 replace hS := hS.trans hS'
 clear hS'
 refine sv5w hK hF (v_move rfl) (v_ext rfl rfl) (v_ext rfl rfl) (v_assign rfl) (v_assign rfl) rfl rfl rfl rfl rfl ?_; clear hF a hK K; intro a hF
 replace hF := hF.sub _ (c_ 11 rfl (c_ 10 rfl (c_ 9 rfl (c_ 8 rfl (c_ 0 rfl (c_ 1 rfl (c_ 2 rfl (c_ 3 rfl (n_)))))))))
 refine W_seq ?_
 refine W_sr rfl fun K hK => ?_
 refine sv2w hK hF (v_move rfl) (v_not rfl) rfl rfl ?_; clear hF a hK K; intro a hF
 replace hF := hF.sub _ (c_ 31 rfl (c_ 10 rfl (c_ 9 rfl (c_ 8 rfl (c_ 0 rfl (c_ 1 rfl (c_ 2 rfl (c_ 3 rfl (n_)))))))))
 refine W_if hF rfl (fun hc1 => ?_) (fun hc1 => ?_)
 ·
  skip
  try simp only [dcl] at hc1
  refine W_sr rfl fun K hK => ?_
  refine sv2w hK hF (v_assign rfl) (v_assign rfl) rfl rfl ?_; clear hF a hK K; intro a hF
  replace hF := hF.sub _ (c_ 9 rfl (c_ 8 rfl (c_ 10 rfl (c_ 0 rfl (c_ 1 rfl (c_ 2 rfl (c_ 3 rfl (n_))))))))
  refine W_ret ?_
  refine ⟨_, _, _, hF, rfl, rfl, ?_⟩
  have hb : fitB (some (wb, p)) k m = false := by
   cases h : fitB (some (wb, p)) k m with
   | false => rfl
   | true => exfalso; unfold extM at *; simp_all
  rw [show parM hp k m = none by unfold parM; rw [hb]; rfl]
  exact ⟨none, _, rfl, MOwn.nil _ _ _ _ _ _ _ (Nat.zero_le _), hS⟩
 ·
  skip
  try simp only [dcl] at hc1
  refine W_skip ?_
  have hb : fitB (some (wb, p)) k m = true := by
   cases h : fitB (some (wb, p)) k m with
   | true => rfl
   | false => exfalso; unfold extM at *; simp_all
  obtain ⟨-, hb2⟩ := fitB_iff.1 hb
  obtain ⟨kn, rfl⟩ : ∃ n : Nat, k = (n : Int) := ⟨k.toNat, by omega⟩
  obtain ⟨mn, rfl⟩ : ∃ n : Nat, m = (n : Int) := ⟨m.toNat, by omega⟩
  have hk1 : 1 ≤ kn := by omega
  have hm1 : 1 ≤ mn := by omega
  have h20 : kn + mn ≤ 20 := by omega
  have hfw := hp.fld_w
  rw [show extM (some (wb, p)) (kn : Int) (mn : Int) = some (tab (kn + mn) kn (extT (some (wb, p)) kn mn)) from extM_is rfl hk1 hm1 h20] at hE hF
  simp only [Option.getD_some] at hE hF
  rw [tab_length] at hF
  obtain ⟨gi, hgi, hinv⟩ := ext_ginv hp hk1 hm1 h20
  have hmul := ext_mul hp hk1 hm1 h20 hgi
  have hcE := hE.capd
  rw [tab_length] at hcE
  have hE1 := hE.to (b := tab kn kn (extT (some (wb, p)) kn mn)) (hi := kn) (by rw [tab_length]; omega) (tab_take (by omega)).symm
  have hl1 := fun (n : Nat) (f : Tb) (hn : n ≤ 20) => len20 (tab_lens (n := n) (m := kn) (f := f) hn (by omega))
  have hkl : (tab kn kn (extT (some (wb, p)) kn mn)).length = kn := tab_length _ _ _
  refine W_sr rfl fun K hK => ?_
  refine sv5 hF (v_move rfl) (v_move rfl) (v_move rfl) (v_move rfl) (v_slHi sl35 rfl rfl (by omega) (by omega)) rfl rfl rfl rfl rfl ?_; clear hF a; intro a hF
  rw [show (Value.slice sE kn cE) = .slice sE (tab kn kn (extT (some (wb, p)) kn mn)).length cE by rw [hkl]] at hF
  refine sc hF rfl rfl rfl en61 rfl (rInverse_ok B _ wb p hp _ _ (tab kn kn (extT (some (wb, p)) kn mn)) _ hS.inv (Nat.le_refl _) hE1 (hl1 _ _ (by omega)).1 (hl1 _ _ (by omega)).2) ?_; clear hF a; intro v w' a hv hF
  obtain ⟨sY, cY, rfl, hY, hS'⟩ := hv
  rw [hinv] at hY hF
  dsimp only at hY hF
  clear hE1
  replace hE := (hE.st hS').mono hS'.ext.size
  replace hS := hS.trans hS'
  clear hS'
  refine sv5w hK hF (v_move rfl) (v_ext rfl rfl) (v_ext rfl rfl) (v_assign rfl) (v_assign rfl) rfl rfl rfl rfl rfl ?_; clear hF a hK K; intro a hF
  replace hF := hF.sub _ (c_ 12 rfl (c_ 10 rfl (c_ 9 rfl (c_ 8 rfl (c_ 0 rfl (c_ 1 rfl (c_ 2 rfl (c_ 3 rfl (n_)))))))))
  have hE2 := hE.from (lo := kn) (b := tab mn kn fun i j => (extT (some (wb, p)) kn mn) (kn + i) j) (by rw [tab_length]; omega) (by rw [tab_drop (by omega), Nat.add_sub_cancel_left])
  have hel2 : (tab mn kn fun i j => (extT (some (wb, p)) kn mn) (kn + i) j).length = mn := tab_length _ _ _
  have hl2 := fun (n : Nat) (f : Tb) (hn : n ≤ 20) => len1k (tab_lens (n := n) (m := kn) (f := f) hn (by omega))
  refine W_sr rfl fun K hK => ?_
  refine sv5 hF (v_move rfl) (v_move rfl) (v_move rfl) (v_move rfl) (v_slLo sl35 rfl rfl (by omega) (by omega)) rfl rfl rfl rfl rfl ?_; clear hF a; intro a hF
  rw [show kn + mn - kn = (tab mn kn fun i j => (extT (some (wb, p)) kn mn) (kn + i) j).length by rw [hel2]; omega] at hF
  refine sv hF (v_move rfl) rfl ?_; clear hF a; intro a hF
  refine sc hF rfl rfl rfl en62 rfl (rMulM_ok B _ wb p hp _ _ (tab mn kn fun i j => (extT (some (wb, p)) kn mn) (kn + i) j) _ _ (tab kn kn gi) _ hS.inv (Nat.le_refl _) hE2 (hl2 _ _ (by omega)).1 (hl2 _ _ (by omega)).2 hY (hl2 _ _ (by omega)).1 (hl2 _ _ (by omega)).2) ?_; clear hF a; intro v w' a hv hF
  obtain ⟨ob, u, rfl, hMO, hS'⟩ := hv
  rw [hmul] at hMO hF
  simp only [Option.getD_some] at hMO
  obtain ⟨sT, cT, rfl, hT⟩ := hMO.mat (by decide) (Nat.zero_le _)
  rw [tab_length] at hF
  clear hMO hE2
  replace hS := hS.trans hS'
  clear hS'
  refine sv5w hK hF (v_move rfl) (v_ext rfl rfl) (v_ext rfl rfl) (v_assign rfl) (v_assign rfl) rfl rfl rfl rfl rfl ?_; clear hF a hK K; intro a hF
  replace hF := hF.sub _ (c_ 14 rfl (c_ 9 rfl (c_ 8 rfl (c_ 0 rfl (c_ 1 rfl (c_ 2 rfl (c_ 3 rfl (n_))))))))
  obtain ⟨gt, ot, hgt⟩ : ∃ g o, sT = some ⟨g, o, none⟩ := by
   obtain ⟨g, o, pr, cr, hg, -⟩ := hT.row (tab_at (f := (jG hp kn mn)) (m := kn) (i := 0) (show 0 < mn by omega))
   exact ⟨_, _, hg⟩
  subst hgt
  obtain ⟨K0, hK0e⟩ : ∃ k, k = w'.heap.size := ⟨_, rfl⟩
  rw [← hK0e] at hT
  have hK0 : K0 ≤ w'.heap.size := by omega
  have hwK : w.heap.size ≤ K0 := by have := hS.ext.size; omega
  clear hK0e
  refine W_sr rfl fun K hK => ?_
  refine svw hK hF (v_assign rfl) rfl ?_; clear hF a hK K; intro a hF
  refine W_seq ?_
  refine W_sr rfl fun K hK => ?_
  refine svw hK hF (v_assign rfl) rfl ?_; clear hF a hK K; intro a hF
  refine W_block ?_
  refine W_loop (fun q a w1 => ∃ (i : Nat) (v16 : Value) (b16 : Option Nat), Fr 103 [(0, .int .i64 (wb : Int)), (1, .int .u32 (p : Int)), (2, .int .i64 (kn : Int)), (3, .int .i64 (mn : Int)), (14, .slice (some ⟨gt, ot, none⟩) mn cT), (16, v16), (17, .int .i64 (i : Int))] a ∧ (St FDx B w w1) ∧ (Mat FDx B K0 w1 (some ⟨gt, ot, none⟩) cT (tab mn kn (jG hp kn mn))) ∧ (MOwn FDx B K0 0 w1.heap.size w1 53 v16 b16 ((List.range i).map (trow kn (parT hp kn mn)))) ∧ (K0 ≤ w1.heap.size) ∧ (i ≤ mn) ∧ (q + i = mn)) (mn) ?_ ?_
  ·
   skip
   exact ⟨0, _, none, hF.sub _ (c_ 0 rfl (c_ 1 rfl (c_ 2 rfl (c_ 3 rfl (c_ 14 rfl (c_ 16 rfl (c_ 17 rfl (n_)))))))), hS, hT, MOwn.nil _ _ _ _ _ _ _ (Nat.zero_le _), hK0, by omega, by omega⟩
  ·
   skip
   clear hF
   clear hS hT hK0
   rintro q a w1 ⟨i, v16, b16, hF, hS, hT, hMO, hK0, hi, hq⟩
   refine W_seq ?_
   obtain ⟨KM, hKe⟩ : ∃ K, K = w1.heap.size := ⟨_, rfl⟩
   rw [← hKe] at hMO
   have hKs : KM ≤ w1.heap.size := by omega
   have hKK : K0 ≤ KM := by omega
   clear hKe
   refine W_sr rfl fun K hK => ?_
   refine sv3w hK hF (v_move rfl) (v_move rfl) (v_lss rfl rfl) rfl rfl rfl ?_; clear hF a hK K; intro a hF
   replace hF := hF.sub _ (c_ 53 rfl (c_ 0 rfl (c_ 1 rfl (c_ 2 rfl (c_ 3 rfl (c_ 14 rfl (c_ 16 rfl (c_ 17 rfl (n_)))))))))
   refine W_if hF rfl (fun hc2 => ?_) (fun hc2 => ?_)
   ·
    skip
    try simp only [dcl] at hc2
    have him : i < mn := by omega
    refine W_skip ?_
    refine W_seq ?_
    refine W_block ?_
    refine W_sr rfl fun K hK => ?_
    refine svw hK hF (v_assign rfl) rfl ?_; clear hF a hK K; intro a hF
    replace hF := hF.sub _ (c_ 18 rfl (c_ 0 rfl (c_ 1 rfl (c_ 2 rfl (c_ 3 rfl (c_ 14 rfl (c_ 16 rfl (c_ 17 rfl (n_)))))))))
    refine W_seq ?_
    refine W_sr rfl fun K hK => ?_
    refine svw hK hF (v_assign rfl) rfl ?_; clear hF a hK K; intro a hF
    refine W_block ?_
    refine W_loop (fun q2 a w2 => ∃ (j : Nat) (v18 : Value) (b18 : Option Nat), Fr 103 [(0, .int .i64 (wb : Int)), (1, .int .u32 (p : Int)), (2, .int .i64 (kn : Int)), (3, .int .i64 (mn : Int)), (14, .slice (some ⟨gt, ot, none⟩) mn cT), (16, v16), (17, .int .i64 (i : Int)), (18, v18), (19, .int .i64 (j : Int))] a ∧ (St FDx B w w2) ∧ (Mat FDx B K0 w2 (some ⟨gt, ot, none⟩) cT (tab mn kn (jG hp kn mn))) ∧ (MOwn FDx B K0 0 KM w2 53 v16 b16 ((List.range i).map (trow kn (parT hp kn mn)))) ∧ (KM ≤ w2.heap.size) ∧ (K0 ≤ w2.heap.size) ∧ (Gam.Own FDx B KM w2 FDx.E v18 b18 (zints ((List.range j).map fun j => (((jC hp kn mn) i j : Nat) : Int)))) ∧ (j ≤ kn) ∧ (q2 + j = kn)) (kn) ?_ ?_
    ·
     skip
     exact ⟨0, _, none, hF.sub _ (c_ 0 rfl (c_ 1 rfl (c_ 2 rfl (c_ 3 rfl (c_ 14 rfl (c_ 16 rfl (c_ 17 rfl (c_ 18 rfl (c_ 19 rfl (n_)))))))))), hS, hT, hMO, hKs, hK0, Gam.Own.nil _ _ _ _ _, by omega, by omega⟩
    ·
     skip
     clear hF
     clear hS hT hMO hKs hK0
     rintro q2 a w2 ⟨j, v18, b18, hF, hS, hT, hMO, hKs, hK0, hO, hj, hq2⟩
     refine W_seq ?_
     refine W_sr rfl fun K hK => ?_
     refine sv3w hK hF (v_move rfl) (v_move rfl) (v_lss rfl rfl) rfl rfl rfl ?_; clear hF a hK K; intro a hF
     replace hF := hF.sub _ (c_ 58 rfl (c_ 0 rfl (c_ 1 rfl (c_ 2 rfl (c_ 3 rfl (c_ 14 rfl (c_ 16 rfl (c_ 17 rfl (c_ 18 rfl (c_ 19 rfl (n_)))))))))))
     refine W_if hF rfl (fun hc3 => ?_) (fun hc3 => ?_)
     ·
      skip
      try simp only [dcl] at hc3
      have hjk : j < kn := by omega
      obtain ⟨ga, oa, pra, cra, hga, hkra, hrowa, hlra⟩ := hT.row (show (tab mn kn (jG hp kn mn))[i]? = some (trow kn (jG hp kn mn) i) from tab_at him)
      cases hga
      obtain ⟨gza, oza, hgza, hkza, hlza⟩ := hrowa.kat (zints_at (trow_at (m := kn) (f := (jG hp kn mn)) (i := i) (j := j) (by omega)))
      cases hgza
      rw [trow_length] at hkra
      obtain ⟨gb, ob, prb, crb, hgb, hkrb, hrowb, hlrb⟩ := hT.row (show (tab mn kn (jG hp kn mn))[0]? = some (trow kn (jG hp kn mn) 0) from tab_at (show 0 < mn by omega))
      cases hgb
      obtain ⟨gzb, ozb, hgzb, hkzb, hlzb⟩ := hrowb.kat (zints_at (trow_at (m := kn) (f := (jG hp kn mn)) (i := 0) (j := j) (by omega)))
      cases hgzb
      rw [trow_length] at hkrb
      have hg0 := jG_ne hp hk1 hm1 h20 (r := 0) (j := j) (by omega) hjk
      have hb1 := jG_bd hp kn mn i j
      have hb3 := jG_bd hp kn mn 0 j
      rw [hfw] at hb1 hb3
      refine W_skip ?_
      refine W_seq ?_
      refine W_block ?_
      refine W_dS (fun (w2 : World) => w2.cell? ⟨gt, ot + i, none⟩ = some (.slice (some ⟨gza, oza, none⟩) kn cra) ∧ w2.cell? ⟨gza, oza + j, none⟩ = some (.int .i64 ((jG hp kn mn i j : Nat) : Int)) ∧ w2.cell? ⟨gt, ot + 0, none⟩ = some (.slice (some ⟨gzb, ozb, none⟩) kn crb) ∧ w2.cell? ⟨gzb, ozb + j, none⟩ = some (.int .i64 ((jG hp kn mn 0 j : Nat) : Int))) (m := 20) rfl hmix (fun K hK => ?_)
      have hS' := St.drew hS.inv
      replace hT := hT.st hS'
      replace hMO := hMO.st (by decide) hS'
      replace hKs := Nat.le_trans hKs hS'.ext.size
      replace hK0 := Nat.le_trans hK0 hS'.ext.size
      replace hO := hO.st (by decide) hS'
      replace hkra := hkra.st hS'
      replace hkza := hkza.st hS'
      replace hkrb := hkrb.st hS'
      replace hkzb := hkzb.st hS'
      replace hS := hS.trans hS'
      clear hS'
      have hSS : (fun (w2 : World) => w2.cell? ⟨gt, ot + i, none⟩ = some (.slice (some ⟨gza, oza, none⟩) kn cra) ∧ w2.cell? ⟨gza, oza + j, none⟩ = some (.int .i64 ((jG hp kn mn i j : Nat) : Int)) ∧ w2.cell? ⟨gt, ot + 0, none⟩ = some (.slice (some ⟨gzb, ozb, none⟩) kn crb) ∧ w2.cell? ⟨gzb, ozb + j, none⟩ = some (.int .i64 ((jG hp kn mn 0 j : Nat) : Int))) _ := And.intro hkra.c (And.intro hkza.c (And.intro hkrb.c hkzb.c))
      refine b_v (i := 0) rfl (by kernel_rfl) hF (fun w2 hx => v_move rfl) rfl hSS ?_; clear hF a; intro a hF
      refine b_v (i := 1) rfl (by kernel_rfl) hF (fun w2 hx => v_move rfl) rfl hSS ?_; clear hF a; intro a hF
      refine b_v (i := 2) rfl (by kernel_rfl) hF (fun w2 hx => v_move rfl) rfl hSS ?_; clear hF a; intro a hF
      refine b_v (i := 3) rfl (by kernel_rfl) hF (fun w2 hx => v_move rfl) rfl hSS ?_; clear hF a; intro a hF
      refine b_v (i := 4) rfl (by kernel_rfl) hF (fun w2 hx => v_move rfl) rfl hSS ?_; clear hF a; intro a hF
      refine b_v (i := 5) rfl (by kernel_rfl) hF (fun w2 hx => v_ixS sl35 rfl rfl (by omega) (by omega)) rfl hSS ?_; clear hF a; intro a hF
      refine b_v (i := 6) rfl (by kernel_rfl) hF (fun w2 hx => v_load sc53 rfl (by first | exact hx.1 | (rw [toNat_c]; exact hx.1))) rfl hSS ?_; clear hF a; intro a hF
      refine b_v (i := 7) rfl (by kernel_rfl) hF (fun w2 hx => v_move rfl) rfl hSS ?_; clear hF a; intro a hF
      refine b_v (i := 8) rfl (by kernel_rfl) hF (fun w2 hx => v_ixS sl53 rfl rfl (by omega) (by omega)) rfl hSS ?_; clear hF a; intro a hF
      refine b_v (i := 9) rfl (by kernel_rfl) hF (fun w2 hx => v_load sc3 rfl (by first | exact hx.2.1 | (rw [toNat_c]; exact hx.2.1))) rfl hSS ?_; clear hF a; intro a hF
      refine b_v (i := 10) rfl (by kernel_rfl) hF (fun w2 hx => v_move rfl) rfl hSS ?_; clear hF a; intro a hF
      refine b_v (i := 11) rfl (by kernel_rfl) hF (fun w2 hx => v_ixS sl35 rfl rfl (by decide) (by omega)) rfl hSS ?_; clear hF a; intro a hF
      refine b_v (i := 12) rfl (by kernel_rfl) hF (fun w2 hx => v_load sc53 rfl (by first | exact hx.2.2.1 | (rw [toNat_c]; exact hx.2.2.1))) rfl hSS ?_; clear hF a; intro a hF
      refine b_v (i := 13) rfl (by kernel_rfl) hF (fun w2 hx => v_move rfl) rfl hSS ?_; clear hF a; intro a hF
      refine b_v (i := 14) rfl (by kernel_rfl) hF (fun w2 hx => v_ixS sl53 rfl rfl (by omega) (by omega)) rfl hSS ?_; clear hF a; intro a hF
      refine b_v (i := 15) rfl (by kernel_rfl) hF (fun w2 hx => v_load sc3 rfl (by first | exact hx.2.2.2 | (rw [toNat_c]; exact hx.2.2.2))) rfl hSS ?_; clear hF a; intro a hF
      refine b_e (i := 16) (by kernel_rfl) rfl ?_
      refine sc hF rfl rfl rfl en63 rfl (over_ok B wb p (jG hp kn mn i j) (jG hp kn mn 0 j) hp _ hS.inv hb1 hb3 hg0) ?_; clear hF a; intro v w' a hv hF
      obtain ⟨rfl, hS'⟩ := hv
      replace hT := hT.st hS'
      replace hMO := hMO.st (by decide) hS'
      replace hKs := Nat.le_trans hKs hS'.ext.size
      replace hK0 := Nat.le_trans hK0 hS'.ext.size
      replace hO := hO.st (by decide) hS'
      replace hkra := hkra.st hS'
      replace hkza := hkza.st hS'
      replace hkrb := hkrb.st hS'
      replace hkzb := hkzb.st hS'
      replace hS := hS.trans hS'
      clear hS'
      clear hSS
      have hSS : (fun (w2 : World) => w2.cell? ⟨gt, ot + i, none⟩ = some (.slice (some ⟨gza, oza, none⟩) kn cra) ∧ w2.cell? ⟨gza, oza + j, none⟩ = some (.int .i64 ((jG hp kn mn i j : Nat) : Int)) ∧ w2.cell? ⟨gt, ot + 0, none⟩ = some (.slice (some ⟨gzb, ozb, none⟩) kn crb) ∧ w2.cell? ⟨gzb, ozb + j, none⟩ = some (.int .i64 ((jG hp kn mn 0 j : Nat) : Int))) _ := And.intro hkra.c (And.intro hkza.c (And.intro hkrb.c hkzb.c))
      refine WL_nil ⟨hSS, ?_⟩
      refine b_e (i := 17) (by kernel_rfl) rfl ?_
      refine s_bs (D := FDx) (B := B) hF sl53 rfl rfl (by decide) (by simp [Value.cells]) (by decide) hS.inv rfl ?_; clear hF a; intro w' a hm hI' hL hF
      replace hT := hT.mb hm (fun _ h => by cases h)
      replace hMO := hMO.mb0 hm
      replace hKs := Nat.le_trans hKs hm.size
      replace hK0 := Nat.le_trans hK0 hm.size
      replace hO := hO.mb hm (fun _ _ => by simp)
      replace hkra := hkra.mb hm (by simp)
      replace hkza := hkza.mb hm (by simp)
      replace hkrb := hkrb.mb hm (by simp)
      replace hkzb := hkzb.mb hm (by simp)
      replace hS := hS.mb0 hm
      clear hm hI'
      clear hSS
      have hSS : (fun (w2 : World) => w2.cell? ⟨gt, ot + i, none⟩ = some (.slice (some ⟨gza, oza, none⟩) kn cra) ∧ w2.cell? ⟨gza, oza + j, none⟩ = some (.int .i64 ((jG hp kn mn i j : Nat) : Int)) ∧ w2.cell? ⟨gt, ot + 0, none⟩ = some (.slice (some ⟨gzb, ozb, none⟩) kn crb) ∧ w2.cell? ⟨gzb, ozb + j, none⟩ = some (.int .i64 ((jG hp kn mn 0 j : Nat) : Int))) _ := And.intro hkra.c (And.intro hkza.c (And.intro hkrb.c hkzb.c))
      refine WL_nil ⟨hSS, ?_⟩
      refine b_e (i := 18) (by kernel_rfl) rfl ?_
      refine s_app (D := FDx) (B := B) hF rfl sl53 rfl rfl hO (hL.row (by decide)) (by simp [Value.oneCell']) (by simp; omega) (by simp [maxLen]; omega) (hKs) (by decide) hS.inv rfl ?_; clear hF a; intro v' b' w' a ho' hm hI' hb' hF
      replace hT := hT.mb hm (fun k h => Nat.le_trans (by omega) (hO.lt k h).1)
      replace hMO := hMO.mbo hm hO (by decide) (by omega) (Nat.zero_le _)
      replace hKs := Nat.le_trans hKs hm.size
      replace hK0 := Nat.le_trans hK0 hm.size
      replace hkra := hkra.mb hm (fun e => absurd hlra (Nat.not_lt.2 (Nat.le_trans hKK (hO.lt _ e).1)))
      replace hkza := hkza.mb hm (fun e => absurd hlza (Nat.not_lt.2 (Nat.le_trans hKK (hO.lt _ e).1)))
      replace hkrb := hkrb.mb hm (fun e => absurd hlrb (Nat.not_lt.2 (Nat.le_trans hKK (hO.lt _ e).1)))
      replace hkzb := hkzb.mb hm (fun e => absurd hlzb (Nat.not_lt.2 (Nat.le_trans hKK (hO.lt _ e).1)))
      replace hS := hS.mb hm (fun k h => Nat.le_trans (Nat.le_trans hwK hKK) (hO.lt k h).1)
      replace hO := ho'
      clear hm hI' ho'
      clear hSS
      have hSS : (fun (w2 : World) => w2.cell? ⟨gt, ot + i, none⟩ = some (.slice (some ⟨gza, oza, none⟩) kn cra) ∧ w2.cell? ⟨gza, oza + j, none⟩ = some (.int .i64 ((jG hp kn mn i j : Nat) : Int)) ∧ w2.cell? ⟨gt, ot + 0, none⟩ = some (.slice (some ⟨gzb, ozb, none⟩) kn crb) ∧ w2.cell? ⟨gzb, ozb + j, none⟩ = some (.int .i64 ((jG hp kn mn 0 j : Nat) : Int))) _ := And.intro hkra.c (And.intro hkza.c (And.intro hkrb.c hkzb.c))
      refine WL_nil ⟨hSS, ?_⟩
      refine b_v (i := 19) rfl (by kernel_rfl) hF (fun w2 hx => v_assign rfl) rfl hSS ?_; clear hF a; intro a hF
      refine b_done (by kernel_rfl) (hK _ _ ?_)
      clear hK K
      replace hF := hF.sub _ (c_ 18 rfl (c_ 0 rfl (c_ 1 rfl (c_ 2 rfl (c_ 3 rfl (c_ 14 rfl (c_ 16 rfl (c_ 17 rfl (c_ 19 rfl (n_))))))))))
      refine W_reg rfl fun K hK => ?_
      refine sv3w hK hF (v_move rfl) (v_addI rfl rfl (by omega)) (v_assign rfl) rfl rfl rfl ?_; clear hF a hK K; intro a hF
      exact ⟨q2 - 1, by omega, j + 1, _, _, hF.sub _ (c_ 0 rfl (c_ 1 rfl (c_ 2 rfl (c_ 3 rfl (c_ 14 rfl (c_ 16 rfl (c_ 17 rfl (c_ 18 rfl (c_ 19 rfl (n_)))))))))), hS, hT, hMO, hKs, hK0, hO.cast (by rw [List.range_succ, List.map_append]; simp [zints]; rfl), by omega, by omega⟩
     ·
      skip
      try simp only [dcl] at hc3
      have hje : j = kn := by omega
      rw [hje] at hO
      obtain ⟨gc, cc, rfl, rfl⟩ := hO.ptr (by simp; omega)
      rw [zints_length, List.length_map, List.length_range] at hO hF
      have hR := hO
      clear hO
      have hgcK : KM ≤ gc := (hR.lt _ rfl).1
      refine W_exit rfl ?_
      refine W_sr rfl fun K hK => ?_
      refine svw hK hF (v_assign rfl) rfl ?_; clear hF a hK K; intro a hF
      replace hF := hF.sub _ (c_ 20 rfl (c_ 0 rfl (c_ 1 rfl (c_ 2 rfl (c_ 3 rfl (c_ 14 rfl (c_ 16 rfl (c_ 17 rfl (c_ 18 rfl (c_ 19 rfl (n_)))))))))))
      refine W_seq ?_
      obtain ⟨KN, hKNe⟩ : ∃ k, k = w2.heap.size := ⟨_, rfl⟩
      have hKNz : KN ≤ w2.heap.size := by omega
      have hgk0 : gc < KN := by rw [hKNe]; exact (hR.lt _ rfl).2
      have hKMN : KM ≤ KN := by omega
      clear hKNe
      refine W_sr rfl fun K hK => ?_
      refine svw hK hF (v_assign rfl) rfl ?_; clear hF a hK K; intro a hF
      refine W_block ?_
      refine W_loop (fun q3 a w3 => ∃ (j : Nat) (v20 : Value) (b20 : Option Nat), Fr 103 [(0, .int .i64 (wb : Int)), (1, .int .u32 (p : Int)), (2, .int .i64 (kn : Int)), (3, .int .i64 (mn : Int)), (14, .slice (some ⟨gt, ot, none⟩) mn cT), (16, v16), (17, .int .i64 (i : Int)), (18, .slice (some ⟨gc, 0, none⟩) kn cc), (20, v20), (21, .int .i64 (j : Int))] a ∧ (St FDx B w w3) ∧ (Mat FDx B K0 w3 (some ⟨gt, ot, none⟩) cT (tab mn kn (jG hp kn mn))) ∧ (MOwn FDx B K0 0 KM w3 53 v16 b16 ((List.range i).map (trow kn (parT hp kn mn)))) ∧ (KM ≤ w3.heap.size) ∧ (K0 ≤ w3.heap.size) ∧ (Gam.Own FDx B KM w3 FDx.E (.slice (some ⟨gc, 0, none⟩) kn cc) (some gc) (zints (trow kn (jC hp kn mn) i))) ∧ (gc < KN ∧ KN ≤ w3.heap.size) ∧ (Gam.Own FDx B KN w3 FDx.E v20 b20 (zints ((List.range j).map fun j => (((parT hp kn mn) i j : Nat) : Int)))) ∧ (j ≤ kn) ∧ (q3 + j = kn)) (kn) ?_ ?_
      ·
       skip
       exact ⟨0, _, none, hF.sub _ (c_ 0 rfl (c_ 1 rfl (c_ 2 rfl (c_ 3 rfl (c_ 14 rfl (c_ 16 rfl (c_ 17 rfl (c_ 18 rfl (c_ 20 rfl (c_ 21 rfl (n_))))))))))), hS, hT, hMO, hKs, hK0, hR, ⟨hgk0, hKNz⟩, Gam.Own.nil _ _ _ _ _, by omega, by omega⟩
      ·
       skip
       clear hF
       clear hS hT hMO hKs hK0 hR
       rintro q3 a w3 ⟨j, v20, b20, hF, hS, hT, hMO, hKs, hK0, hR, hgk, hO, hj, hq3⟩
       refine W_seq ?_
       have hKNz := hgk.2
       refine W_sr rfl fun K hK => ?_
       refine sv3w hK hF (v_move rfl) (v_move rfl) (v_lss rfl rfl) rfl rfl rfl ?_; clear hF a hK K; intro a hF
       refine W_if hF rfl (fun hc4 => ?_) (fun hc4 => ?_)
       ·
        skip
        try simp only [dcl] at hc4
        have hjk : j < kn := by omega
        have hkx := hR.kc (by decide) (zints_at (trow_at (f := jC hp kn mn) (i := i) hjk))
        have hky := hR.kc (by decide) (zints_at (trow_at (f := jC hp kn mn) (i := i) (show 0 < kn by omega)))
        have hc0 := jC_ne hp hk1 hm1 h20 (r := i) (j := 0) him (by omega)
        have hb1 := jC_bd hp kn mn i j
        have hb3 := jC_bd hp kn mn i 0
        rw [hfw] at hb1 hb3
        refine W_skip ?_
        refine W_seq ?_
        refine W_block ?_
        refine W_dS (fun (w2 : World) => w2.cell? ⟨gc, 0 + j, none⟩ = some (.int .i64 ((jC hp kn mn i j : Nat) : Int)) ∧ w2.cell? ⟨gc, 0 + 0, none⟩ = some (.int .i64 ((jC hp kn mn i 0 : Nat) : Int))) (m := 14) rfl hmix (fun K hK => ?_)
        have hS' := St.drew hS.inv
        replace hT := hT.st hS'
        replace hMO := hMO.st (by decide) hS'
        replace hKs := Nat.le_trans hKs hS'.ext.size
        replace hK0 := Nat.le_trans hK0 hS'.ext.size
        replace hO := hO.st (by decide) hS'
        replace hR := hR.st (by decide) hS'
        replace hKNz := Nat.le_trans hKNz hS'.ext.size
        replace hkx := hkx.st hS'
        replace hky := hky.st hS'
        replace hS := hS.trans hS'
        clear hS'
        have hSS : (fun (w2 : World) => w2.cell? ⟨gc, 0 + j, none⟩ = some (.int .i64 ((jC hp kn mn i j : Nat) : Int)) ∧ w2.cell? ⟨gc, 0 + 0, none⟩ = some (.int .i64 ((jC hp kn mn i 0 : Nat) : Int))) _ := And.intro hkx.c hky.c
        refine b_v (i := 0) rfl (by kernel_rfl) hF (fun w2 hx => v_move rfl) rfl hSS ?_; clear hF a; intro a hF
        refine b_v (i := 1) rfl (by kernel_rfl) hF (fun w2 hx => v_move rfl) rfl hSS ?_; clear hF a; intro a hF
        refine b_v (i := 2) rfl (by kernel_rfl) hF (fun w2 hx => v_move rfl) rfl hSS ?_; clear hF a; intro a hF
        refine b_v (i := 3) rfl (by kernel_rfl) hF (fun w2 hx => v_move rfl) rfl hSS ?_; clear hF a; intro a hF
        refine b_v (i := 4) rfl (by kernel_rfl) hF (fun w2 hx => v_move rfl) rfl hSS ?_; clear hF a; intro a hF
        refine b_v (i := 5) rfl (by kernel_rfl) hF (fun w2 hx => v_ixS sl53 rfl rfl (by omega) (by omega)) rfl hSS ?_; clear hF a; intro a hF
        refine b_v (i := 6) rfl (by kernel_rfl) hF (fun w2 hx => v_load sc3 rfl (by first | exact hx.1 | (rw [toNat_c]; exact hx.1))) rfl hSS ?_; clear hF a; intro a hF
        refine b_v (i := 7) rfl (by kernel_rfl) hF (fun w2 hx => v_move rfl) rfl hSS ?_; clear hF a; intro a hF
        refine b_v (i := 8) rfl (by kernel_rfl) hF (fun w2 hx => v_ixS sl53 rfl rfl (by decide) (by omega)) rfl hSS ?_; clear hF a; intro a hF
        refine b_v (i := 9) rfl (by kernel_rfl) hF (fun w2 hx => v_load sc3 rfl (by first | exact hx.2 | (rw [toNat_c]; exact hx.2))) rfl hSS ?_; clear hF a; intro a hF
        refine b_e (i := 10) (by kernel_rfl) rfl ?_
        refine sc hF rfl rfl rfl en63 rfl (over_ok B wb p (jC hp kn mn i j) (jC hp kn mn i 0) hp _ hS.inv hb1 hb3 hc0) ?_; clear hF a; intro v w' a hv hF
        obtain ⟨rfl, hS'⟩ := hv
        replace hT := hT.st hS'
        replace hMO := hMO.st (by decide) hS'
        replace hKs := Nat.le_trans hKs hS'.ext.size
        replace hK0 := Nat.le_trans hK0 hS'.ext.size
        replace hO := hO.st (by decide) hS'
        replace hR := hR.st (by decide) hS'
        replace hKNz := Nat.le_trans hKNz hS'.ext.size
        replace hkx := hkx.st hS'
        replace hky := hky.st hS'
        replace hS := hS.trans hS'
        clear hS'
        rw [par_scaled hp hk1 hm1 h20 him hjk] at hF
        clear hSS
        have hSS : (fun (w2 : World) => w2.cell? ⟨gc, 0 + j, none⟩ = some (.int .i64 ((jC hp kn mn i j : Nat) : Int)) ∧ w2.cell? ⟨gc, 0 + 0, none⟩ = some (.int .i64 ((jC hp kn mn i 0 : Nat) : Int))) _ := And.intro hkx.c hky.c
        refine WL_nil ⟨hSS, ?_⟩
        refine b_e (i := 11) (by kernel_rfl) rfl ?_
        refine s_bs (D := FDx) (B := B) hF sl53 rfl rfl (by decide) (by simp [Value.cells]) (by decide) hS.inv rfl ?_; clear hF a; intro w' a hm hI' hL hF
        replace hT := hT.mb hm (fun _ h => by cases h)
        replace hMO := hMO.mb0 hm
        replace hKs := Nat.le_trans hKs hm.size
        replace hK0 := Nat.le_trans hK0 hm.size
        replace hO := hO.mb hm (fun _ _ => by simp)
        replace hR := hR.mb hm (fun _ _ => by simp)
        replace hKNz := Nat.le_trans hKNz hm.size
        replace hkx := hkx.mb hm (by simp)
        replace hky := hky.mb hm (by simp)
        replace hS := hS.mb0 hm
        clear hm hI'
        clear hSS
        have hSS : (fun (w2 : World) => w2.cell? ⟨gc, 0 + j, none⟩ = some (.int .i64 ((jC hp kn mn i j : Nat) : Int)) ∧ w2.cell? ⟨gc, 0 + 0, none⟩ = some (.int .i64 ((jC hp kn mn i 0 : Nat) : Int))) _ := And.intro hkx.c hky.c
        refine WL_nil ⟨hSS, ?_⟩
        refine b_e (i := 12) (by kernel_rfl) rfl ?_
        refine s_app (D := FDx) (B := B) hF rfl sl53 rfl rfl hO (hL.row (by decide)) (by simp [Value.oneCell']) (by simp; omega) (by simp [maxLen]; omega) (hKNz) (by decide) hS.inv rfl ?_; clear hF a; intro v' b' w' a ho' hm hI' hb' hF
        replace hT := hT.mb hm (fun k h => Nat.le_trans (by omega) (hO.lt k h).1)
        replace hMO := hMO.mbo hm hO (by decide) (by omega) (Nat.zero_le _)
        replace hKs := Nat.le_trans hKs hm.size
        replace hK0 := Nat.le_trans hK0 hm.size
        replace hR := hR.mb hm (fun k e e2 => by cases e; have := (hO.lt _ e2).1; omega)
        replace hKNz := Nat.le_trans hKNz hm.size
        replace hkx := hkx.mb hm (fun e => absurd hgk.1 (Nat.not_lt.2 (hO.lt _ e).1))
        replace hky := hky.mb hm (fun e => absurd hgk.1 (Nat.not_lt.2 (hO.lt _ e).1))
        replace hS := hS.mb hm (fun k h => Nat.le_trans (Nat.le_trans hwK (Nat.le_trans hKK hKMN)) (hO.lt k h).1)
        replace hO := ho'
        clear hm hI' ho'
        clear hSS
        have hSS : (fun (w2 : World) => w2.cell? ⟨gc, 0 + j, none⟩ = some (.int .i64 ((jC hp kn mn i j : Nat) : Int)) ∧ w2.cell? ⟨gc, 0 + 0, none⟩ = some (.int .i64 ((jC hp kn mn i 0 : Nat) : Int))) _ := And.intro hkx.c hky.c
        refine WL_nil ⟨hSS, ?_⟩
        refine b_v (i := 13) rfl (by kernel_rfl) hF (fun w2 hx => v_assign rfl) rfl hSS ?_; clear hF a; intro a hF
        refine b_done (by kernel_rfl) (hK _ _ ?_)
        clear hK K
        refine W_reg rfl fun K hK => ?_
        refine sv3w hK hF (v_move rfl) (v_addI rfl rfl (by omega)) (v_assign rfl) rfl rfl rfl ?_; clear hF a hK K; intro a hF
        exact ⟨q3 - 1, by omega, j + 1, _, _, hF.sub _ (c_ 0 rfl (c_ 1 rfl (c_ 2 rfl (c_ 3 rfl (c_ 14 rfl (c_ 16 rfl (c_ 17 rfl (c_ 18 rfl (c_ 20 rfl (c_ 21 rfl (n_))))))))))), hS, hT, hMO, hKs, hK0, hR, ⟨hgk.1, hKNz⟩, hO.cast (by rw [List.range_succ, List.map_append]; simp [zints]), by omega, by omega⟩
       ·
        skip
        try simp only [dcl] at hc4
        have hje : j = kn := by omega
        rw [hje] at hO
        clear hR
        refine W_exit rfl ?_
        refine W_reg rfl fun K hK => ?_
        refine sv2 hF (v_move rfl) (v_move rfl) rfl rfl ?_; clear hF a; intro a hF
        obtain ⟨a_, c_r, rfl⟩ := hO.shape
        refine s_bs (D := FDx) (B := B) hF sl35 rfl rfl (by decide) (by simp [Value.cells]) (by decide) hS.inv rfl ?_; clear hF a; intro w' a hm hI' hL hF
        replace hT := hT.mb hm (fun _ h => by cases h)
        replace hMO := hMO.mb0 hm
        replace hKs := Nat.le_trans hKs hm.size
        replace hK0 := Nat.le_trans hK0 hm.size
        replace hO := hO.mb hm (fun _ _ => by simp)
        replace hKNz := Nat.le_trans hKNz hm.size
        replace hS := hS.mb0 hm
        clear hm hI'
        replace hMO := hMO.up hKs
        clear hKs
        refine s_appM (D := FDx) (B := B) hF rfl sl35 rfl rfl hMO hL (.of (r := trow kn (parT hp kn mn) i) hO (Nat.zero_le _)) rfl rfl (by simp; omega) (hK0) (by decide) (by decide) hS.inv rfl ?_; clear hF a; intro v' b' w' a ho' hm hI' hF
        replace hT := hT.mb hm (fun k h => Nat.le_trans (Nat.le_refl _) (hMO.lt k h).1)
        replace hK0 := Nat.le_trans hK0 hm.size
        replace hKNz := Nat.le_trans hKNz hm.size
        replace hS := hS.mb hm (fun k h => Nat.le_trans hwK (hMO.lt k h).1)
        have hKm := hm.size
        replace hMO := ho'
        clear hm hI' ho' hL
        refine svw hK hF (v_assign rfl) rfl ?_; clear hF a hK K; intro a hF
        refine W_reg rfl fun K hK => ?_
        refine sv3w hK hF (v_move rfl) (v_addI rfl rfl (by omega)) (v_assign rfl) rfl rfl rfl ?_; clear hF a hK K; intro a hF
        exact ⟨q - 1, by omega, i + 1, _, _, hF.sub _ (c_ 0 rfl (c_ 1 rfl (c_ 2 rfl (c_ 3 rfl (c_ 14 rfl (c_ 16 rfl (c_ 17 rfl (n_)))))))), hS, hT, (hMO.up hKm).cast (by rw [List.range_succ, List.map_append]; rfl), hK0, by omega, by omega⟩
   ·
    skip
    try simp only [dcl] at hc2
    refine W_exit rfl ?_
    refine W_sr rfl fun K hK => ?_
    refine sv3w hK hF (v_move rfl) (v_assign rfl) (v_assign rfl) rfl rfl rfl ?_; clear hF a hK K; intro a hF
    replace hF := hF.sub _ (c_ 9 rfl (c_ 8 rfl (c_ 102 rfl (c_ 0 rfl (c_ 1 rfl (c_ 2 rfl (c_ 3 rfl (c_ 14 rfl (c_ 16 rfl (c_ 17 rfl (n_)))))))))))
    refine W_ret ?_
    refine ⟨_, _, _, hF, rfl, rfl, ?_⟩
    obtain rfl : i = mn := by omega
    rw [show parM hp (kn : Int) (i : Int) = some (tab i kn (parT hp kn i)) by unfold parM; rw [if_pos hb]; rfl]
    exact ⟨_, _, rfl, ((hMO.up hKs).le hwK (Nat.zero_le _)).cast rfl, hS⟩
end Go.Proofs.YtkoiolamnnmokaaGreat

/- The walks of gambrelref09: the profile of a tag, parity rows. -/
namespace Go.Proofs.YtkoiolamnnmokaaGreat
open Go Go.Gam
namespace FxFRef09b
theorem en8 : Ent Tryz.prog 8 := ent Tryz.func8 (by kernel_rfl) (by kernel_rfl)
theorem en15 : Ent Tryz.prog 15 := ent Tryz.func15 (by kernel_rfl) (by kernel_rfl)
theorem en31 : Ent Tryz.prog 31 := ent Tryz.func31 (by kernel_rfl) (by kernel_rfl)
theorem en32 : Ent Tryz.prog 32 := ent Tryz.func32 (by kernel_rfl) (by kernel_rfl)
theorem en33 : Ent Tryz.prog 33 := ent Tryz.func33 (by kernel_rfl) (by kernel_rfl)
theorem en34 : Ent Tryz.prog 34 := ent Tryz.func34 (by kernel_rfl) (by kernel_rfl)
theorem en35 : Ent Tryz.prog 35 := ent Tryz.func35 (by kernel_rfl) (by kernel_rfl)
theorem fa23_0 : FieldFact Tryz.prog 23 0 0 := ff_of (sz := 0) Tryz.underlying23 (by kernel_rfl)
theorem fa23_1 : FieldFact Tryz.prog 23 1 1 := ff_of (sz := 0) Tryz.underlying23 (by kernel_rfl)
theorem fa23_2 : FieldFact Tryz.prog 23 2 2 := ff_of (sz := 0) Tryz.underlying23 (by kernel_rfl)
theorem fa30_0 : FieldFact Tryz.prog 30 0 0 := ff_of (sz := 0) Tryz.underlying30 (by kernel_rfl)
theorem fa30_1 : FieldFact Tryz.prog 30 1 1 := ff_of (sz := 0) Tryz.underlying30 (by kernel_rfl)
theorem fa30_2 : FieldFact Tryz.prog 30 2 2 := ff_of (sz := 0) Tryz.underlying30 (by kernel_rfl)
theorem sc25 : Scalar Tryz.prog 25 := ⟨_, Tryz.underlying25, by simp, by simp⟩
theorem sc3 : Scalar Tryz.prog 3 := ⟨_, Tryz.underlying3, by simp, by simp⟩
theorem sc9 : Scalar Tryz.prog 9 := ⟨_, Tryz.underlying9, by simp, by simp⟩
theorem sl35 : Sl Tryz.prog 35 53 (.slice none 0 0) 24 := sl_of Tryz.underlying35 rfl (by kernel_rfl)
end FxFRef09b
open FxFRef09b
set_option maxRecDepth 100000 in
set_option maxHeartbeats 1000000 in
theorem rTagged_ok (B : Nat) (s : ByteArray) (w : World) (hI : Inv FDx B w) : Ret Tryz.prog 10 [.string s] w fun v w' => v = .tuple #[.int .i64 (tagR s 0 6).1, .bool (tagR s 0 6).2] ∧ St FDx B w w' := by
 refine enter2 21 [(0, .string s)] 2 3 Tryz.func10 rfl rfl rfl rfl rfl ?_; intro a hF
 have hS := St.refl hI
 refine W_sr rfl fun K hK => ?_
 refine sv2w hK hF (v_assign rfl) (v_assign rfl) rfl rfl ?_; clear hF a hK K; intro a hF
 refine W_seq ?_
 refine W_sr rfl fun K hK => ?_
 refine svw hK hF (v_assign rfl) rfl ?_; clear hF a hK K; intro a hF
 refine W_block ?_
 refine W_loop (fun q a w1 => ∃ (i : Nat), Fr 21 [(0, .string s), (4, .int .i64 ((i + 1 : Nat) : Int))] a ∧ (St FDx B w w1) ∧ (tagR s 0 6 = tagR s i (6 - i)) ∧ (i ≤ 6) ∧ (q + i = 6)) (6) ?_ ?_
 ·
  skip
  exact ⟨0, hF.sub _ (c_ 0 rfl (c_ 4 rfl (n_))), hS, rfl, by omega, by omega⟩
 ·
  skip
  clear hF
  clear hS
  rintro q a w1 ⟨i, hF, hS, ht, hi, hq⟩
  refine W_seq ?_
  refine W_sr rfl fun K hK => ?_
  refine sv2w hK hF (v_move rfl) (v_leq rfl rfl) rfl rfl ?_; clear hF a hK K; intro a hF
  replace hF := hF.sub _ (c_ 8 rfl (c_ 0 rfl (c_ 4 rfl (n_))))
  refine W_if hF rfl (fun hc1 => ?_) (fun hc1 => ?_)
  ·
   skip
   try simp only [dcl] at hc1
   have hlt : i < 6 := by omega
   refine W_skip ?_
   refine W_seq ?_
   refine W_block ?_
   refine W_sr rfl fun K hK => ?_
   refine sv hF (v_move rfl) rfl ?_; clear hF a; intro a hF
   refine sc hF rfl rfl rfl en8 rfl (rPOf_ok B ((i + 1 : Nat) : Int) _ hS.inv) ?_; clear hF a; intro v w' a hv hF
   obtain ⟨rfl, hS'⟩ := hv
   replace hS := hS.trans hS'
   clear hS'
   refine sv3 hF (v_move rfl) (v_ext rfl rfl) (v_ext rfl rfl) rfl rfl rfl ?_; clear hF a; intro a hF
   have hs0 := hS.ext.size
   refine s_allocN (D := FDx) (B := B) (z := .agg prz.toArray) hF (by kernel_rfl) (by decide) hS.inv rfl ?_; clear hF a; intro gR w' a hm hI' hR hF
   replace hS := hS.mb0 hm
   clear hm hI'
   replace hR := hR.le hs0
   clear hs0
   refine s_storeN (D := FDx) (B := B) hF (by rw [List.size_toArray, prOf_len]; kernel_rfl) rfl rfl (prOf_one ((i + 1 : Nat) : Int)) (by rw [List.size_toArray, prOf_len]; rfl) hR hS.inv ?_; intro w' hm hI' hrc'
   replace hS := hS.mb hm (fun k h => by cases h; exact hR.low)
   replace hR := hrc'
   clear hm hI' hrc'
   refine svw hK hF (v_assign rfl) rfl ?_; clear hF a hK K; intro a hF
   replace hF := hF.sub _ (c_ 5 rfl (c_ 0 rfl (c_ 4 rfl (n_))))
   refine W_sr rfl fun K hK => ?_
   refine sv4w hK hF (v_fieldAddr fa30_0 rfl) (v_load sc9 rfl ((hR.kc 0 (prOf_tag hlt)).c)) (v_move rfl) (v_eqlS rfl rfl) rfl rfl rfl rfl ?_; clear hF a hK K; intro a hF
   replace hF := hF.sub _ (c_ 19 rfl (c_ 0 rfl (c_ 4 rfl (n_))))
   refine W_if hF rfl (fun hc2 => ?_) (fun hc2 => ?_)
   ·
    skip
    try simp only [dcl] at hc2
    have heq : tagS i = s := (Go.MapKept.bytes_beq _ _).1 (by assumption)
    refine W_sr rfl fun K hK => ?_
    refine sv3w hK hF (v_move rfl) (v_assign rfl) (v_assign rfl) rfl rfl rfl ?_; clear hF a hK K; intro a hF
    replace hF := hF.sub _ (c_ 3 rfl (c_ 2 rfl (c_ 0 rfl (c_ 4 rfl (n_)))))
    refine W_ret ?_
    refine ⟨_, _, _, hF, rfl, rfl, ?_⟩
    rw [ht, show 6 - i = 6 - (i + 1) + 1 by omega, tagR, if_pos heq]
    exact ⟨rfl, hS⟩
   ·
    skip
    try simp only [dcl] at hc2
    have hne : ¬ tagS i = s := fun e => by have h9 := (Go.MapKept.bytes_beq (tagS i) s).2 e; first | exact absurd h9 (by assumption) | simp_all
    refine W_skip ?_
    refine W_reg rfl fun K hK => ?_
    refine sv hF (v_move rfl) rfl ?_; clear hF a; intro a hF
    refine sv hF ((v_addI rfl rfl (by omega)).as (show Value.int .i64 (((i + 1 : Nat) : Int) + 1) = .int .i64 ((i + 1 + 1 : Nat) : Int) by simp)) rfl ?_; clear hF a; intro a hF
    refine svw hK hF (v_assign rfl) rfl ?_; clear hF a hK K; intro a hF
    replace hF := hF.sub _ (c_ 4 rfl (c_ 10 rfl (c_ 9 rfl (c_ 0 rfl (n_)))))
    exact ⟨q - 1, by omega, i + 1, hF.sub _ (c_ 0 rfl (c_ 4 rfl (n_))), hS, by rw [ht, show 6 - i = 6 - (i + 1) + 1 by omega, tagR, if_neg hne], by omega, by omega⟩
  ·
   skip
   try simp only [dcl] at hc1
   refine W_exit rfl ?_
   refine W_sr rfl fun K hK => ?_
   refine sv2w hK hF (v_assign rfl) (v_assign rfl) rfl rfl ?_; clear hF a hK K; intro a hF
   replace hF := hF.sub _ (c_ 3 rfl (c_ 2 rfl (c_ 0 rfl (c_ 4 rfl (n_)))))
   refine W_ret ?_
   refine ⟨_, _, _, hF, rfl, rfl, ?_⟩
   obtain rfl : i = 6 := by omega
   rw [ht]
   exact ⟨rfl, hS⟩
set_option maxRecDepth 100000 in
set_option maxHeartbeats 1000000 in
theorem rPPar_bad (B : Nat) (p k m : Int) (w : World) (hI : Inv FDx B w) (h : mayP p k m = false) : Ret Tryz.prog 12 [.agg #[.int .i64 p, .int .i64 k, .int .i64 m]] w fun v w' => v = .tuple #[.slice none 0 0, .bool false] ∧ St FDx B w w' := by
 refine enter2 88 [(0, .agg #[.int .i64 p, .int .i64 k, .int .i64 m])] 2 3 Tryz.func12 rfl rfl rfl rfl rfl ?_; intro a hF
 have hS := St.refl hI
 refine W_sr rfl fun K hK => ?_
 refine s_box (D := FDx) (B := B) hF rfl (by decide) hS.inv rfl ?_; clear hF a; intro w' a hm hbx hsz hF
 replace hS := hS.mb0 hm
 clear hm
 refine sv2w hK hF (v_assign rfl) (v_assign rfl) rfl rfl ?_; clear hF a hK K; intro a hF
 replace hF := hF.sub _ (c_ 3 rfl (c_ 2 rfl (c_ 1 rfl (n_))))
 refine W_seq ?_
 refine W_sr rfl fun K hK => ?_
 refine sv hF (v_loadN Tryz.underlying23 rfl (by kernel_rfl) rfl hbx) rfl ?_; clear hF a; intro a hF
 refine sc hF rfl rfl rfl en15 rfl (rPMay_ok B p k m _ hS.inv) ?_; clear hF a; intro v w' a hv hF
 obtain ⟨rfl, hS'⟩ := hv
 replace hbx := hbx.st (by decide) hS'
 replace hS := hS.trans hS'
 clear hS'
 rw [h] at hF
 refine svw hK hF (v_not rfl) rfl ?_; clear hF a hK K; intro a hF
 replace hF := hF.sub _ (c_ 10 rfl (c_ 3 rfl (c_ 2 rfl (c_ 1 rfl (n_)))))
 refine W_ifT hF rfl ?_
 refine W_sr rfl fun K hK => ?_
 refine sv2w hK hF (v_assign rfl) (v_assign rfl) rfl rfl ?_; clear hF a hK K; intro a hF
 replace hF := hF.sub _ (c_ 3 rfl (c_ 2 rfl (c_ 1 rfl (n_))))
 refine W_ret ?_
 refine ⟨_, _, _, hF, rfl, rfl, ?_⟩
 exact ⟨rfl, hS⟩
set_option maxRecDepth 100000 in
set_option maxHeartbeats 1000000 in
theorem rPPar_1 (B kn mn : Nat) (w : World) (hI : Inv FDx B w) (h1 : 1 ≤ kn ∧ kn ≤ 8) (h2 : 1 ≤ mn ∧ mn ≤ 4) : Ret Tryz.prog 12 [.agg #[.int .i64 1, .int .i64 (kn : Int), .int .i64 (mn : Int)]] w fun v w' => ∃ sa cap, v = .tuple #[.slice sa mn cap, .bool true] ∧ Mat FDx B w'.heap.size w' sa cap (tab mn kn (prT 1 kn mn)) ∧ St FDx B w w' := by
 refine enter2 88 [(0, .agg #[.int .i64 1, .int .i64 (kn : Int), .int .i64 (mn : Int)])] 2 3 Tryz.func12 rfl rfl rfl rfl rfl ?_; intro a hF
 have hS := St.refl hI
 refine W_sr rfl fun K hK => ?_
 refine s_box (D := FDx) (B := B) hF rfl (by decide) hS.inv rfl ?_; clear hF a; intro w' a hm hbx hsz hF
 replace hS := hS.mb0 hm
 clear hm
 refine sv2w hK hF (v_assign rfl) (v_assign rfl) rfl rfl ?_; clear hF a hK K; intro a hF
 replace hF := hF.sub _ (c_ 3 rfl (c_ 2 rfl (c_ 1 rfl (n_))))
 refine W_seq ?_
 refine W_sr rfl fun K hK => ?_
 refine sv hF (v_loadN Tryz.underlying23 rfl (by kernel_rfl) rfl hbx) rfl ?_; clear hF a; intro a hF
 refine sc hF rfl rfl rfl en15 rfl (rPMay_ok B 1 kn mn _ hS.inv) ?_; clear hF a; intro v w' a hv hF
 obtain ⟨rfl, hS'⟩ := hv
 replace hbx := hbx.st (by decide) hS'
 replace hS := hS.trans hS'
 clear hS'
 rw [mayP_is (by omega) h1 h2 (by omega)] at hF
 refine svw hK hF (v_not rfl) rfl ?_; clear hF a hK K; intro a hF
 replace hF := hF.sub _ (c_ 10 rfl (c_ 3 rfl (c_ 2 rfl (c_ 1 rfl (n_)))))
 refine W_ifF hF rfl ?_
 refine W_skip ?_
 refine W_sr rfl fun K hK => ?_
 refine sv2 hF (v_fieldAddr fa23_0 rfl) (v_load sc3 rfl (hbx.at 0 rfl)) rfl rfl ?_; clear hF a; intro a hF
 refine sc hF rfl rfl rfl en8 rfl (rPOf_ok B 1 _ hS.inv) ?_; clear hF a; intro v w' a hv hF
 obtain ⟨rfl, hS'⟩ := hv
 replace hbx := hbx.st (by decide) hS'
 replace hS := hS.trans hS'
 clear hS'
 refine sv3 hF (v_move rfl) (v_ext rfl rfl) (v_ext rfl rfl) rfl rfl rfl ?_; clear hF a; intro a hF
 have hs0 := hS.ext.size
 refine s_allocN (D := FDx) (B := B) (z := .agg prz.toArray) hF (by kernel_rfl) (by decide) hS.inv rfl ?_; clear hF a; intro gR w' a hm hI' hR hF
 replace hbx := hbx.mb hm (by simp)
 replace hS := hS.mb0 hm
 clear hm hI'
 replace hR := hR.le hs0
 clear hs0
 refine s_storeN (D := FDx) (B := B) hF (by rw [List.size_toArray, prOf_len]; kernel_rfl) rfl rfl (prOf_one 1) (by rw [List.size_toArray, prOf_len]; rfl) hR hS.inv ?_; intro w' hm hI' hrc'
 replace hbx := hbx.mb hm (by intro e; cases e; exact absurd hR.blk (by intro e2; have := hbx.symm.trans e2; cases this))
 replace hS := hS.mb hm (fun k h => by cases h; exact hR.low)
 replace hR := hrc'
 clear hm hI' hrc'
 refine svw hK hF (v_assign rfl) rfl ?_; clear hF a hK K; intro a hF
 replace hF := hF.sub _ (c_ 4 rfl (c_ 3 rfl (c_ 2 rfl (c_ 1 rfl (n_)))))
 refine W_seq ?_
 refine W_sr rfl fun K hK => ?_
 refine sv2w hK hF (v_fieldAddr fa23_0 rfl) (v_load sc3 rfl (hbx.at 0 rfl)) rfl rfl ?_; clear hF a hK K; intro a hF
 replace hF := hF.sub _ (c_ 18 rfl (c_ 4 rfl (c_ 3 rfl (c_ 2 rfl (c_ 1 rfl (n_))))))
 refine W_block ?_
 refine W_sr rfl fun K hK => ?_
 refine sv2w hK hF ((v_eql rfl rfl).as (congrArg Value.bool (decide_eq_true (rfl)))) (v_assign rfl) rfl rfl ?_; clear hF a hK K; intro a hF
 replace hF := hF.sub _ (c_ 19 rfl (c_ 18 rfl (c_ 4 rfl (c_ 3 rfl (c_ 2 rfl (c_ 1 rfl (n_)))))))
 refine W_ifT hF rfl ?_
 refine W_sr rfl fun K hK => ?_
 refine sv6 hF (v_fieldAddr fa30_1 rfl) (v_load sc3 rfl (hR.blk.at 1 rfl)) (v_fieldAddr fa30_2 rfl) (v_load sc25 rfl (hR.blk.at 2 rfl)) (v_fieldAddr fa23_1 rfl) (v_load sc3 rfl (hbx.at 1 rfl)) rfl rfl rfl rfl rfl rfl ?_; clear hF a; intro a hF
 refine sv2 hF (v_fieldAddr fa23_2 rfl) (v_load sc3 rfl (hbx.at 2 rfl)) rfl rfl ?_; clear hF a; intro a hF
 refine sc hF rfl rfl rfl en31 rfl (rParity_ok B 8 285 prm_285 (kn : Int) (mn : Int) _ hS.inv) ?_; clear hF a; intro v w' a hv hF
 obtain ⟨obX, uX, rfl, hoX, hS'⟩ := hv
 rw [(show parM prm_285 (kn : Int) (mn : Int) = some (tab mn kn (parT prm_285 kn mn)) by unfold parM; rw [if_pos (fitB_ok rfl (by omega) (by omega) (by omega)), Int.toNat_natCast, Int.toNat_natCast])] at hoX hF
 try simp only [Option.getD_some, Option.getD_none] at hoX
 obtain ⟨sX, cX, rfl, hX⟩ := hoX.mat (by decide) (Nat.zero_le _)
 clear hoX
 replace hS := hS.trans hS'
 clear hS'
 refine sv4w hK hF (v_ext rfl rfl) ((v_ext rfl rfl).as (congrArg Value.bool (rfl))) (v_assign rfl) (v_assign rfl) rfl rfl rfl rfl ?_; clear hF a hK K; intro a hF
 replace hF := hF.sub _ (c_ 3 rfl (c_ 2 rfl (c_ 4 rfl (c_ 1 rfl (n_)))))
 refine W_ret ?_
 refine ⟨_, _, _, hF, rfl, rfl, ?_⟩
 exact ⟨_, _, by first | rfl | (rw [tab_length]; rfl), by unfold prT; simpa using hX, hS⟩
set_option maxRecDepth 100000 in
set_option maxHeartbeats 1000000 in
theorem rPPar_2 (B kn mn : Nat) (w : World) (hI : Inv FDx B w) (h1 : 1 ≤ kn ∧ kn ≤ 8) (h2 : 1 ≤ mn ∧ mn ≤ 4) : Ret Tryz.prog 12 [.agg #[.int .i64 2, .int .i64 (kn : Int), .int .i64 (mn : Int)]] w fun v w' => ∃ sa cap, v = .tuple #[.slice sa mn cap, .bool true] ∧ Mat FDx B w'.heap.size w' sa cap (tab mn kn (prT 2 kn mn)) ∧ St FDx B w w' := by
 refine enter2 88 [(0, .agg #[.int .i64 2, .int .i64 (kn : Int), .int .i64 (mn : Int)])] 2 3 Tryz.func12 rfl rfl rfl rfl rfl ?_; intro a hF
 have hS := St.refl hI
 refine W_sr rfl fun K hK => ?_
 refine s_box (D := FDx) (B := B) hF rfl (by decide) hS.inv rfl ?_; clear hF a; intro w' a hm hbx hsz hF
 replace hS := hS.mb0 hm
 clear hm
 refine sv2w hK hF (v_assign rfl) (v_assign rfl) rfl rfl ?_; clear hF a hK K; intro a hF
 replace hF := hF.sub _ (c_ 3 rfl (c_ 2 rfl (c_ 1 rfl (n_))))
 refine W_seq ?_
 refine W_sr rfl fun K hK => ?_
 refine sv hF (v_loadN Tryz.underlying23 rfl (by kernel_rfl) rfl hbx) rfl ?_; clear hF a; intro a hF
 refine sc hF rfl rfl rfl en15 rfl (rPMay_ok B 2 kn mn _ hS.inv) ?_; clear hF a; intro v w' a hv hF
 obtain ⟨rfl, hS'⟩ := hv
 replace hbx := hbx.st (by decide) hS'
 replace hS := hS.trans hS'
 clear hS'
 rw [mayP_is (by omega) h1 h2 (by omega)] at hF
 refine svw hK hF (v_not rfl) rfl ?_; clear hF a hK K; intro a hF
 replace hF := hF.sub _ (c_ 10 rfl (c_ 3 rfl (c_ 2 rfl (c_ 1 rfl (n_)))))
 refine W_ifF hF rfl ?_
 refine W_skip ?_
 refine W_sr rfl fun K hK => ?_
 refine sv2 hF (v_fieldAddr fa23_0 rfl) (v_load sc3 rfl (hbx.at 0 rfl)) rfl rfl ?_; clear hF a; intro a hF
 refine sc hF rfl rfl rfl en8 rfl (rPOf_ok B 2 _ hS.inv) ?_; clear hF a; intro v w' a hv hF
 obtain ⟨rfl, hS'⟩ := hv
 replace hbx := hbx.st (by decide) hS'
 replace hS := hS.trans hS'
 clear hS'
 refine sv3 hF (v_move rfl) (v_ext rfl rfl) (v_ext rfl rfl) rfl rfl rfl ?_; clear hF a; intro a hF
 have hs0 := hS.ext.size
 refine s_allocN (D := FDx) (B := B) (z := .agg prz.toArray) hF (by kernel_rfl) (by decide) hS.inv rfl ?_; clear hF a; intro gR w' a hm hI' hR hF
 replace hbx := hbx.mb hm (by simp)
 replace hS := hS.mb0 hm
 clear hm hI'
 replace hR := hR.le hs0
 clear hs0
 refine s_storeN (D := FDx) (B := B) hF (by rw [List.size_toArray, prOf_len]; kernel_rfl) rfl rfl (prOf_one 2) (by rw [List.size_toArray, prOf_len]; rfl) hR hS.inv ?_; intro w' hm hI' hrc'
 replace hbx := hbx.mb hm (by intro e; cases e; exact absurd hR.blk (by intro e2; have := hbx.symm.trans e2; cases this))
 replace hS := hS.mb hm (fun k h => by cases h; exact hR.low)
 replace hR := hrc'
 clear hm hI' hrc'
 refine svw hK hF (v_assign rfl) rfl ?_; clear hF a hK K; intro a hF
 replace hF := hF.sub _ (c_ 4 rfl (c_ 3 rfl (c_ 2 rfl (c_ 1 rfl (n_)))))
 refine W_seq ?_
 refine W_sr rfl fun K hK => ?_
 refine sv2w hK hF (v_fieldAddr fa23_0 rfl) (v_load sc3 rfl (hbx.at 0 rfl)) rfl rfl ?_; clear hF a hK K; intro a hF
 replace hF := hF.sub _ (c_ 18 rfl (c_ 4 rfl (c_ 3 rfl (c_ 2 rfl (c_ 1 rfl (n_))))))
 refine W_block ?_
 refine W_sr rfl fun K hK => ?_
 refine sv2w hK hF ((v_eql rfl rfl).as (congrArg Value.bool (decide_eq_false (by decide)))) (v_assign rfl) rfl rfl ?_; clear hF a hK K; intro a hF
 replace hF := hF.sub _ (c_ 19 rfl (c_ 18 rfl (c_ 4 rfl (c_ 3 rfl (c_ 2 rfl (c_ 1 rfl (n_)))))))
 refine W_ifF hF rfl ?_
 refine W_sr rfl fun K hK => ?_
 refine sv2w hK hF ((v_eql rfl rfl).as (congrArg Value.bool (decide_eq_true (rfl)))) (v_assign rfl) rfl rfl ?_; clear hF a hK K; intro a hF
 replace hF := hF.sub _ (c_ 32 rfl (c_ 18 rfl (c_ 4 rfl (c_ 3 rfl (c_ 2 rfl (c_ 1 rfl (n_)))))))
 refine W_ifT hF rfl ?_
 refine W_sr rfl fun K hK => ?_
 refine sv6 hF (v_fieldAddr fa30_1 rfl) (v_load sc3 rfl (hR.blk.at 1 rfl)) (v_fieldAddr fa30_2 rfl) (v_load sc25 rfl (hR.blk.at 2 rfl)) (v_fieldAddr fa23_1 rfl) (v_load sc3 rfl (hbx.at 1 rfl)) rfl rfl rfl rfl rfl rfl ?_; clear hF a; intro a hF
 refine sv2 hF (v_fieldAddr fa23_2 rfl) (v_load sc3 rfl (hbx.at 2 rfl)) rfl rfl ?_; clear hF a; intro a hF
 refine sc hF rfl rfl rfl en32 rfl (rOrig_ok B 16 69643 prm_69643 (kn : Int) (mn : Int) _ hS.inv) ?_; clear hF a; intro v w' a hv hF
 obtain ⟨obX, uX, rfl, hoX, hS'⟩ := hv
 rw [(origM_is prm_69643 (k := kn) (m := mn) (by omega) (by omega) (by omega))] at hoX hF
 try simp only [Option.getD_some, Option.getD_none] at hoX
 obtain ⟨sX, cX, rfl, hX⟩ := hoX.mat (by decide) (Nat.zero_le _)
 clear hoX
 replace hS := hS.trans hS'
 clear hS'
 refine sv4w hK hF (v_ext rfl rfl) ((v_ext rfl rfl).as (congrArg Value.bool (rfl))) (v_assign rfl) (v_assign rfl) rfl rfl rfl rfl ?_; clear hF a hK K; intro a hF
 replace hF := hF.sub _ (c_ 3 rfl (c_ 2 rfl (c_ 4 rfl (c_ 1 rfl (n_)))))
 refine W_ret ?_
 refine ⟨_, _, _, hF, rfl, rfl, ?_⟩
 exact ⟨_, _, by first | rfl | (rw [tab_length]; rfl), by unfold prT; simpa using hX, hS⟩
set_option maxRecDepth 100000 in
set_option maxHeartbeats 1000000 in
theorem rPPar_3 (B kn mn : Nat) (w : World) (hI : Inv FDx B w) (h1 : 1 ≤ kn ∧ kn ≤ 8) (h2 : 1 ≤ mn ∧ mn ≤ 4) (h3 : mn ≤ 3) : Ret Tryz.prog 12 [.agg #[.int .i64 3, .int .i64 (kn : Int), .int .i64 (mn : Int)]] w fun v w' => ∃ sa cap, v = .tuple #[.slice sa mn cap, .bool true] ∧ Mat FDx B w'.heap.size w' sa cap (tab mn kn (prT 3 kn mn)) ∧ St FDx B w w' := by
 refine enter2 88 [(0, .agg #[.int .i64 3, .int .i64 (kn : Int), .int .i64 (mn : Int)])] 2 3 Tryz.func12 rfl rfl rfl rfl rfl ?_; intro a hF
 have hS := St.refl hI
 refine W_sr rfl fun K hK => ?_
 refine s_box (D := FDx) (B := B) hF rfl (by decide) hS.inv rfl ?_; clear hF a; intro w' a hm hbx hsz hF
 replace hS := hS.mb0 hm
 clear hm
 refine sv2w hK hF (v_assign rfl) (v_assign rfl) rfl rfl ?_; clear hF a hK K; intro a hF
 replace hF := hF.sub _ (c_ 3 rfl (c_ 2 rfl (c_ 1 rfl (n_))))
 refine W_seq ?_
 refine W_sr rfl fun K hK => ?_
 refine sv hF (v_loadN Tryz.underlying23 rfl (by kernel_rfl) rfl hbx) rfl ?_; clear hF a; intro a hF
 refine sc hF rfl rfl rfl en15 rfl (rPMay_ok B 3 kn mn _ hS.inv) ?_; clear hF a; intro v w' a hv hF
 obtain ⟨rfl, hS'⟩ := hv
 replace hbx := hbx.st (by decide) hS'
 replace hS := hS.trans hS'
 clear hS'
 rw [mayP_is (by omega) h1 h2 (by omega)] at hF
 refine svw hK hF (v_not rfl) rfl ?_; clear hF a hK K; intro a hF
 replace hF := hF.sub _ (c_ 10 rfl (c_ 3 rfl (c_ 2 rfl (c_ 1 rfl (n_)))))
 refine W_ifF hF rfl ?_
 refine W_skip ?_
 refine W_sr rfl fun K hK => ?_
 refine sv2 hF (v_fieldAddr fa23_0 rfl) (v_load sc3 rfl (hbx.at 0 rfl)) rfl rfl ?_; clear hF a; intro a hF
 refine sc hF rfl rfl rfl en8 rfl (rPOf_ok B 3 _ hS.inv) ?_; clear hF a; intro v w' a hv hF
 obtain ⟨rfl, hS'⟩ := hv
 replace hbx := hbx.st (by decide) hS'
 replace hS := hS.trans hS'
 clear hS'
 refine sv3 hF (v_move rfl) (v_ext rfl rfl) (v_ext rfl rfl) rfl rfl rfl ?_; clear hF a; intro a hF
 have hs0 := hS.ext.size
 refine s_allocN (D := FDx) (B := B) (z := .agg prz.toArray) hF (by kernel_rfl) (by decide) hS.inv rfl ?_; clear hF a; intro gR w' a hm hI' hR hF
 replace hbx := hbx.mb hm (by simp)
 replace hS := hS.mb0 hm
 clear hm hI'
 replace hR := hR.le hs0
 clear hs0
 refine s_storeN (D := FDx) (B := B) hF (by rw [List.size_toArray, prOf_len]; kernel_rfl) rfl rfl (prOf_one 3) (by rw [List.size_toArray, prOf_len]; rfl) hR hS.inv ?_; intro w' hm hI' hrc'
 replace hbx := hbx.mb hm (by intro e; cases e; exact absurd hR.blk (by intro e2; have := hbx.symm.trans e2; cases this))
 replace hS := hS.mb hm (fun k h => by cases h; exact hR.low)
 replace hR := hrc'
 clear hm hI' hrc'
 refine svw hK hF (v_assign rfl) rfl ?_; clear hF a hK K; intro a hF
 replace hF := hF.sub _ (c_ 4 rfl (c_ 3 rfl (c_ 2 rfl (c_ 1 rfl (n_)))))
 refine W_seq ?_
 refine W_sr rfl fun K hK => ?_
 refine sv2w hK hF (v_fieldAddr fa23_0 rfl) (v_load sc3 rfl (hbx.at 0 rfl)) rfl rfl ?_; clear hF a hK K; intro a hF
 replace hF := hF.sub _ (c_ 18 rfl (c_ 4 rfl (c_ 3 rfl (c_ 2 rfl (c_ 1 rfl (n_))))))
 refine W_block ?_
 refine W_sr rfl fun K hK => ?_
 refine sv2w hK hF ((v_eql rfl rfl).as (congrArg Value.bool (decide_eq_false (by decide)))) (v_assign rfl) rfl rfl ?_; clear hF a hK K; intro a hF
 replace hF := hF.sub _ (c_ 19 rfl (c_ 18 rfl (c_ 4 rfl (c_ 3 rfl (c_ 2 rfl (c_ 1 rfl (n_)))))))
 refine W_ifF hF rfl ?_
 refine W_sr rfl fun K hK => ?_
 refine sv2w hK hF ((v_eql rfl rfl).as (congrArg Value.bool (decide_eq_false (by decide)))) (v_assign rfl) rfl rfl ?_; clear hF a hK K; intro a hF
 replace hF := hF.sub _ (c_ 32 rfl (c_ 18 rfl (c_ 4 rfl (c_ 3 rfl (c_ 2 rfl (c_ 1 rfl (n_)))))))
 refine W_ifF hF rfl ?_
 refine W_sr rfl fun K hK => ?_
 refine sv2w hK hF ((v_eql rfl rfl).as (congrArg Value.bool (decide_eq_true (rfl)))) (v_assign rfl) rfl rfl ?_; clear hF a hK K; intro a hF
 replace hF := hF.sub _ (c_ 45 rfl (c_ 18 rfl (c_ 4 rfl (c_ 3 rfl (c_ 2 rfl (c_ 1 rfl (n_)))))))
 refine W_ifT hF rfl ?_
 refine W_sr rfl fun K hK => ?_
 refine sv6 hF (v_fieldAddr fa30_1 rfl) (v_load sc3 rfl (hR.blk.at 1 rfl)) (v_fieldAddr fa30_2 rfl) (v_load sc25 rfl (hR.blk.at 2 rfl)) (v_fieldAddr fa23_1 rfl) (v_load sc3 rfl (hbx.at 1 rfl)) rfl rfl rfl rfl rfl rfl ?_; clear hF a; intro a hF
 refine sv2 hF (v_fieldAddr fa23_2 rfl) (v_load sc3 rfl (hbx.at 2 rfl)) rfl rfl ?_; clear hF a; intro a hF
 refine sc hF rfl rfl rfl en33 rfl (rIsal_ok B 8 285 prm_285 (kn : Int) (mn : Int) _ hS.inv) ?_; clear hF a; intro v w' a hv hF
 obtain ⟨obX, uX, rfl, hoX, hS'⟩ := hv
 rw [(isalM_is (o := some (8, 285)) rfl (k := kn) (m := mn) (by omega) (by omega) (by omega))] at hoX hF
 try simp only [Option.getD_some, Option.getD_none] at hoX
 obtain ⟨sX, cX, rfl, hX⟩ := hoX.mat (by decide) (Nat.zero_le _)
 clear hoX
 replace hS := hS.trans hS'
 clear hS'
 refine sv4w hK hF (v_ext rfl rfl) ((v_ext rfl rfl).as (congrArg Value.bool (rfl))) (v_assign rfl) (v_assign rfl) rfl rfl rfl rfl ?_; clear hF a hK K; intro a hF
 replace hF := hF.sub _ (c_ 3 rfl (c_ 2 rfl (c_ 4 rfl (c_ 1 rfl (n_)))))
 refine W_ret ?_
 refine ⟨_, _, _, hF, rfl, rfl, ?_⟩
 exact ⟨_, _, by first | rfl | (rw [tab_length]; rfl), by unfold prT; simpa using hX, hS⟩
set_option maxRecDepth 100000 in
set_option maxHeartbeats 1000000 in
theorem rPPar_4 (B kn mn : Nat) (w : World) (hI : Inv FDx B w) (h1 : 1 ≤ kn ∧ kn ≤ 8) (h2 : 1 ≤ mn ∧ mn ≤ 4) : Ret Tryz.prog 12 [.agg #[.int .i64 4, .int .i64 (kn : Int), .int .i64 (mn : Int)]] w fun v w' => ∃ sa cap, v = .tuple #[.slice sa mn cap, .bool true] ∧ Mat FDx B w'.heap.size w' sa cap (tab mn kn (prT 4 kn mn)) ∧ St FDx B w w' := by
 refine enter2 88 [(0, .agg #[.int .i64 4, .int .i64 (kn : Int), .int .i64 (mn : Int)])] 2 3 Tryz.func12 rfl rfl rfl rfl rfl ?_; intro a hF
 have hS := St.refl hI
 refine W_sr rfl fun K hK => ?_
 refine s_box (D := FDx) (B := B) hF rfl (by decide) hS.inv rfl ?_; clear hF a; intro w' a hm hbx hsz hF
 replace hS := hS.mb0 hm
 clear hm
 refine sv2w hK hF (v_assign rfl) (v_assign rfl) rfl rfl ?_; clear hF a hK K; intro a hF
 replace hF := hF.sub _ (c_ 3 rfl (c_ 2 rfl (c_ 1 rfl (n_))))
 refine W_seq ?_
 refine W_sr rfl fun K hK => ?_
 refine sv hF (v_loadN Tryz.underlying23 rfl (by kernel_rfl) rfl hbx) rfl ?_; clear hF a; intro a hF
 refine sc hF rfl rfl rfl en15 rfl (rPMay_ok B 4 kn mn _ hS.inv) ?_; clear hF a; intro v w' a hv hF
 obtain ⟨rfl, hS'⟩ := hv
 replace hbx := hbx.st (by decide) hS'
 replace hS := hS.trans hS'
 clear hS'
 rw [mayP_is (by omega) h1 h2 (by omega)] at hF
 refine svw hK hF (v_not rfl) rfl ?_; clear hF a hK K; intro a hF
 replace hF := hF.sub _ (c_ 10 rfl (c_ 3 rfl (c_ 2 rfl (c_ 1 rfl (n_)))))
 refine W_ifF hF rfl ?_
 refine W_skip ?_
 refine W_sr rfl fun K hK => ?_
 refine sv2 hF (v_fieldAddr fa23_0 rfl) (v_load sc3 rfl (hbx.at 0 rfl)) rfl rfl ?_; clear hF a; intro a hF
 refine sc hF rfl rfl rfl en8 rfl (rPOf_ok B 4 _ hS.inv) ?_; clear hF a; intro v w' a hv hF
 obtain ⟨rfl, hS'⟩ := hv
 replace hbx := hbx.st (by decide) hS'
 replace hS := hS.trans hS'
 clear hS'
 refine sv3 hF (v_move rfl) (v_ext rfl rfl) (v_ext rfl rfl) rfl rfl rfl ?_; clear hF a; intro a hF
 have hs0 := hS.ext.size
 refine s_allocN (D := FDx) (B := B) (z := .agg prz.toArray) hF (by kernel_rfl) (by decide) hS.inv rfl ?_; clear hF a; intro gR w' a hm hI' hR hF
 replace hbx := hbx.mb hm (by simp)
 replace hS := hS.mb0 hm
 clear hm hI'
 replace hR := hR.le hs0
 clear hs0
 refine s_storeN (D := FDx) (B := B) hF (by rw [List.size_toArray, prOf_len]; kernel_rfl) rfl rfl (prOf_one 4) (by rw [List.size_toArray, prOf_len]; rfl) hR hS.inv ?_; intro w' hm hI' hrc'
 replace hbx := hbx.mb hm (by intro e; cases e; exact absurd hR.blk (by intro e2; have := hbx.symm.trans e2; cases this))
 replace hS := hS.mb hm (fun k h => by cases h; exact hR.low)
 replace hR := hrc'
 clear hm hI' hrc'
 refine svw hK hF (v_assign rfl) rfl ?_; clear hF a hK K; intro a hF
 replace hF := hF.sub _ (c_ 4 rfl (c_ 3 rfl (c_ 2 rfl (c_ 1 rfl (n_)))))
 refine W_seq ?_
 refine W_sr rfl fun K hK => ?_
 refine sv2w hK hF (v_fieldAddr fa23_0 rfl) (v_load sc3 rfl (hbx.at 0 rfl)) rfl rfl ?_; clear hF a hK K; intro a hF
 replace hF := hF.sub _ (c_ 18 rfl (c_ 4 rfl (c_ 3 rfl (c_ 2 rfl (c_ 1 rfl (n_))))))
 refine W_block ?_
 refine W_sr rfl fun K hK => ?_
 refine sv2w hK hF ((v_eql rfl rfl).as (congrArg Value.bool (decide_eq_false (by decide)))) (v_assign rfl) rfl rfl ?_; clear hF a hK K; intro a hF
 replace hF := hF.sub _ (c_ 19 rfl (c_ 18 rfl (c_ 4 rfl (c_ 3 rfl (c_ 2 rfl (c_ 1 rfl (n_)))))))
 refine W_ifF hF rfl ?_
 refine W_sr rfl fun K hK => ?_
 refine sv2w hK hF ((v_eql rfl rfl).as (congrArg Value.bool (decide_eq_false (by decide)))) (v_assign rfl) rfl rfl ?_; clear hF a hK K; intro a hF
 replace hF := hF.sub _ (c_ 32 rfl (c_ 18 rfl (c_ 4 rfl (c_ 3 rfl (c_ 2 rfl (c_ 1 rfl (n_)))))))
 refine W_ifF hF rfl ?_
 refine W_sr rfl fun K hK => ?_
 refine sv2w hK hF ((v_eql rfl rfl).as (congrArg Value.bool (decide_eq_false (by decide)))) (v_assign rfl) rfl rfl ?_; clear hF a hK K; intro a hF
 replace hF := hF.sub _ (c_ 45 rfl (c_ 18 rfl (c_ 4 rfl (c_ 3 rfl (c_ 2 rfl (c_ 1 rfl (n_)))))))
 refine W_ifF hF rfl ?_
 refine W_sr rfl fun K hK => ?_
 refine sv2w hK hF ((v_eql rfl rfl).as (congrArg Value.bool (decide_eq_true (rfl)))) (v_assign rfl) rfl rfl ?_; clear hF a hK K; intro a hF
 replace hF := hF.sub _ (c_ 58 rfl (c_ 4 rfl (c_ 3 rfl (c_ 2 rfl (c_ 1 rfl (n_))))))
 refine W_ifT hF rfl ?_
 refine W_sr rfl fun K hK => ?_
 refine sv6 hF (v_fieldAddr fa30_1 rfl) (v_load sc3 rfl (hR.blk.at 1 rfl)) (v_fieldAddr fa30_2 rfl) (v_load sc25 rfl (hR.blk.at 2 rfl)) (v_fieldAddr fa23_1 rfl) (v_load sc3 rfl (hbx.at 1 rfl)) rfl rfl rfl rfl rfl rfl ?_; clear hF a; intro a hF
 refine sv2 hF (v_fieldAddr fa23_2 rfl) (v_load sc3 rfl (hbx.at 2 rfl)) rfl rfl ?_; clear hF a; intro a hF
 refine sc hF rfl rfl rfl en34 rfl (rCIsal_ok B 8 285 prm_285 (kn : Int) (mn : Int) _ hS.inv) ?_; clear hF a; intro v w' a hv hF
 obtain ⟨obX, uX, rfl, hoX, hS'⟩ := hv
 rw [(cisaM_is prm_285 (k := kn) (m := mn) (by omega) (by omega) (by omega))] at hoX hF
 try simp only [Option.getD_some, Option.getD_none] at hoX
 obtain ⟨sX, cX, rfl, hX⟩ := hoX.mat (by decide) (Nat.zero_le _)
 clear hoX
 replace hS := hS.trans hS'
 clear hS'
 refine sv4w hK hF (v_ext rfl rfl) ((v_ext rfl rfl).as (congrArg Value.bool (rfl))) (v_assign rfl) (v_assign rfl) rfl rfl rfl rfl ?_; clear hF a hK K; intro a hF
 replace hF := hF.sub _ (c_ 3 rfl (c_ 2 rfl (c_ 4 rfl (c_ 1 rfl (n_)))))
 refine W_ret ?_
 refine ⟨_, _, _, hF, rfl, rfl, ?_⟩
 exact ⟨_, _, by first | rfl | (rw [tab_length]; rfl), by unfold prT; simpa using hX, hS⟩
set_option maxRecDepth 100000 in
set_option maxHeartbeats 1000000 in
theorem rPPar_5 (B kn mn : Nat) (w : World) (hI : Inv FDx B w) (h1 : 1 ≤ kn ∧ kn ≤ 8) (h2 : 1 ≤ mn ∧ mn ≤ 4) : Ret Tryz.prog 12 [.agg #[.int .i64 5, .int .i64 (kn : Int), .int .i64 (mn : Int)]] w fun v w' => ∃ sa cap, v = .tuple #[.slice sa mn cap, .bool true] ∧ Mat FDx B w'.heap.size w' sa cap (tab mn kn (prT 5 kn mn)) ∧ St FDx B w w' := by
 refine enter2 88 [(0, .agg #[.int .i64 5, .int .i64 (kn : Int), .int .i64 (mn : Int)])] 2 3 Tryz.func12 rfl rfl rfl rfl rfl ?_; intro a hF
 have hS := St.refl hI
 refine W_sr rfl fun K hK => ?_
 refine s_box (D := FDx) (B := B) hF rfl (by decide) hS.inv rfl ?_; clear hF a; intro w' a hm hbx hsz hF
 replace hS := hS.mb0 hm
 clear hm
 refine sv2w hK hF (v_assign rfl) (v_assign rfl) rfl rfl ?_; clear hF a hK K; intro a hF
 replace hF := hF.sub _ (c_ 3 rfl (c_ 2 rfl (c_ 1 rfl (n_))))
 refine W_seq ?_
 refine W_sr rfl fun K hK => ?_
 refine sv hF (v_loadN Tryz.underlying23 rfl (by kernel_rfl) rfl hbx) rfl ?_; clear hF a; intro a hF
 refine sc hF rfl rfl rfl en15 rfl (rPMay_ok B 5 kn mn _ hS.inv) ?_; clear hF a; intro v w' a hv hF
 obtain ⟨rfl, hS'⟩ := hv
 replace hbx := hbx.st (by decide) hS'
 replace hS := hS.trans hS'
 clear hS'
 rw [mayP_is (by omega) h1 h2 (by omega)] at hF
 refine svw hK hF (v_not rfl) rfl ?_; clear hF a hK K; intro a hF
 replace hF := hF.sub _ (c_ 10 rfl (c_ 3 rfl (c_ 2 rfl (c_ 1 rfl (n_)))))
 refine W_ifF hF rfl ?_
 refine W_skip ?_
 refine W_sr rfl fun K hK => ?_
 refine sv2 hF (v_fieldAddr fa23_0 rfl) (v_load sc3 rfl (hbx.at 0 rfl)) rfl rfl ?_; clear hF a; intro a hF
 refine sc hF rfl rfl rfl en8 rfl (rPOf_ok B 5 _ hS.inv) ?_; clear hF a; intro v w' a hv hF
 obtain ⟨rfl, hS'⟩ := hv
 replace hbx := hbx.st (by decide) hS'
 replace hS := hS.trans hS'
 clear hS'
 refine sv3 hF (v_move rfl) (v_ext rfl rfl) (v_ext rfl rfl) rfl rfl rfl ?_; clear hF a; intro a hF
 have hs0 := hS.ext.size
 refine s_allocN (D := FDx) (B := B) (z := .agg prz.toArray) hF (by kernel_rfl) (by decide) hS.inv rfl ?_; clear hF a; intro gR w' a hm hI' hR hF
 replace hbx := hbx.mb hm (by simp)
 replace hS := hS.mb0 hm
 clear hm hI'
 replace hR := hR.le hs0
 clear hs0
 refine s_storeN (D := FDx) (B := B) hF (by rw [List.size_toArray, prOf_len]; kernel_rfl) rfl rfl (prOf_one 5) (by rw [List.size_toArray, prOf_len]; rfl) hR hS.inv ?_; intro w' hm hI' hrc'
 replace hbx := hbx.mb hm (by intro e; cases e; exact absurd hR.blk (by intro e2; have := hbx.symm.trans e2; cases this))
 replace hS := hS.mb hm (fun k h => by cases h; exact hR.low)
 replace hR := hrc'
 clear hm hI' hrc'
 refine svw hK hF (v_assign rfl) rfl ?_; clear hF a hK K; intro a hF
 replace hF := hF.sub _ (c_ 4 rfl (c_ 3 rfl (c_ 2 rfl (c_ 1 rfl (n_)))))
 refine W_seq ?_
 refine W_sr rfl fun K hK => ?_
 refine sv2w hK hF (v_fieldAddr fa23_0 rfl) (v_load sc3 rfl (hbx.at 0 rfl)) rfl rfl ?_; clear hF a hK K; intro a hF
 replace hF := hF.sub _ (c_ 18 rfl (c_ 4 rfl (c_ 3 rfl (c_ 2 rfl (c_ 1 rfl (n_))))))
 refine W_block ?_
 refine W_sr rfl fun K hK => ?_
 refine sv2w hK hF ((v_eql rfl rfl).as (congrArg Value.bool (decide_eq_false (by decide)))) (v_assign rfl) rfl rfl ?_; clear hF a hK K; intro a hF
 replace hF := hF.sub _ (c_ 19 rfl (c_ 18 rfl (c_ 4 rfl (c_ 3 rfl (c_ 2 rfl (c_ 1 rfl (n_)))))))
 refine W_ifF hF rfl ?_
 refine W_sr rfl fun K hK => ?_
 refine sv2w hK hF ((v_eql rfl rfl).as (congrArg Value.bool (decide_eq_false (by decide)))) (v_assign rfl) rfl rfl ?_; clear hF a hK K; intro a hF
 replace hF := hF.sub _ (c_ 32 rfl (c_ 18 rfl (c_ 4 rfl (c_ 3 rfl (c_ 2 rfl (c_ 1 rfl (n_)))))))
 refine W_ifF hF rfl ?_
 refine W_sr rfl fun K hK => ?_
 refine sv2w hK hF ((v_eql rfl rfl).as (congrArg Value.bool (decide_eq_false (by decide)))) (v_assign rfl) rfl rfl ?_; clear hF a hK K; intro a hF
 replace hF := hF.sub _ (c_ 45 rfl (c_ 18 rfl (c_ 4 rfl (c_ 3 rfl (c_ 2 rfl (c_ 1 rfl (n_)))))))
 refine W_ifF hF rfl ?_
 refine W_sr rfl fun K hK => ?_
 refine sv2w hK hF ((v_eql rfl rfl).as (congrArg Value.bool (decide_eq_false (by decide)))) (v_assign rfl) rfl rfl ?_; clear hF a hK K; intro a hF
 replace hF := hF.sub _ (c_ 58 rfl (c_ 4 rfl (c_ 3 rfl (c_ 2 rfl (c_ 1 rfl (n_))))))
 refine W_ifF hF rfl ?_
 refine W_skip ?_
 refine W_sr rfl fun K hK => ?_
 refine sv6 hF (v_fieldAddr fa30_1 rfl) (v_load sc3 rfl (hR.blk.at 1 rfl)) (v_fieldAddr fa30_2 rfl) (v_load sc25 rfl (hR.blk.at 2 rfl)) (v_fieldAddr fa23_1 rfl) (v_load sc3 rfl (hbx.at 1 rfl)) rfl rfl rfl rfl rfl rfl ?_; clear hF a; intro a hF
 refine sv2 hF (v_fieldAddr fa23_2 rfl) (v_load sc3 rfl (hbx.at 2 rfl)) rfl rfl ?_; clear hF a; intro a hF
 refine sc hF rfl rfl rfl en35 rfl (rSystem_ok B 8 285 prm_285 (kn : Int) (mn : Int) _ hS.inv) ?_; clear hF a; intro v w' a hv hF
 obtain ⟨obX, uX, rfl, hoX, hS'⟩ := hv
 rw [(sysM_is prm_285 (k := kn) (m := mn) (by omega) (by omega) (by omega))] at hoX hF
 try simp only [Option.getD_some, Option.getD_none] at hoX
 obtain ⟨sX, cX, rfl, hX⟩ := hoX.mat (by decide) (Nat.zero_le _)
 clear hoX
 replace hbx := hbx.st (by decide) hS'
 replace hS := hS.trans hS'
 clear hS'
 refine sv5w hK hF (v_move rfl) (v_ext rfl rfl) ((v_ext rfl rfl).as (congrArg Value.bool (rfl))) (v_assign rfl) (v_assign rfl) rfl rfl rfl rfl rfl ?_; clear hF a hK K; intro a hF
 replace hF := hF.sub _ (c_ 7 rfl (c_ 6 rfl (c_ 82 rfl (c_ 81 rfl (c_ 71 rfl (c_ 80 rfl (c_ 79 rfl (c_ 78 rfl (c_ 77 rfl (c_ 76 rfl (c_ 75 rfl (c_ 74 rfl (c_ 73 rfl (c_ 72 rfl (c_ 4 rfl (c_ 3 rfl (c_ 2 rfl (c_ 1 rfl (n_)))))))))))))))))))
 have hxl : (tab (kn + mn) kn (sysT prm_285 kn)).length = kn + mn := tab_length _ _ _
 rw [hxl] at hF
 have hcX := hX.capd
 rw [hxl] at hcX
 have hX2 := hX.from (lo := kn) (b := tab mn kn fun i j => sysT prm_285 kn (kn + i) j) (by rw [tab_length]; omega) (by rw [tab_drop (by omega), Nat.add_sub_cancel_left])
 clear hX
 have hX := hX2
 refine W_sr rfl fun K hK => ?_
 refine sv4 hF (v_move rfl) (v_fieldAddr fa23_1 rfl) (v_load sc3 rfl (hbx.at 1 rfl)) (v_slLo sl35 rfl rfl (by omega) (by omega)) rfl rfl rfl rfl ?_; clear hF a; intro a hF
 rw [show kn + mn - kn = mn by omega] at hF
 refine sv3w hK hF (v_move rfl) (v_assign rfl) (v_assign rfl) rfl rfl rfl ?_; clear hF a hK K; intro a hF
 refine W_ret ?_
 refine ⟨_, _, _, hF, rfl, rfl, ?_⟩
 exact ⟨_, _, by first | rfl | (rw [tab_length]; rfl), by unfold prT; simpa using hX, hS⟩
set_option maxRecDepth 100000 in
set_option maxHeartbeats 1000000 in
theorem rPPar_6 (B kn mn : Nat) (w : World) (hI : Inv FDx B w) (h1 : 1 ≤ kn ∧ kn ≤ 8) (h2 : 1 ≤ mn ∧ mn ≤ 4) : Ret Tryz.prog 12 [.agg #[.int .i64 6, .int .i64 (kn : Int), .int .i64 (mn : Int)]] w fun v w' => ∃ sa cap, v = .tuple #[.slice sa mn cap, .bool true] ∧ Mat FDx B w'.heap.size w' sa cap (tab mn kn (prT 6 kn mn)) ∧ St FDx B w w' := by
 refine enter2 88 [(0, .agg #[.int .i64 6, .int .i64 (kn : Int), .int .i64 (mn : Int)])] 2 3 Tryz.func12 rfl rfl rfl rfl rfl ?_; intro a hF
 have hS := St.refl hI
 refine W_sr rfl fun K hK => ?_
 refine s_box (D := FDx) (B := B) hF rfl (by decide) hS.inv rfl ?_; clear hF a; intro w' a hm hbx hsz hF
 replace hS := hS.mb0 hm
 clear hm
 refine sv2w hK hF (v_assign rfl) (v_assign rfl) rfl rfl ?_; clear hF a hK K; intro a hF
 replace hF := hF.sub _ (c_ 3 rfl (c_ 2 rfl (c_ 1 rfl (n_))))
 refine W_seq ?_
 refine W_sr rfl fun K hK => ?_
 refine sv hF (v_loadN Tryz.underlying23 rfl (by kernel_rfl) rfl hbx) rfl ?_; clear hF a; intro a hF
 refine sc hF rfl rfl rfl en15 rfl (rPMay_ok B 6 kn mn _ hS.inv) ?_; clear hF a; intro v w' a hv hF
 obtain ⟨rfl, hS'⟩ := hv
 replace hbx := hbx.st (by decide) hS'
 replace hS := hS.trans hS'
 clear hS'
 rw [mayP_is (by omega) h1 h2 (by omega)] at hF
 refine svw hK hF (v_not rfl) rfl ?_; clear hF a hK K; intro a hF
 replace hF := hF.sub _ (c_ 10 rfl (c_ 3 rfl (c_ 2 rfl (c_ 1 rfl (n_)))))
 refine W_ifF hF rfl ?_
 refine W_skip ?_
 refine W_sr rfl fun K hK => ?_
 refine sv2 hF (v_fieldAddr fa23_0 rfl) (v_load sc3 rfl (hbx.at 0 rfl)) rfl rfl ?_; clear hF a; intro a hF
 refine sc hF rfl rfl rfl en8 rfl (rPOf_ok B 6 _ hS.inv) ?_; clear hF a; intro v w' a hv hF
 obtain ⟨rfl, hS'⟩ := hv
 replace hbx := hbx.st (by decide) hS'
 replace hS := hS.trans hS'
 clear hS'
 refine sv3 hF (v_move rfl) (v_ext rfl rfl) (v_ext rfl rfl) rfl rfl rfl ?_; clear hF a; intro a hF
 have hs0 := hS.ext.size
 refine s_allocN (D := FDx) (B := B) (z := .agg prz.toArray) hF (by kernel_rfl) (by decide) hS.inv rfl ?_; clear hF a; intro gR w' a hm hI' hR hF
 replace hbx := hbx.mb hm (by simp)
 replace hS := hS.mb0 hm
 clear hm hI'
 replace hR := hR.le hs0
 clear hs0
 refine s_storeN (D := FDx) (B := B) hF (by rw [List.size_toArray, prOf_len]; kernel_rfl) rfl rfl (prOf_one 6) (by rw [List.size_toArray, prOf_len]; rfl) hR hS.inv ?_; intro w' hm hI' hrc'
 replace hbx := hbx.mb hm (by intro e; cases e; exact absurd hR.blk (by intro e2; have := hbx.symm.trans e2; cases this))
 replace hS := hS.mb hm (fun k h => by cases h; exact hR.low)
 replace hR := hrc'
 clear hm hI' hrc'
 refine svw hK hF (v_assign rfl) rfl ?_; clear hF a hK K; intro a hF
 replace hF := hF.sub _ (c_ 4 rfl (c_ 3 rfl (c_ 2 rfl (c_ 1 rfl (n_)))))
 refine W_seq ?_
 refine W_sr rfl fun K hK => ?_
 refine sv2w hK hF (v_fieldAddr fa23_0 rfl) (v_load sc3 rfl (hbx.at 0 rfl)) rfl rfl ?_; clear hF a hK K; intro a hF
 replace hF := hF.sub _ (c_ 18 rfl (c_ 4 rfl (c_ 3 rfl (c_ 2 rfl (c_ 1 rfl (n_))))))
 refine W_block ?_
 refine W_sr rfl fun K hK => ?_
 refine sv2w hK hF ((v_eql rfl rfl).as (congrArg Value.bool (decide_eq_false (by decide)))) (v_assign rfl) rfl rfl ?_; clear hF a hK K; intro a hF
 replace hF := hF.sub _ (c_ 19 rfl (c_ 18 rfl (c_ 4 rfl (c_ 3 rfl (c_ 2 rfl (c_ 1 rfl (n_)))))))
 refine W_ifF hF rfl ?_
 refine W_sr rfl fun K hK => ?_
 refine sv2w hK hF ((v_eql rfl rfl).as (congrArg Value.bool (decide_eq_false (by decide)))) (v_assign rfl) rfl rfl ?_; clear hF a hK K; intro a hF
 replace hF := hF.sub _ (c_ 32 rfl (c_ 18 rfl (c_ 4 rfl (c_ 3 rfl (c_ 2 rfl (c_ 1 rfl (n_)))))))
 refine W_ifF hF rfl ?_
 refine W_sr rfl fun K hK => ?_
 refine sv2w hK hF ((v_eql rfl rfl).as (congrArg Value.bool (decide_eq_false (by decide)))) (v_assign rfl) rfl rfl ?_; clear hF a hK K; intro a hF
 replace hF := hF.sub _ (c_ 45 rfl (c_ 18 rfl (c_ 4 rfl (c_ 3 rfl (c_ 2 rfl (c_ 1 rfl (n_)))))))
 refine W_ifF hF rfl ?_
 refine W_sr rfl fun K hK => ?_
 refine sv2w hK hF ((v_eql rfl rfl).as (congrArg Value.bool (decide_eq_false (by decide)))) (v_assign rfl) rfl rfl ?_; clear hF a hK K; intro a hF
 replace hF := hF.sub _ (c_ 58 rfl (c_ 4 rfl (c_ 3 rfl (c_ 2 rfl (c_ 1 rfl (n_))))))
 refine W_ifF hF rfl ?_
 refine W_skip ?_
 refine W_sr rfl fun K hK => ?_
 refine sv6 hF (v_fieldAddr fa30_1 rfl) (v_load sc3 rfl (hR.blk.at 1 rfl)) (v_fieldAddr fa30_2 rfl) (v_load sc25 rfl (hR.blk.at 2 rfl)) (v_fieldAddr fa23_1 rfl) (v_load sc3 rfl (hbx.at 1 rfl)) rfl rfl rfl rfl rfl rfl ?_; clear hF a; intro a hF
 refine sv2 hF (v_fieldAddr fa23_2 rfl) (v_load sc3 rfl (hbx.at 2 rfl)) rfl rfl ?_; clear hF a; intro a hF
 refine sc hF rfl rfl rfl en35 rfl (rSystem_ok B 8 285 prm_285 (kn : Int) (mn : Int) _ hS.inv) ?_; clear hF a; intro v w' a hv hF
 obtain ⟨obX, uX, rfl, hoX, hS'⟩ := hv
 rw [(sysM_is prm_285 (k := kn) (m := mn) (by omega) (by omega) (by omega))] at hoX hF
 try simp only [Option.getD_some, Option.getD_none] at hoX
 obtain ⟨sX, cX, rfl, hX⟩ := hoX.mat (by decide) (Nat.zero_le _)
 clear hoX
 replace hbx := hbx.st (by decide) hS'
 replace hS := hS.trans hS'
 clear hS'
 refine sv5w hK hF (v_move rfl) (v_ext rfl rfl) ((v_ext rfl rfl).as (congrArg Value.bool (rfl))) (v_assign rfl) (v_assign rfl) rfl rfl rfl rfl rfl ?_; clear hF a hK K; intro a hF
 replace hF := hF.sub _ (c_ 7 rfl (c_ 6 rfl (c_ 82 rfl (c_ 81 rfl (c_ 71 rfl (c_ 80 rfl (c_ 79 rfl (c_ 78 rfl (c_ 77 rfl (c_ 76 rfl (c_ 75 rfl (c_ 74 rfl (c_ 73 rfl (c_ 72 rfl (c_ 4 rfl (c_ 3 rfl (c_ 2 rfl (c_ 1 rfl (n_)))))))))))))))))))
 have hxl : (tab (kn + mn) kn (sysT prm_285 kn)).length = kn + mn := tab_length _ _ _
 rw [hxl] at hF
 have hcX := hX.capd
 rw [hxl] at hcX
 have hX2 := hX.from (lo := kn) (b := tab mn kn fun i j => sysT prm_285 kn (kn + i) j) (by rw [tab_length]; omega) (by rw [tab_drop (by omega), Nat.add_sub_cancel_left])
 clear hX
 have hX := hX2
 refine W_sr rfl fun K hK => ?_
 refine sv4 hF (v_move rfl) (v_fieldAddr fa23_1 rfl) (v_load sc3 rfl (hbx.at 1 rfl)) (v_slLo sl35 rfl rfl (by omega) (by omega)) rfl rfl rfl rfl ?_; clear hF a; intro a hF
 rw [show kn + mn - kn = mn by omega] at hF
 refine sv3w hK hF (v_move rfl) (v_assign rfl) (v_assign rfl) rfl rfl rfl ?_; clear hF a hK K; intro a hF
 refine W_ret ?_
 refine ⟨_, _, _, hF, rfl, rfl, ?_⟩
 exact ⟨_, _, by first | rfl | (rw [tab_length]; rfl), by unfold prT; simpa using hX, hS⟩
theorem rPPar_ok (B : Nat) (p : Int) (kn mn : Nat) (w : World) (hI : Inv FDx B w) (h : mayP p (kn : Int) (mn : Int) = true) : Ret Tryz.prog 12 [.agg #[.int .i64 p, .int .i64 (kn : Int), .int .i64 (mn : Int)]] w fun v w' => ∃ sa cap, v = .tuple #[.slice sa mn cap, .bool true] ∧ Mat FDx B w'.heap.size w' sa cap (tab mn kn (prT p kn mn)) ∧ St FDx B w w' := by
 obtain ⟨h1, h2, k, m, e1, e2, h3, h4, h5, h6, h7⟩ := mayP_of h
 obtain rfl : kn = k := by omega
 obtain rfl : mn = m := by omega
 have hp : p = 1 ∨ p = 2 ∨ p = 3 ∨ p = 4 ∨ p = 5 ∨ p = 6 := by omega
 rcases hp with rfl | rfl | rfl | rfl | rfl | rfl
 ·
  exact rPPar_1 B kn mn w hI ⟨h3, h4⟩ ⟨h5, h6⟩
 ·
  exact rPPar_2 B kn mn w hI ⟨h3, h4⟩ ⟨h5, h6⟩
 ·
  exact rPPar_3 B kn mn w hI ⟨h3, h4⟩ ⟨h5, h6⟩ (h7 rfl)
 ·
  exact rPPar_4 B kn mn w hI ⟨h3, h4⟩ ⟨h5, h6⟩
 ·
  exact rPPar_5 B kn mn w hI ⟨h3, h4⟩ ⟨h5, h6⟩
 ·
  exact rPPar_6 B kn mn w hI ⟨h3, h4⟩ ⟨h5, h6⟩
end Go.Proofs.YtkoiolamnnmokaaGreat

/- The statement ProfileTells, walked: it returns true. -/
namespace Go.Proofs.YtkoiolamnnmokaaGreat
open Go Go.Gam
namespace FxFProfileTells
theorem en6 : Ent Tryz.prog 6 := ent Tryz.func6 (by kernel_rfl) (by kernel_rfl)
theorem en7 : Ent Tryz.prog 7 := ent Tryz.func7 (by kernel_rfl) (by kernel_rfl)
theorem en8 : Ent Tryz.prog 8 := ent Tryz.func8 (by kernel_rfl) (by kernel_rfl)
theorem en9 : Ent Tryz.prog 9 := ent Tryz.func9 (by kernel_rfl) (by kernel_rfl)
theorem en10 : Ent Tryz.prog 10 := ent Tryz.func10 (by kernel_rfl) (by kernel_rfl)
theorem en11 : Ent Tryz.prog 11 := ent Tryz.func11 (by kernel_rfl) (by kernel_rfl)
theorem en12 : Ent Tryz.prog 12 := ent Tryz.func12 (by kernel_rfl) (by kernel_rfl)
theorem en13 : Ent Tryz.prog 13 := ent Tryz.func13 (by kernel_rfl) (by kernel_rfl)
theorem en14 : Ent Tryz.prog 14 := ent Tryz.func14 (by kernel_rfl) (by kernel_rfl)
theorem en15 : Ent Tryz.prog 15 := ent Tryz.func15 (by kernel_rfl) (by kernel_rfl)
theorem en16 : Ent Tryz.prog 16 := ent Tryz.func16 (by kernel_rfl) (by kernel_rfl)
theorem en17 : Ent Tryz.prog 17 := ent Tryz.func17 (by kernel_rfl) (by kernel_rfl)
theorem fa27_0 : FieldFact Tryz.prog 27 0 0 := ff_of (sz := 0) Tryz.underlying27 (by kernel_rfl)
theorem fa27_1 : FieldFact Tryz.prog 27 1 1 := ff_of (sz := 0) Tryz.underlying27 (by kernel_rfl)
theorem fa27_2 : FieldFact Tryz.prog 27 2 2 := ff_of (sz := 0) Tryz.underlying27 (by kernel_rfl)
theorem fa27_3 : FieldFact Tryz.prog 27 3 3 := ff_of (sz := 0) Tryz.underlying27 (by kernel_rfl)
theorem fa27_4 : FieldFact Tryz.prog 27 4 4 := ff_of (sz := 0) Tryz.underlying27 (by kernel_rfl)
theorem fa30_0 : FieldFact Tryz.prog 30 0 0 := ff_of (sz := 0) Tryz.underlying30 (by kernel_rfl)
theorem fa30_1 : FieldFact Tryz.prog 30 1 1 := ff_of (sz := 0) Tryz.underlying30 (by kernel_rfl)
theorem fa30_2 : FieldFact Tryz.prog 30 2 2 := ff_of (sz := 0) Tryz.underlying30 (by kernel_rfl)
theorem fa30_3 : FieldFact Tryz.prog 30 3 3 := ff_of (sz := 0) Tryz.underlying30 (by kernel_rfl)
theorem fa30_4 : FieldFact Tryz.prog 30 4 4 := ff_of (sz := 0) Tryz.underlying30 (by kernel_rfl)
theorem hmix : Tryz.prog.follows .mixedOrders = true := by kernel_rfl
theorem sc25 : Scalar Tryz.prog 25 := ⟨_, Tryz.underlying25, by simp, by simp⟩
theorem sc3 : Scalar Tryz.prog 3 := ⟨_, Tryz.underlying3, by simp, by simp⟩
theorem sc5 : Scalar Tryz.prog 5 := ⟨_, Tryz.underlying5, by simp, by simp⟩
theorem sc9 : Scalar Tryz.prog 9 := ⟨_, Tryz.underlying9, by simp, by simp⟩
end FxFProfileTells
open FxFProfileTells
theorem PPar_o (B : Nat) (p0 k0 m0 : Int) (w : World) (hI : Inv FDx B w) : Ret Tryz.prog 11 [.agg #[.int .i64 p0, .int .i64 k0, .int .i64 m0]] w fun v w' => ∃ sa cap, v = .tuple #[.slice sa ((parO p0 k0 m0).getD []).length cap, .int .i64 (errV (parO p0 k0 m0))] ∧ Mat FDx B w'.heap.size w' sa cap ((parO p0 k0 m0).getD []) ∧ St FDx B w w' := by
 cases h : mayP p0 k0 m0 with
 | true =>
  obtain ⟨_, _, kn, mn, rfl, rfl, _, _, _, _, _⟩ := mayP_of h
  rw [parO_is h]
  refine (PPar_ok B p0 kn mn w hI h).mono ?_
  rintro v w' ⟨sa, cap, rfl, h1, h2⟩
  exact ⟨sa, cap, by rw [Option.getD_some, tab_length]; rfl, h1, h2⟩
 | false =>
  rw [parO_no h]
  refine (PPar_bad B p0 k0 m0 w hI h).mono ?_
  rintro v w' ⟨rfl, h2⟩
  exact ⟨none, 0, rfl, Mat.nil0 _ _ _ _, h2⟩
theorem rPPar_o (B : Nat) (p0 k0 m0 : Int) (w : World) (hI : Inv FDx B w) : Ret Tryz.prog 12 [.agg #[.int .i64 p0, .int .i64 k0, .int .i64 m0]] w fun v w' => ∃ sa cap, v = .tuple #[.slice sa ((parO p0 k0 m0).getD []).length cap, .bool (parO p0 k0 m0).isSome] ∧ Mat FDx B w'.heap.size w' sa cap ((parO p0 k0 m0).getD []) ∧ St FDx B w w' := by
 cases h : mayP p0 k0 m0 with
 | true =>
  obtain ⟨_, _, kn, mn, rfl, rfl, _, _, _, _, _⟩ := mayP_of h
  rw [parO_is h]
  refine (rPPar_ok B p0 kn mn w hI h).mono ?_
  rintro v w' ⟨sa, cap, rfl, h1, h2⟩
  exact ⟨sa, cap, by rw [Option.getD_some, tab_length]; rfl, h1, h2⟩
 | false =>
  rw [parO_no h]
  refine (rPPar_bad B p0 k0 m0 w hI h).mono ?_
  rintro v w' ⟨rfl, h2⟩
  exact ⟨none, 0, rfl, Mat.nil0 _ _ _ _, h2⟩
theorem fbits_o (p : Int) : fbits (fldO p) = pbits p := by
 unfold fldO pbits
 by_cases h : 1 ≤ p ∧ p ≤ 6
 ·
  rw [if_pos h, if_pos h]; rfl
 ·
  rw [if_neg h, if_neg h]; rfl
theorem PField_o (B : Nat) (p : Int) (w : World) (hI : Inv FDx B w) : Ret Tryz.prog 13 [.int .i64 p] w fun v w' => Fo FDx B w' v (fldO p) ∧ St FDx B w w' := by
 unfold fldO
 by_cases h : 1 ≤ p ∧ p ≤ 6
 ·
  rw [if_pos h]; exact PField_in B p w hI h
 ·
  rw [if_neg h]
  refine (PField_out B p w hI h).mono ?_
  rintro v w' ⟨rfl, h2⟩
  exact ⟨rfl, h2⟩
set_option maxRecDepth 100000 in
set_option maxHeartbeats 1000000 in
theorem ProfileTells_ok (B : Nat) (p : Int) (s : ByteArray) (p0 k0 m0 : Int) (w : World) (hI : Inv FDx B w) (hp : -9223372036854775808 ≤ p ∧ p < 9223372036854775808) (hs : s.size ≤ maxLen) (hp0 : -9223372036854775808 ≤ p0 ∧ p0 < 9223372036854775808) (hk0 : -9223372036854775808 ≤ k0 ∧ k0 < 9223372036854775808) (hm0 : -9223372036854775808 ≤ m0 ∧ m0 < 9223372036854775808) : Ret Tryz.prog 3 [.int .i64 p, .string s, .agg #[.int .i64 p0, .int .i64 k0, .int .i64 m0]] w fun v w' => v = .bool true ∧ St FDx B w w' := by
 refine enter 145 [(0, .int .i64 p), (1, .string s), (2, .agg #[.int .i64 p0, .int .i64 k0, .int .i64 m0])] 6 Tryz.func3 rfl rfl rfl rfl rfl ?_; intro a hF
 have hS := St.refl hI
 obtain ⟨ts, q_, l_, mx_, hpc⟩ := prOf_cells p
 refine W_sr rfl fun K hK => ?_
 refine s_box (D := FDx) (B := B) hF rfl (by decide) hS.inv rfl ?_; clear hF a; intro w' a hm hbx hsz hF
 replace hS := hS.mb0 hm
 clear hm
 refine svw hK hF (v_assign rfl) rfl ?_; clear hF a hK K; intro a hF
 replace hF := hF.sub _ (c_ 6 rfl (c_ 5 rfl (c_ 0 rfl (c_ 1 rfl (n_)))))
 refine W_sr rfl fun K hK => ?_
 refine sc hF rfl rfl rfl en6 rfl (aw09_ok B _ hS.inv) ?_; clear hF a; intro v w' a hv hF
 obtain ⟨rfl, hS'⟩ := hv
 replace hbx := hbx.st (by decide) hS'
 replace hS := hS.trans hS'
 clear hS'
 refine svw hK hF (v_assign rfl) rfl ?_; clear hF a hK K; intro a hF
 replace hF := hF.sub _ (c_ 7 rfl (c_ 6 rfl (c_ 5 rfl (c_ 0 rfl (c_ 1 rfl (n_))))))
 refine W_sr rfl fun K hK => ?_
 refine sv hF (v_move rfl) rfl ?_; clear hF a; intro a hF
 refine sc hF rfl rfl rfl en7 rfl (POf_ok B p _ hS.inv) ?_; clear hF a; intro v w' a hv hF
 obtain ⟨rfl, hS'⟩ := hv
 replace hbx := hbx.st (by decide) hS'
 replace hS := hS.trans hS'
 clear hS'
 refine sv3 hF (v_move rfl) (v_ext rfl rfl) (v_ext rfl rfl) rfl rfl rfl ?_; clear hF a; intro a hF
 have hs0 := hS.ext.size
 have tb := heap_lt hbx
 refine s_allocN (D := FDx) (B := B) (z := .agg prz.toArray) hF (by kernel_rfl) (by decide) hS.inv rfl ?_; clear hF a; intro ga w' a hm hI' ha hF
 replace hbx := hbx.mb hm (by simp)
 replace hS := hS.mb0 hm
 clear hm hI'
 have hgha := ha.low
 replace ha := ha.le hs0
 clear hs0
 refine s_storeN (D := FDx) (B := B) hF (by rw [List.size_toArray, prOf_len]; kernel_rfl) rfl rfl (prOf_one p) (by rw [List.size_toArray, prOf_len]; rfl) ha hS.inv ?_; intro w' hm hI' hrc'
 replace hbx := hbx.mb hm (by simp; omega)
 replace hS := hS.mb hm (fun k h => by cases h; exact ha.low)
 replace ha := hrc'
 clear hm hI' hrc'
 refine svw hK hF (v_assign rfl) rfl ?_; clear hF a hK K; intro a hF
 replace hF := hF.sub _ (c_ 9 rfl (c_ 8 rfl (c_ 7 rfl (c_ 6 rfl (c_ 5 rfl (c_ 0 rfl (c_ 1 rfl (n_))))))))
 refine W_sr rfl fun K hK => ?_
 refine sv hF (v_move rfl) rfl ?_; clear hF a; intro a hF
 refine sc hF rfl rfl rfl en8 rfl (rPOf_ok B p _ hS.inv) ?_; clear hF a; intro v w' a hv hF
 obtain ⟨rfl, hS'⟩ := hv
 replace hbx := hbx.st (by decide) hS'
 replace ha := ha.st hS'
 replace hS := hS.trans hS'
 clear hS'
 refine sv3 hF (v_move rfl) (v_ext rfl rfl) (v_ext rfl rfl) rfl rfl rfl ?_; clear hF a; intro a hF
 have hs0 := hS.ext.size
 have tb2 := heap_lt hbx
 have ta := heap_lt ha.blk
 refine s_allocN (D := FDx) (B := B) (z := .agg prz.toArray) hF (by kernel_rfl) (by decide) hS.inv rfl ?_; clear hF a; intro gb w' a hm hI' hb hF
 replace hbx := hbx.mb hm (by simp)
 replace ha := ha.mb hm (by simp)
 replace hS := hS.mb0 hm
 clear hm hI'
 have hghb := hb.low
 replace hb := hb.le hs0
 clear hs0
 refine s_storeN (D := FDx) (B := B) hF (by rw [List.size_toArray, prOf_len]; kernel_rfl) rfl rfl (prOf_one p) (by rw [List.size_toArray, prOf_len]; rfl) hb hS.inv ?_; intro w' hm hI' hrc'
 replace hbx := hbx.mb hm (by simp; omega)
 replace ha := ha.mb hm (by simp; omega)
 replace hS := hS.mb hm (fun k h => by cases h; exact hb.low)
 replace hb := hrc'
 clear hm hI' hrc'
 refine svw hK hF (v_assign rfl) rfl ?_; clear hF a hK K; intro a hF
 replace hF := hF.sub _ (c_ 11 rfl (c_ 10 rfl (c_ 9 rfl (c_ 8 rfl (c_ 7 rfl (c_ 6 rfl (c_ 5 rfl (c_ 0 rfl (c_ 1 rfl (n_))))))))))
 refine W_sr rfl fun K hK => ?_
 refine sv hF (v_move rfl) rfl ?_; clear hF a; intro a hF
 refine sc hF rfl rfl rfl en9 rfl (Tagged_ok B s _ hS.inv) ?_; clear hF a; intro v w' a hv hF
 obtain ⟨rfl, hS'⟩ := hv
 replace hbx := hbx.st (by decide) hS'
 replace ha := ha.st hS'
 replace hb := hb.st hS'
 replace hS := hS.trans hS'
 clear hS'
 refine sv5w hK hF (v_move rfl) (v_ext rfl rfl) (v_ext rfl rfl) (v_assign rfl) (v_assign rfl) rfl rfl rfl rfl rfl ?_; clear hF a hK K; intro a hF
 replace hF := hF.sub _ (c_ 13 rfl (c_ 12 rfl (c_ 11 rfl (c_ 10 rfl (c_ 9 rfl (c_ 8 rfl (c_ 7 rfl (c_ 6 rfl (c_ 5 rfl (c_ 0 rfl (c_ 1 rfl (n_))))))))))))
 refine W_sr rfl fun K hK => ?_
 refine sv hF (v_move rfl) rfl ?_; clear hF a; intro a hF
 refine sc hF rfl rfl rfl en10 rfl (rTagged_ok B s _ hS.inv) ?_; clear hF a; intro v w' a hv hF
 obtain ⟨rfl, hS'⟩ := hv
 replace hbx := hbx.st (by decide) hS'
 replace ha := ha.st hS'
 replace hb := hb.st hS'
 replace hS := hS.trans hS'
 clear hS'
 refine sv5w hK hF (v_move rfl) (v_ext rfl rfl) (v_ext rfl rfl) (v_assign rfl) (v_assign rfl) rfl rfl rfl rfl rfl ?_; clear hF a hK K; intro a hF
 replace hF := hF.sub _ (c_ 15 rfl (c_ 14 rfl (c_ 13 rfl (c_ 12 rfl (c_ 11 rfl (c_ 10 rfl (c_ 9 rfl (c_ 8 rfl (c_ 7 rfl (c_ 6 rfl (c_ 5 rfl (c_ 0 rfl (n_)))))))))))))
 refine W_sr rfl fun K hK => ?_
 refine sv hF (v_loadN Tryz.underlying23 rfl (by kernel_rfl) rfl hbx) rfl ?_; clear hF a; intro a hF
 refine sc hF rfl rfl rfl en11 rfl (PPar_o B p0 k0 m0 _ hS.inv) ?_; clear hF a; intro v w' a hv hF
 obtain ⟨sX, cX, rfl, hX, hS'⟩ := hv
 replace hbx := hbx.st (by decide) hS'
 replace ha := ha.st hS'
 replace hb := hb.st hS'
 replace hS := hS.trans hS'
 clear hS'
 refine sv5w hK hF (v_move rfl) (v_ext rfl rfl) (v_ext rfl rfl) (v_assign rfl) (v_assign rfl) rfl rfl rfl rfl rfl ?_; clear hF a hK K; intro a hF
 replace hF := hF.sub _ (c_ 17 rfl (c_ 16 rfl (c_ 15 rfl (c_ 14 rfl (c_ 13 rfl (c_ 12 rfl (c_ 11 rfl (c_ 10 rfl (c_ 9 rfl (c_ 8 rfl (c_ 7 rfl (c_ 6 rfl (c_ 5 rfl (c_ 0 rfl (n_)))))))))))))))
 refine W_sr rfl fun K hK => ?_
 refine sv hF (v_loadN Tryz.underlying23 rfl (by kernel_rfl) rfl hbx) rfl ?_; clear hF a; intro a hF
 refine sc hF rfl rfl rfl en12 rfl (rPPar_o B p0 k0 m0 _ hS.inv) ?_; clear hF a; intro v w' a hv hF
 obtain ⟨sY, cY, rfl, hY, hS'⟩ := hv
 replace hbx := hbx.st (by decide) hS'
 replace ha := ha.st hS'
 replace hb := hb.st hS'
 replace hX := (hX.st hS').mono hS'.ext.size
 replace hS := hS.trans hS'
 clear hS'
 refine sv5w hK hF (v_move rfl) (v_ext rfl rfl) (v_ext rfl rfl) (v_assign rfl) (v_assign rfl) rfl rfl rfl rfl rfl ?_; clear hF a hK K; intro a hF
 replace hF := hF.sub _ (c_ 19 rfl (c_ 18 rfl (c_ 17 rfl (c_ 16 rfl (c_ 15 rfl (c_ 14 rfl (c_ 13 rfl (c_ 12 rfl (c_ 11 rfl (c_ 10 rfl (c_ 9 rfl (c_ 8 rfl (c_ 7 rfl (c_ 6 rfl (c_ 5 rfl (c_ 0 rfl (n_)))))))))))))))))
 refine W_sr rfl fun K hK => ?_
 refine sv hF (v_move rfl) rfl ?_; clear hF a; intro a hF
 refine sc hF rfl rfl rfl en13 rfl (PField_o B p _ hS.inv) ?_; clear hF a; intro v w' a hv hF
 obtain ⟨hf, hS'⟩ := hv
 obtain ⟨fa, rfl, hfa⟩ := hf.ptr
 rw [fldO_some] at hfa
 replace hbx := hbx.st (by decide) hS'
 replace ha := ha.st hS'
 replace hb := hb.st hS'
 replace hX := (hX.st hS').mono hS'.ext.size
 replace hY := (hY.st hS').mono hS'.ext.size
 replace hS := hS.trans hS'
 clear hS'
 refine svw hK hF (v_assign rfl) rfl ?_; clear hF a hK K; intro a hF
 replace hF := hF.sub _ (c_ 20 rfl (c_ 19 rfl (c_ 18 rfl (c_ 17 rfl (c_ 16 rfl (c_ 15 rfl (c_ 14 rfl (c_ 13 rfl (c_ 12 rfl (c_ 11 rfl (c_ 10 rfl (c_ 9 rfl (c_ 8 rfl (c_ 7 rfl (c_ 6 rfl (c_ 5 rfl (n_)))))))))))))))))
 refine W_sr rfl fun K hK => ?_
 refine sv hF (v_fieldAddr fa27_0 rfl) rfl ?_; clear hF a; intro a hF
 refine sv hF (v_load sc9 rfl ((ha.kc 0 (by rw [hpc]; rfl)).c)) rfl ?_; clear hF a; intro a hF
 refine sv hF (v_fieldAddr fa30_0 rfl) rfl ?_; clear hF a; intro a hF
 refine sv hF (v_load sc9 rfl ((hb.kc 0 (by rw [hpc]; rfl)).c)) rfl ?_; clear hF a; intro a hF
 refine sv2 hF ((v_eqlS rfl rfl).as (congrArg Value.bool ((Go.MapKept.bytes_beq _ _).2 rfl))) (v_move rfl) rfl rfl ?_; clear hF a; intro a hF
 refine svg hF rfl ?_
 refine sv hF (v_fieldAddr fa27_1 rfl) rfl ?_; clear hF a; intro a hF
 refine svg hF rfl ?_
 refine sv hF (v_load sc3 rfl ((ha.kc 1 (by rw [hpc]; rfl)).c)) rfl ?_; clear hF a; intro a hF
 refine svg hF rfl ?_
 refine sv hF (v_fieldAddr fa30_1 rfl) rfl ?_; clear hF a; intro a hF
 refine svg hF rfl ?_
 refine sv hF (v_load sc3 rfl ((hb.kc 1 (by rw [hpc]; rfl)).c)) rfl ?_; clear hF a; intro a hF
 refine svg hF rfl ?_
 refine sv3 hF ((v_eql rfl rfl).as (congrArg Value.bool (decide_eq_true (rfl)))) (v_pickT rfl rfl) (v_move rfl) rfl rfl rfl ?_; clear hF a; intro a hF
 refine svg hF rfl ?_
 refine sv hF (v_fieldAddr fa27_2 rfl) rfl ?_; clear hF a; intro a hF
 refine svg hF rfl ?_
 refine sv hF (v_load sc25 rfl ((ha.kc 2 (by rw [hpc]; rfl)).c)) rfl ?_; clear hF a; intro a hF
 refine svg hF rfl ?_
 refine sv hF (v_fieldAddr fa30_2 rfl) rfl ?_; clear hF a; intro a hF
 refine svg hF rfl ?_
 refine sv hF (v_load sc25 rfl ((hb.kc 2 (by rw [hpc]; rfl)).c)) rfl ?_; clear hF a; intro a hF
 refine svg hF rfl ?_
 refine sv3 hF ((v_eql rfl rfl).as (congrArg Value.bool (decide_eq_true (rfl)))) (v_pickT rfl rfl) (v_move rfl) rfl rfl rfl ?_; clear hF a; intro a hF
 refine svg hF rfl ?_
 refine sv hF (v_fieldAddr fa27_3 rfl) rfl ?_; clear hF a; intro a hF
 refine svg hF rfl ?_
 refine sv hF (v_load sc5 rfl ((ha.kc 3 (by rw [hpc]; rfl)).c)) rfl ?_; clear hF a; intro a hF
 refine svg hF rfl ?_
 refine sv hF (v_fieldAddr fa30_3 rfl) rfl ?_; clear hF a; intro a hF
 refine svg hF rfl ?_
 refine sv hF (v_load sc5 rfl ((hb.kc 3 (by rw [hpc]; rfl)).c)) rfl ?_; clear hF a; intro a hF
 refine svg hF rfl ?_
 refine sv3 hF ((v_eql rfl rfl).as (congrArg Value.bool (decide_eq_true (rfl)))) (v_pickT rfl rfl) (v_move rfl) rfl rfl rfl ?_; clear hF a; intro a hF
 refine svg hF rfl ?_
 refine sv hF (v_fieldAddr fa27_4 rfl) rfl ?_; clear hF a; intro a hF
 refine svg hF rfl ?_
 refine sv hF (v_load sc3 rfl ((ha.kc 4 (by rw [hpc]; rfl)).c)) rfl ?_; clear hF a; intro a hF
 refine svg hF rfl ?_
 refine sv hF (v_fieldAddr fa30_4 rfl) rfl ?_; clear hF a; intro a hF
 refine svg hF rfl ?_
 refine sv hF (v_load sc3 rfl ((hb.kc 4 (by rw [hpc]; rfl)).c)) rfl ?_; clear hF a; intro a hF
 refine svg hF rfl ?_
 refine sv3w hK hF ((v_eql rfl rfl).as (congrArg Value.bool (decide_eq_true (rfl)))) (v_pickT rfl rfl) (v_assign rfl) rfl rfl rfl ?_; clear hF a hK K; intro a hF
 replace hF := hF.sub _ (c_ 21 rfl (c_ 20 rfl (c_ 19 rfl (c_ 18 rfl (c_ 17 rfl (c_ 16 rfl (c_ 15 rfl (c_ 14 rfl (c_ 13 rfl (c_ 12 rfl (c_ 11 rfl (c_ 10 rfl (c_ 9 rfl (c_ 7 rfl (c_ 6 rfl (c_ 5 rfl (n_)))))))))))))))))
 obtain hcs1 | hcs1 : ((parO p0 k0 m0).isSome) = true ∨ ((parO p0 k0 m0).isSome) = false := by cases ((parO p0 k0 m0).isSome) <;> simp
 ·
  rw [hcs1] at hF
  refine W_sd (m := 58) rfl hmix hS.inv (fun K hK w1 hS' hh => ?_)
  replace hbx := hbx.st (by decide) hS'
  replace ha := ha.st hS'
  replace hb := hb.st hS'
  replace hX := (hX.st hS').mono hS'.ext.size
  replace hY := (hY.st hS').mono hS'.ext.size
  replace hf := hf.st hS'
  replace hS := hS.trans hS'
  clear hS'
  clear hh
  refine a_v (i := 0) rfl (by kernel_rfl) hF (fun w2 hx => v_move rfl) rfl ?_; clear hF a; intro a hF
  refine a_v (i := 1) rfl (by kernel_rfl) hF (fun w2 hx => v_move rfl) rfl ?_; clear hF a; intro a hF
  refine a_vg (i := 2) rfl (by kernel_rfl) hF rfl (fun w2 hx => v_move rfl) rfl ?_; clear hF a; intro a hF
  refine a_vg (i := 3) rfl (by kernel_rfl) hF rfl (fun w2 hx => v_move rfl) rfl ?_; clear hF a; intro a hF
  refine a_vg (i := 4) rfl (by kernel_rfl) hF rfl (fun w2 hx => (v_eqlB Tryz.underlying4 rfl rfl).as (congrArg Value.bool (decide_eq_true (rfl)))) rfl ?_; clear hF a; intro a hF
  refine a_v (i := 5) rfl (by kernel_rfl) hF (fun w2 hx => v_pickT rfl rfl) rfl ?_; clear hF a; intro a hF
  refine a_v (i := 6) rfl (by kernel_rfl) hF (fun w2 hx => v_move rfl) rfl ?_; clear hF a; intro a hF
  refine a_vg (i := 7) rfl (by kernel_rfl) hF rfl (fun w2 hx => v_move rfl) rfl ?_; clear hF a; intro a hF
  refine a_v (i := 8) rfl (by kernel_rfl) hF (fun w2 hx => v_pickT rfl rfl) rfl ?_; clear hF a; intro a hF
  refine a_v (i := 9) rfl (by kernel_rfl) hF (fun w2 hx => v_move rfl) rfl ?_; clear hF a; intro a hF
  refine a_vg (i := 10) rfl (by kernel_rfl) hF rfl (fun w2 hx => v_move rfl) rfl ?_; clear hF a; intro a hF
  refine a_vg (i := 11) rfl (by kernel_rfl) hF rfl (fun w2 hx => v_move rfl) rfl ?_; clear hF a; intro a hF
  refine a_vg (i := 12) rfl (by kernel_rfl) hF rfl (fun w2 hx => (v_eql rfl rfl).as (congrArg Value.bool (decide_eq_true (rfl)))) rfl ?_; clear hF a; intro a hF
  refine a_v (i := 13) rfl (by kernel_rfl) hF (fun w2 hx => v_pickT rfl rfl) rfl ?_; clear hF a; intro a hF
  refine a_v (i := 14) rfl (by kernel_rfl) hF (fun w2 hx => v_move rfl) rfl ?_; clear hF a; intro a hF
  refine a_vg (i := 15) rfl (by kernel_rfl) hF rfl (fun w2 hx => v_move rfl) rfl ?_; clear hF a; intro a hF
  refine a_vg (i := 16) rfl (by kernel_rfl) hF rfl (fun w2 hx => v_move rfl) rfl ?_; clear hF a; intro a hF
  refine a_vg (i := 17) rfl (by kernel_rfl) hF rfl (fun w2 hx => (v_eqlB Tryz.underlying4 rfl rfl).as (congrArg Value.bool (decide_eq_true (rfl)))) rfl ?_; clear hF a; intro a hF
  refine a_v (i := 18) rfl (by kernel_rfl) hF (fun w2 hx => v_pickT rfl rfl) rfl ?_; clear hF a; intro a hF
  refine a_v (i := 19) rfl (by kernel_rfl) hF (fun w2 hx => v_move rfl) rfl ?_; clear hF a; intro a hF
  refine a_vg (i := 20) rfl (by kernel_rfl) hF rfl (fun w2 hx => v_loadN Tryz.underlying23 rfl (by kernel_rfl) rfl (hbx.ext (by decide) hx)) rfl ?_; clear hF a; intro a hF
  refine a_vg (i := 22) rfl (by kernel_rfl) hF rfl (fun w2 hx => v_loadN Tryz.underlying23 rfl (by kernel_rfl) rfl (hbx.ext (by decide) hx)) rfl ?_; clear hF a; intro a hF
  refine a_e (i := 21) rfl (by kernel_rfl) ?_
  refine svg hF rfl ?_
  refine sc hF rfl rfl rfl en14 rfl (PMay_ok B p0 k0 m0 _ hS.inv) ?_; clear hF a; intro v w' a hv hF
  obtain ⟨rfl, hS'⟩ := hv
  refine WL_nil ⟨hS'.ext, ?_⟩
  replace hbx := hbx.st (by decide) hS'
  replace ha := ha.st hS'
  replace hb := hb.st hS'
  replace hX := (hX.st hS').mono hS'.ext.size
  replace hY := (hY.st hS').mono hS'.ext.size
  replace hf := hf.st hS'
  replace hS := hS.trans hS'
  clear hS'
  refine a_e (i := 23) rfl (by kernel_rfl) ?_
  refine svg hF rfl ?_
  refine sc hF rfl rfl rfl en15 rfl (rPMay_ok B p0 k0 m0 _ hS.inv) ?_; clear hF a; intro v w' a hv hF
  obtain ⟨rfl, hS'⟩ := hv
  refine WL_nil ⟨hS'.ext, ?_⟩
  replace hbx := hbx.st (by decide) hS'
  replace ha := ha.st hS'
  replace hb := hb.st hS'
  replace hX := (hX.st hS').mono hS'.ext.size
  replace hY := (hY.st hS').mono hS'.ext.size
  replace hf := hf.st hS'
  replace hS := hS.trans hS'
  clear hS'
  refine a_vg (i := 24) rfl (by kernel_rfl) hF rfl (fun w2 hx => (v_eqlB Tryz.underlying4 rfl rfl).as (congrArg Value.bool (decide_eq_true (rfl)))) rfl ?_; clear hF a; intro a hF
  refine a_v (i := 25) rfl (by kernel_rfl) hF (fun w2 hx => v_pickT rfl rfl) rfl ?_; clear hF a; intro a hF
  refine a_v (i := 26) rfl (by kernel_rfl) hF (fun w2 hx => v_move rfl) rfl ?_; clear hF a; intro a hF
  refine a_vg (i := 27) rfl (by kernel_rfl) hF rfl (fun w2 hx => v_move rfl) rfl ?_; clear hF a; intro a hF
  refine a_vg (i := 28) rfl (by kernel_rfl) hF rfl (fun w2 hx => v_eql rfl rfl) rfl ?_; clear hF a; intro a hF
  refine a_vg (i := 29) rfl (by kernel_rfl) hF rfl (fun w2 hx => v_move rfl) rfl ?_; clear hF a; intro a hF
  refine a_vg (i := 30) rfl (by kernel_rfl) hF rfl (fun w2 hx => (v_eqlB Tryz.underlying4 rfl rfl).as (congrArg Value.bool (decide_eq_true (by first | exact decide_eq_true (errV_y (by assumption)) | exact decide_eq_false (by rw [errV_n (by assumption)]; decide))))) rfl ?_; clear hF a; intro a hF
  refine a_v (i := 31) rfl (by kernel_rfl) hF (fun w2 hx => v_pickT rfl rfl) rfl ?_; clear hF a; intro a hF
  refine a_v (i := 32) rfl (by kernel_rfl) hF (fun w2 hx => v_move rfl) rfl ?_; clear hF a; intro a hF
  refine a_vg (i := 33) rfl (by kernel_rfl) hF rfl (fun w2 hx => v_move rfl) rfl ?_; clear hF a; intro a hF
  refine a_vg (i := 34) rfl (by kernel_rfl) hF rfl (fun w2 hx => v_move rfl) rfl ?_; clear hF a; intro a hF
  refine a_vn (i := 35) rfl (by kernel_rfl) hF rfl rfl rfl ?_; clear hF a; intro a hF
  refine a_vn (i := 36) rfl (by kernel_rfl) hF rfl rfl rfl ?_; clear hF a; intro a hF
  refine a_vg (i := 37) rfl (by kernel_rfl) hF rfl (fun w2 hx => v_pickT rfl rfl) rfl ?_; clear hF a; intro a hF
  refine a_v (i := 38) rfl (by kernel_rfl) hF (fun w2 hx => v_pickT rfl rfl) rfl ?_; clear hF a; intro a hF
  refine a_v (i := 39) rfl (by kernel_rfl) hF (fun w2 hx => v_move rfl) rfl ?_; clear hF a; intro a hF
  refine a_vg (i := 40) rfl (by kernel_rfl) hF rfl (fun w2 hx => v_move rfl) rfl ?_; clear hF a; intro a hF
  refine a_vg (i := 41) rfl (by kernel_rfl) hF rfl (fun w2 hx => v_move rfl) rfl ?_; clear hF a; intro a hF
  refine a_e (i := 42) rfl (by kernel_rfl) ?_
  refine svg hF rfl ?_
  refine sc hF rfl rfl rfl en16 rfl (Same4_t B _ _ _ _ _ _ _ _ hS.inv hX hY (len1k (parO_lens p0 k0 m0)).1 (len1k (parO_lens p0 k0 m0)).2 rfl) ?_; clear hF a; intro v w' a hv hF
  obtain ⟨rfl, hS'⟩ := hv
  refine WL_nil ⟨hS'.ext, ?_⟩
  replace hbx := hbx.st (by decide) hS'
  replace ha := ha.st hS'
  replace hb := hb.st hS'
  replace hX := (hX.st hS').mono hS'.ext.size
  replace hY := (hY.st hS').mono hS'.ext.size
  replace hf := hf.st hS'
  replace hS := hS.trans hS'
  clear hS'
  refine a_v (i := 43) rfl (by kernel_rfl) hF (fun w2 hx => v_pickT rfl rfl) rfl ?_; clear hF a; intro a hF
  refine a_v (i := 44) rfl (by kernel_rfl) hF (fun w2 hx => v_move rfl) rfl ?_; clear hF a; intro a hF
  refine a_vg (i := 45) rfl (by kernel_rfl) hF rfl (fun w2 hx => v_move rfl) rfl ?_; clear hF a; intro a hF
  refine a_vg (i := 47) rfl (by kernel_rfl) hF rfl (fun w2 hx => v_fieldAddr fa30_1 rfl) rfl ?_; clear hF a; intro a hF
  refine a_vg (i := 48) rfl (by kernel_rfl) hF rfl (fun w2 hx => v_load sc3 rfl (by have hh := (hb.kc 1 (v := .int .i64 ((pbits p : Nat) : Int)) (by rw [hpc]; rfl)).ld hx; exact hh)) rfl ?_; clear hF a; intro a hF
  refine a_e (i := 46) rfl (by kernel_rfl) ?_
  refine svg hF rfl ?_
  refine sc hF rfl rfl rfl en17 rfl (Bits_ok B (fldO p) _ _ hf) ?_; clear hF a; intro v w' a hv hF
  obtain ⟨rfl, hw⟩ := hv
  obtain rfl := hw.symm
  have hS' := St.refl hS.inv
  rw [fbits_o] at hF
  refine WL_nil ⟨hS'.ext, ?_⟩
  replace hbx := hbx.st (by decide) hS'
  replace ha := ha.st hS'
  replace hb := hb.st hS'
  replace hX := (hX.st hS').mono hS'.ext.size
  replace hY := (hY.st hS').mono hS'.ext.size
  replace hf := hf.st hS'
  replace hS := hS.trans hS'
  clear hS'
  refine a_vg (i := 49) rfl (by kernel_rfl) hF rfl (fun w2 hx => (v_eql rfl rfl).as (congrArg Value.bool (decide_eq_true (rfl)))) rfl ?_; clear hF a; intro a hF
  refine a_v (i := 50) rfl (by kernel_rfl) hF (fun w2 hx => v_pickT rfl rfl) rfl ?_; clear hF a; intro a hF
  refine a_v (i := 51) rfl (by kernel_rfl) hF (fun w2 hx => v_move rfl) rfl ?_; clear hF a; intro a hF
  refine a_vg (i := 52) rfl (by kernel_rfl) hF rfl (fun w2 hx => v_move rfl) rfl ?_; clear hF a; intro a hF
  refine a_vg (i := 53) rfl (by kernel_rfl) hF rfl (fun w2 hx => v_neqNil (by exact Tryz.underlying42) rfl rfl) rfl ?_; clear hF a; intro a hF
  refine a_vg (i := 54) rfl (by kernel_rfl) hF rfl (fun w2 hx => v_move rfl) rfl ?_; clear hF a; intro a hF
  refine a_vg (i := 55) rfl (by kernel_rfl) hF rfl (fun w2 hx => (v_eqlB Tryz.underlying4 rfl rfl).as (congrArg Value.bool (decide_eq_true (by rw [← hfa]; cases fa <;> rfl)))) rfl ?_; clear hF a; intro a hF
  refine a_v (i := 56) rfl (by kernel_rfl) hF (fun w2 hx => v_pickT rfl rfl) rfl ?_; clear hF a; intro a hF
  refine a_v (i := 57) rfl (by kernel_rfl) hF (fun w2 hx => v_assign rfl) rfl ?_; clear hF a; intro a hF
  refine a_done (by kernel_rfl) (hK _ _ ?_)
  clear hK K
  replace hF := hF.sub _ (c_ 6 rfl (n_))
  refine W_ret ?_
  refine ⟨_, _, hF, rfl, ?_⟩
  exact ⟨rfl, hS⟩
 ·
  rw [hcs1] at hF
  refine W_sd (m := 58) rfl hmix hS.inv (fun K hK w1 hS' hh => ?_)
  replace hbx := hbx.st (by decide) hS'
  replace ha := ha.st hS'
  replace hb := hb.st hS'
  replace hX := (hX.st hS').mono hS'.ext.size
  replace hY := (hY.st hS').mono hS'.ext.size
  replace hf := hf.st hS'
  replace hS := hS.trans hS'
  clear hS'
  clear hh
  refine a_v (i := 0) rfl (by kernel_rfl) hF (fun w2 hx => v_move rfl) rfl ?_; clear hF a; intro a hF
  refine a_v (i := 1) rfl (by kernel_rfl) hF (fun w2 hx => v_move rfl) rfl ?_; clear hF a; intro a hF
  refine a_vg (i := 2) rfl (by kernel_rfl) hF rfl (fun w2 hx => v_move rfl) rfl ?_; clear hF a; intro a hF
  refine a_vg (i := 3) rfl (by kernel_rfl) hF rfl (fun w2 hx => v_move rfl) rfl ?_; clear hF a; intro a hF
  refine a_vg (i := 4) rfl (by kernel_rfl) hF rfl (fun w2 hx => (v_eqlB Tryz.underlying4 rfl rfl).as (congrArg Value.bool (decide_eq_true (rfl)))) rfl ?_; clear hF a; intro a hF
  refine a_v (i := 5) rfl (by kernel_rfl) hF (fun w2 hx => v_pickT rfl rfl) rfl ?_; clear hF a; intro a hF
  refine a_v (i := 6) rfl (by kernel_rfl) hF (fun w2 hx => v_move rfl) rfl ?_; clear hF a; intro a hF
  refine a_vg (i := 7) rfl (by kernel_rfl) hF rfl (fun w2 hx => v_move rfl) rfl ?_; clear hF a; intro a hF
  refine a_v (i := 8) rfl (by kernel_rfl) hF (fun w2 hx => v_pickT rfl rfl) rfl ?_; clear hF a; intro a hF
  refine a_v (i := 9) rfl (by kernel_rfl) hF (fun w2 hx => v_move rfl) rfl ?_; clear hF a; intro a hF
  refine a_vg (i := 10) rfl (by kernel_rfl) hF rfl (fun w2 hx => v_move rfl) rfl ?_; clear hF a; intro a hF
  refine a_vg (i := 11) rfl (by kernel_rfl) hF rfl (fun w2 hx => v_move rfl) rfl ?_; clear hF a; intro a hF
  refine a_vg (i := 12) rfl (by kernel_rfl) hF rfl (fun w2 hx => (v_eql rfl rfl).as (congrArg Value.bool (decide_eq_true (rfl)))) rfl ?_; clear hF a; intro a hF
  refine a_v (i := 13) rfl (by kernel_rfl) hF (fun w2 hx => v_pickT rfl rfl) rfl ?_; clear hF a; intro a hF
  refine a_v (i := 14) rfl (by kernel_rfl) hF (fun w2 hx => v_move rfl) rfl ?_; clear hF a; intro a hF
  refine a_vg (i := 15) rfl (by kernel_rfl) hF rfl (fun w2 hx => v_move rfl) rfl ?_; clear hF a; intro a hF
  refine a_vg (i := 16) rfl (by kernel_rfl) hF rfl (fun w2 hx => v_move rfl) rfl ?_; clear hF a; intro a hF
  refine a_vg (i := 17) rfl (by kernel_rfl) hF rfl (fun w2 hx => (v_eqlB Tryz.underlying4 rfl rfl).as (congrArg Value.bool (decide_eq_true (rfl)))) rfl ?_; clear hF a; intro a hF
  refine a_v (i := 18) rfl (by kernel_rfl) hF (fun w2 hx => v_pickT rfl rfl) rfl ?_; clear hF a; intro a hF
  refine a_v (i := 19) rfl (by kernel_rfl) hF (fun w2 hx => v_move rfl) rfl ?_; clear hF a; intro a hF
  refine a_vg (i := 20) rfl (by kernel_rfl) hF rfl (fun w2 hx => v_loadN Tryz.underlying23 rfl (by kernel_rfl) rfl (hbx.ext (by decide) hx)) rfl ?_; clear hF a; intro a hF
  refine a_vg (i := 22) rfl (by kernel_rfl) hF rfl (fun w2 hx => v_loadN Tryz.underlying23 rfl (by kernel_rfl) rfl (hbx.ext (by decide) hx)) rfl ?_; clear hF a; intro a hF
  refine a_e (i := 21) rfl (by kernel_rfl) ?_
  refine svg hF rfl ?_
  refine sc hF rfl rfl rfl en14 rfl (PMay_ok B p0 k0 m0 _ hS.inv) ?_; clear hF a; intro v w' a hv hF
  obtain ⟨rfl, hS'⟩ := hv
  refine WL_nil ⟨hS'.ext, ?_⟩
  replace hbx := hbx.st (by decide) hS'
  replace ha := ha.st hS'
  replace hb := hb.st hS'
  replace hX := (hX.st hS').mono hS'.ext.size
  replace hY := (hY.st hS').mono hS'.ext.size
  replace hf := hf.st hS'
  replace hS := hS.trans hS'
  clear hS'
  refine a_e (i := 23) rfl (by kernel_rfl) ?_
  refine svg hF rfl ?_
  refine sc hF rfl rfl rfl en15 rfl (rPMay_ok B p0 k0 m0 _ hS.inv) ?_; clear hF a; intro v w' a hv hF
  obtain ⟨rfl, hS'⟩ := hv
  refine WL_nil ⟨hS'.ext, ?_⟩
  replace hbx := hbx.st (by decide) hS'
  replace ha := ha.st hS'
  replace hb := hb.st hS'
  replace hX := (hX.st hS').mono hS'.ext.size
  replace hY := (hY.st hS').mono hS'.ext.size
  replace hf := hf.st hS'
  replace hS := hS.trans hS'
  clear hS'
  refine a_vg (i := 24) rfl (by kernel_rfl) hF rfl (fun w2 hx => (v_eqlB Tryz.underlying4 rfl rfl).as (congrArg Value.bool (decide_eq_true (rfl)))) rfl ?_; clear hF a; intro a hF
  refine a_v (i := 25) rfl (by kernel_rfl) hF (fun w2 hx => v_pickT rfl rfl) rfl ?_; clear hF a; intro a hF
  refine a_v (i := 26) rfl (by kernel_rfl) hF (fun w2 hx => v_move rfl) rfl ?_; clear hF a; intro a hF
  refine a_vg (i := 27) rfl (by kernel_rfl) hF rfl (fun w2 hx => v_move rfl) rfl ?_; clear hF a; intro a hF
  refine a_vg (i := 28) rfl (by kernel_rfl) hF rfl (fun w2 hx => v_eql rfl rfl) rfl ?_; clear hF a; intro a hF
  refine a_vg (i := 29) rfl (by kernel_rfl) hF rfl (fun w2 hx => v_move rfl) rfl ?_; clear hF a; intro a hF
  refine a_vg (i := 30) rfl (by kernel_rfl) hF rfl (fun w2 hx => (v_eqlB Tryz.underlying4 rfl rfl).as (congrArg Value.bool (decide_eq_true (by first | exact decide_eq_true (errV_y (by assumption)) | exact decide_eq_false (by rw [errV_n (by assumption)]; decide))))) rfl ?_; clear hF a; intro a hF
  refine a_v (i := 31) rfl (by kernel_rfl) hF (fun w2 hx => v_pickT rfl rfl) rfl ?_; clear hF a; intro a hF
  refine a_v (i := 32) rfl (by kernel_rfl) hF (fun w2 hx => v_move rfl) rfl ?_; clear hF a; intro a hF
  refine a_vg (i := 33) rfl (by kernel_rfl) hF rfl (fun w2 hx => v_move rfl) rfl ?_; clear hF a; intro a hF
  refine a_vg (i := 34) rfl (by kernel_rfl) hF rfl (fun w2 hx => v_move rfl) rfl ?_; clear hF a; intro a hF
  refine a_vg (i := 35) rfl (by kernel_rfl) hF rfl (fun w2 hx => v_move rfl) rfl ?_; clear hF a; intro a hF
  refine a_vg (i := 36) rfl (by kernel_rfl) hF rfl (fun w2 hx => (v_eql rfl rfl).as (congrArg Value.bool (decide_eq_true (errV_n (by assumption))))) rfl ?_; clear hF a; intro a hF
  refine a_vg (i := 37) rfl (by kernel_rfl) hF rfl (fun w2 hx => v_pickF rfl rfl) rfl ?_; clear hF a; intro a hF
  refine a_v (i := 38) rfl (by kernel_rfl) hF (fun w2 hx => v_pickT rfl rfl) rfl ?_; clear hF a; intro a hF
  refine a_v (i := 39) rfl (by kernel_rfl) hF (fun w2 hx => v_move rfl) rfl ?_; clear hF a; intro a hF
  refine a_vg (i := 40) rfl (by kernel_rfl) hF rfl (fun w2 hx => v_move rfl) rfl ?_; clear hF a; intro a hF
  refine a_vg (i := 41) rfl (by kernel_rfl) hF rfl (fun w2 hx => v_move rfl) rfl ?_; clear hF a; intro a hF
  refine a_e (i := 42) rfl (by kernel_rfl) ?_
  refine svg hF rfl ?_
  refine sc hF rfl rfl rfl en16 rfl (Same4_t B _ _ _ _ _ _ _ _ hS.inv hX hY (len1k (parO_lens p0 k0 m0)).1 (len1k (parO_lens p0 k0 m0)).2 rfl) ?_; clear hF a; intro v w' a hv hF
  obtain ⟨rfl, hS'⟩ := hv
  refine WL_nil ⟨hS'.ext, ?_⟩
  replace hbx := hbx.st (by decide) hS'
  replace ha := ha.st hS'
  replace hb := hb.st hS'
  replace hX := (hX.st hS').mono hS'.ext.size
  replace hY := (hY.st hS').mono hS'.ext.size
  replace hf := hf.st hS'
  replace hS := hS.trans hS'
  clear hS'
  refine a_v (i := 43) rfl (by kernel_rfl) hF (fun w2 hx => v_pickT rfl rfl) rfl ?_; clear hF a; intro a hF
  refine a_v (i := 44) rfl (by kernel_rfl) hF (fun w2 hx => v_move rfl) rfl ?_; clear hF a; intro a hF
  refine a_vg (i := 45) rfl (by kernel_rfl) hF rfl (fun w2 hx => v_move rfl) rfl ?_; clear hF a; intro a hF
  refine a_vg (i := 47) rfl (by kernel_rfl) hF rfl (fun w2 hx => v_fieldAddr fa30_1 rfl) rfl ?_; clear hF a; intro a hF
  refine a_vg (i := 48) rfl (by kernel_rfl) hF rfl (fun w2 hx => v_load sc3 rfl (by have hh := (hb.kc 1 (v := .int .i64 ((pbits p : Nat) : Int)) (by rw [hpc]; rfl)).ld hx; exact hh)) rfl ?_; clear hF a; intro a hF
  refine a_e (i := 46) rfl (by kernel_rfl) ?_
  refine svg hF rfl ?_
  refine sc hF rfl rfl rfl en17 rfl (Bits_ok B (fldO p) _ _ hf) ?_; clear hF a; intro v w' a hv hF
  obtain ⟨rfl, hw⟩ := hv
  obtain rfl := hw.symm
  have hS' := St.refl hS.inv
  rw [fbits_o] at hF
  refine WL_nil ⟨hS'.ext, ?_⟩
  replace hbx := hbx.st (by decide) hS'
  replace ha := ha.st hS'
  replace hb := hb.st hS'
  replace hX := (hX.st hS').mono hS'.ext.size
  replace hY := (hY.st hS').mono hS'.ext.size
  replace hf := hf.st hS'
  replace hS := hS.trans hS'
  clear hS'
  refine a_vg (i := 49) rfl (by kernel_rfl) hF rfl (fun w2 hx => (v_eql rfl rfl).as (congrArg Value.bool (decide_eq_true (rfl)))) rfl ?_; clear hF a; intro a hF
  refine a_v (i := 50) rfl (by kernel_rfl) hF (fun w2 hx => v_pickT rfl rfl) rfl ?_; clear hF a; intro a hF
  refine a_v (i := 51) rfl (by kernel_rfl) hF (fun w2 hx => v_move rfl) rfl ?_; clear hF a; intro a hF
  refine a_vg (i := 52) rfl (by kernel_rfl) hF rfl (fun w2 hx => v_move rfl) rfl ?_; clear hF a; intro a hF
  refine a_vg (i := 53) rfl (by kernel_rfl) hF rfl (fun w2 hx => v_neqNil (by exact Tryz.underlying42) rfl rfl) rfl ?_; clear hF a; intro a hF
  refine a_vg (i := 54) rfl (by kernel_rfl) hF rfl (fun w2 hx => v_move rfl) rfl ?_; clear hF a; intro a hF
  refine a_vg (i := 55) rfl (by kernel_rfl) hF rfl (fun w2 hx => (v_eqlB Tryz.underlying4 rfl rfl).as (congrArg Value.bool (decide_eq_true (by rw [← hfa]; cases fa <;> rfl)))) rfl ?_; clear hF a; intro a hF
  refine a_v (i := 56) rfl (by kernel_rfl) hF (fun w2 hx => v_pickT rfl rfl) rfl ?_; clear hF a; intro a hF
  refine a_v (i := 57) rfl (by kernel_rfl) hF (fun w2 hx => v_assign rfl) rfl ?_; clear hF a; intro a hF
  refine a_done (by kernel_rfl) (hK _ _ ?_)
  clear hK K
  replace hF := hF.sub _ (c_ 6 rfl (n_))
  refine W_ret ?_
  refine ⟨_, _, hF, rfl, ?_⟩
  exact ⟨rfl, hS⟩
end Go.Proofs.YtkoiolamnnmokaaGreat
