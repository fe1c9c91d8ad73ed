/- Texts of the claim ProfileTwins (part 11), put together in the order of their imports. -/
import Derived.Test.YtkoiolamnnmokaaKProfileTwins10
/- The walk of package jvan: parity rows. -/
set_option linter.unusedVariables false
set_option linter.unusedSimpArgs false
namespace Go.Proofs.Ytkoiolamnnmokaa
open Go Go.Gam


namespace FxFJvd
theorem en22 : Ent Try.prog 22 := ent Try.func22 (by kernel_rfl) (by kernel_rfl)
theorem en23 : Ent Try.prog 23 := ent Try.func23 (by kernel_rfl) (by kernel_rfl)
theorem en24 : Ent Try.prog 24 := ent Try.func24 (by kernel_rfl) (by kernel_rfl)
theorem en25 : Ent Try.prog 25 := ent Try.func25 (by kernel_rfl) (by kernel_rfl)
theorem en26 : Ent Try.prog 26 := ent Try.func26 (by kernel_rfl) (by kernel_rfl)
theorem on3 : Gam.One Try.prog 3 := by unfold Gam.One; kernel_rfl
theorem rc68 : Rec2 Try.prog 68 (.pointer none) (.slice none 0 0) := rec2_of Try.underlying68 (by kernel_rfl) (by kernel_rfl) (by kernel_rfl)
theorem sc23 : Scalar Try.prog 23 := ⟨_, Try.underlying23, by simp, by simp⟩
theorem sc27 : Scalar Try.prog 27 := ⟨_, Try.underlying27, by simp, by simp⟩
theorem sc3 : Scalar Try.prog 3 := ⟨_, Try.underlying3, by simp, by simp⟩
theorem sc44 : Scalar Try.prog 44 := ⟨_, Try.underlying44, by simp, by simp⟩
theorem sl23 : Sl Try.prog 23 3 (.int .i64 0) 8 := sl_of Try.underlying23 rfl (by kernel_rfl)
theorem sl26 : Sl Try.prog 26 23 (.slice none 0 0) 24 := sl_of Try.underlying26 rfl (by kernel_rfl)
theorem sl27 : Sl Try.prog 27 23 (.slice none 0 0) 24 := sl_of Try.underlying27 rfl (by kernel_rfl)
end FxFJvd
open FxFJvd

theorem Extended_fit (B : Nat) (o : Fq) (fv : Value) (kn mn : Nat) (w : World) (hI : Inv FDx B w) (hf : Fo FDx B w fv o) (hb : fitB o (kn : Int) (mn : Int) = true) : Ret Try.prog 22 [fv, .int .i64 (kn : Int), .int .i64 (mn : Int)] w fun v w' => ∃ g cap bs rc, v = .tuple #[.slice (some ⟨g, 0, none⟩) (kn + mn) cap, .int .i64 0] ∧ Gam.Own FDx B w.heap.size w' 23 (.slice (some ⟨g, 0, none⟩) (kn + mn) cap) (some g) (vls (kn + mn) kn bs rc) ∧ Wr FDx B w.heap.size w'.heap.size w' (kn + mn) kn bs rc (extT o kn mn) ∧ St FDx B w w' := by
 refine (Extended_ok B o fv (kn : Int) (mn : Int) w hI hf).mono fun v w' h => ?_
 rcases h with ⟨⟨h, _⟩ | ⟨_, g, cap, bs, rc, h1, h2, h3⟩, hS⟩
 ·
  rw [hb] at h; cases h
 ·
  rw [show ((kn : Int) + (mn : Int)).toNat = kn + mn by omega] at h1 h2 h3
  simp only [Int.toNat_natCast] at h2 h3
  exact ⟨g, cap, bs, rc, h1, h2, h3, hS⟩
theorem Extended_bad (B : Nat) (o : Fq) (fv : Value) (k m : Int) (w : World) (hI : Inv FDx B w) (hf : Fo FDx B w fv o) (hb : fitB o k m = false) : Ret Try.prog 22 [fv, .int .i64 k, .int .i64 m] w fun v w' => v = .tuple #[.slice none 0 0, .int .i64 1] ∧ St FDx B w w' := by
 refine (Extended_ok B o fv k m w hI hf).mono fun v w' h => ?_
 rcases h with ⟨⟨_, h⟩ | ⟨h, _⟩, hS⟩
 ·
  exact ⟨h, hS⟩
 ·
  rw [hb] at h; cases h
theorem Extended_m (B : Nat) (o : Fq) (fv : Value) (k m : Int) (w : World) (hI : Inv FDx B w) (hf : Fo FDx B w fv o) : Ret Try.prog 22 [fv, .int .i64 k, .int .i64 m] w fun v w' => ∃ ob u, v = .tuple #[u, .int .i64 (errV (extM o k m))] ∧ MOwn FDx B w.heap.size 0 w'.heap.size w' 23 u ob ((extM o k m).getD []) ∧ St FDx B w w' := by
 refine (Extended_ok B o fv k m w hI hf).mono fun v w' h => ?_
 rcases h with ⟨⟨h, rfl⟩ | ⟨h, g, cap, bs, rc, rfl, h2, h3⟩, hS⟩
 ·
  rw [extM_no h]; exact ⟨none, _, rfl, MOwn.nil _ _ _ _ _ _ _ (Nat.zero_le _), hS⟩
 ·
  rw [show extM o k m = some (tab (k + m).toNat k.toNat (extT o k.toNat m.toNat)) by unfold extM; rw [if_pos h]]
  exact ⟨_, _, rfl, h3.mown h2, hS⟩

set_option maxRecDepth 100000 in
set_option maxHeartbeats 1000000 in
theorem Parity_bad (B : Nat) (o : Fq) (fv : Value) (k m : Int) (w : World) (hI : Inv FDx B w) (hf : Fo FDx B w fv o) (hb : fitB o k m = false) : Ret Try.prog 15 [fv, .int .i64 k, .int .i64 m] w fun v w' => v = .tuple #[.slice none 0 0, .int .i64 1] ∧ St FDx B w w' := by
 refine enter2 104 [(0, fv), (1, .int .i64 k), (2, .int .i64 m)] 6 7 Try.func15 rfl rfl rfl rfl rfl ?_; intro a hF
 have hS := St.refl hI
 refine W_sr rfl (fun K hK => ?_)
 refine sv2 hF (v_assign rfl) (v_assign rfl) rfl rfl ?_; clear hF a; intro a hF
 refine WL_nil (hK _ _ ?_)
 clear hK K
 refine W_sr rfl (fun K hK => ?_)
 refine sv3 hF (v_move rfl) (v_move rfl) (v_move rfl) rfl rfl rfl ?_; clear hF a; intro a hF
 refine sc hF rfl rfl rfl en22 rfl (Extended_bad B o fv k m _ hS.inv hf hb) ?_; clear hF a; intro v w' a hv hF
 obtain ⟨rfl, hS'⟩ := hv
 replace hf := hf.st hS'
 replace hS := hS.trans hS'
 clear hS'
 refine sv5 hF (v_move rfl) (v_ext rfl rfl) (v_ext rfl rfl) (v_assign rfl) (v_assign rfl) rfl rfl rfl rfl rfl ?_; clear hF a; intro a hF
 refine WL_nil (hK _ _ ?_)
 clear hK K
 replace hF := hF.sub _ (c_ 9 rfl (c_ 8 rfl (c_ 7 rfl (c_ 6 rfl (c_ 0 rfl (c_ 1 rfl (n_)))))))
 refine W_seq ?_
 refine W_sr rfl (fun K hK => ?_)
 refine sv hF (v_move rfl) rfl ?_; clear hF a; intro a hF
 refine sv hF ((v_neq rfl rfl).as (congrArg Value.bool (decide_eq_true (by decide)))) rfl ?_; clear hF a; intro a hF
 refine WL_nil (hK _ _ ?_)
 clear hK K
 replace hF := hF.sub _ (c_ 31 rfl (c_ 9 rfl (c_ 8 rfl (c_ 7 rfl (c_ 6 rfl (c_ 0 rfl (c_ 1 rfl (n_))))))))
 refine W_ifT hF rfl ?_
 refine W_sr rfl (fun K hK => ?_)
 refine sv3 hF (v_move rfl) (v_assign rfl) (v_assign rfl) rfl rfl rfl ?_; clear hF a; intro a hF
 refine WL_nil (hK _ _ ?_)
 clear hK K
 replace hF := hF.sub _ (c_ 7 rfl (c_ 6 rfl (c_ 8 rfl (c_ 0 rfl (c_ 1 rfl (n_))))))
 refine W_ret ?_
 refine ⟨_, _, _, hF, rfl, rfl, ?_⟩
 exact ⟨rfl, hS⟩

set_option maxRecDepth 100000 in
set_option maxHeartbeats 1000000 in
theorem Parity_fit (B wb p : Nat) (hp : Prm wb p) (fv : Value) (kn mn : Nat) (w : World) (hI : Inv FDx B w) (hf : Fo FDx B w fv (some (wb, p))) (hb : fitB (some (wb, p)) (kn : Int) (mn : Int) = true) : Ret Try.prog 15 [fv, .int .i64 (kn : Int), .int .i64 (mn : Int)] w fun v w' => ∃ sa cap, v = .tuple #[.slice sa mn cap, .int .i64 0] ∧ Mat FDx B w'.heap.size w' sa cap (tab mn kn (parT hp kn mn)) ∧ St FDx B w w' := by
 refine enter2 104 [(0, fv), (1, .int .i64 (kn : Int)), (2, .int .i64 (mn : Int))] 6 7 Try.func15 rfl rfl rfl rfl rfl ?_; intro a hF
 have hS := St.refl hI
 obtain ⟨-, hb2⟩ := fitB_iff.1 hb
 have hfw := hp.fld_w
 have h16 : 2 ^ wb ≤ 65536 := by rcases hp.w with h | h <;> rw [h] <;> decide
 have hk1 : 1 ≤ kn := by omega
 have hm1 : 1 ≤ mn := by omega
 have h20 : kn + mn ≤ 20 := by omega
 refine W_sr rfl (fun K hK => ?_)
 refine sv2 hF (v_assign rfl) (v_assign rfl) rfl rfl ?_; clear hF a; intro a hF
 refine WL_nil (hK _ _ ?_)
 clear hK K
 refine W_sr rfl (fun K hK => ?_)
 refine sv3 hF (v_move rfl) (v_move rfl) (v_move rfl) rfl rfl rfl ?_; clear hF a; intro a hF
 refine sc hF rfl rfl rfl en22 rfl (Extended_fit B (some (wb, p)) fv kn mn _ hS.inv hf hb) ?_; clear hF a; intro v w' a hv hF
 obtain ⟨g, cap, bs, rc, rfl, hO, hW, hS'⟩ := hv
 have hs0 := hS.ext.size
 replace hO := hO.le hs0
 replace hW := hW.le hs0
 clear hs0
 obtain ⟨KM, hKe⟩ : ∃ K, K = w'.heap.size := ⟨_, rfl⟩
 rw [← hKe] at hW
 have hKs : KM ≤ w'.heap.size := by omega
 have hNK : w.heap.size ≤ KM := by have := hS'.ext.size; have := hS.ext.size; omega
 clear hKe
 replace hf := hf.st hS'
 replace hS := hS.trans hS'
 clear hS'
 refine sv5 hF (v_move rfl) (v_ext rfl rfl) (v_ext rfl rfl) (v_assign rfl) (v_assign rfl) rfl rfl rfl rfl rfl ?_; clear hF a; intro a hF
 refine WL_nil (hK _ _ ?_)
 clear hK K
 replace hF := hF.sub _ (c_ 9 rfl (c_ 8 rfl (c_ 7 rfl (c_ 6 rfl (c_ 0 rfl (c_ 1 rfl (n_)))))))
 refine W_seq ?_
 refine W_sr rfl (fun K hK => ?_)
 refine sv hF (v_move rfl) rfl ?_; clear hF a; intro a hF
 refine sv hF ((v_neq rfl rfl).as (congrArg Value.bool (decide_eq_false (fun h => h rfl)))) rfl ?_; clear hF a; intro a hF
 refine WL_nil (hK _ _ ?_)
 clear hK K
 replace hF := hF.sub _ (c_ 31 rfl (c_ 9 rfl (c_ 8 rfl (c_ 7 rfl (c_ 6 rfl (c_ 0 rfl (c_ 1 rfl (n_))))))))
 refine W_ifF hF rfl ?_
 refine W_skip ?_
 refine W_sr rfl (fun K hK => ?_)
 refine sv2 hF (v_move rfl) (v_move rfl) rfl rfl ?_; clear hF a; intro a hF
 refine sv hF (v_buildR rc68 rfl rfl hf.cells1 rfl) rfl ?_; clear hF a; intro a hF
 obtain ⟨gr, hgr⟩ : ∃ x, x = w'.heap.size := ⟨_, rfl⟩
 have hKgr : KM ≤ gr := by omega
 refine s_newR (D := FDx) (B := B) hF rc68 (by decide) (fun q => rfl) (by obtain ⟨a_, h_, -⟩ := hf.ptr; rw [h_]; rfl) rfl rfl ?_; clear hF a; intro w' a hm hbx hsz hF
 rw [← hgr] at hbx hF
 replace hf := hf.mb hm
 replace hO := hO.mb hm (fun _ _ => by simp)
 replace hW := hW.mb0 hm
 replace hS := hS.mb0 hm
 replace hKs := Nat.le_trans hKs hm.size
 clear hm hgr hsz
 skip
 refine WL_nil (hK _ _ ?_)
 clear hK K
 replace hF := hF.sub _ (c_ 10 rfl (c_ 8 rfl (c_ 7 rfl (c_ 6 rfl (c_ 0 rfl (c_ 1 rfl (n_)))))))
 skip
 refine W_sr rfl (fun K hK => ?_)
 refine sv hF (v_loadR rc68 rfl hbx) rfl ?_; clear hF a; intro a hF
 refine sv hF (v_mkfF (cs := [.tmp 36]) (vs := [.agg #[fv, .slice (some ⟨g, 0, none⟩) (kn + mn) cap]]) rfl) rfl ?_; clear hF a; intro a hF
 refine sv hF (v_assign rfl) rfl ?_; clear hF a; intro a hF
 refine WL_nil (hK _ _ ?_)
 clear hK K
 replace hF := hF.sub _ (c_ 11 rfl (c_ 10 rfl (c_ 8 rfl (c_ 7 rfl (c_ 6 rfl (c_ 0 rfl (c_ 1 rfl (n_))))))))
 refine W_seq ?_
 refine W_sr rfl (fun K hK => ?_)
 refine sv2 hF (v_move rfl) (v_move rfl) rfl rfl ?_; clear hF a; intro a hF
 refine WL_nil (hK _ _ ?_)
 clear hK K
 refine W_block ?_
 refine W_loop (fun q a w1 => ∃ (i : Nat), Fr 104 [(0, fv), (1, .int .i64 (kn : Int)), (8, .slice (some ⟨g, 0, none⟩) (kn + mn) cap), (10, .pointer (some ⟨gr, 0, none⟩)), (11, .func (.func 23) ([.agg #[fv, .slice (some ⟨g, 0, none⟩) (kn + mn) cap]] : List Value).toArray ([] : List Value).toArray), (38, .int .i64 (kn : Int)), (39, .int .i64 (i : Int))] a ∧ (St FDx B w w1) ∧ (Fo FDx B w1 fv (some (wb, p))) ∧ (Blk w1 gr 68 [fv, .slice (some ⟨g, 0, none⟩) (kn + mn) cap]) ∧ (Gam.Own FDx B w.heap.size w1 23 (.slice (some ⟨g, 0, none⟩) (kn + mn) cap) (some g) (vls (kn + mn) kn bs rc)) ∧ (Wr FDx B w.heap.size KM w1 (kn + mn) kn bs rc (redC hp kn mn i)) ∧ (KM ≤ w1.heap.size) ∧ (i ≤ kn) ∧ (q + i = kn)) (kn) ?_ ?_
 ·
  skip
  exact ⟨0, hF.sub _ (c_ 0 rfl (c_ 1 rfl (c_ 8 rfl (c_ 10 rfl (c_ 11 rfl (c_ 38 rfl (c_ 39 rfl (n_)))))))), hS, hf, hbx, hO, hW, hKs, by omega, by omega⟩
 ·
  skip
  clear hF
  clear hS hf hbx hO hW hKs
  rintro q a w1 ⟨i, hF, hS, hf, hbx, hO, hW, hKs, hi, hq⟩
  refine W_sr rfl (fun K hK => ?_)
  refine sv hF (v_lss rfl rfl) rfl ?_; clear hF a; intro a hF
  refine WL_nil (hK _ _ ?_)
  clear hK K
  refine W_seq ?_
  refine W_if hF rfl (fun hc1 => ?_) (fun hc1 => ?_)
  ·
   skip
   try simp only [dcl] at hc1
   have hlt : i < kn := by omega
   obtain ⟨pv, hpv, hrd⟩ := redC_piv hp (k := kn) (m := mn) hk1 hm1 h20 hlt
   refine W_skip ?_
   refine W_seq ?_
   refine W_block ?_
   refine W_sr rfl (fun K hK => ?_)
   refine sv2 hF (v_move rfl) (v_assign rfl) rfl rfl ?_; clear hF a; intro a hF
   refine WL_nil (hK _ _ ?_)
   clear hK K
   replace hF := hF.sub _ (c_ 12 rfl (c_ 0 rfl (c_ 1 rfl (c_ 8 rfl (c_ 10 rfl (c_ 11 rfl (c_ 38 rfl (c_ 39 rfl (n_)))))))))
   refine W_reg rfl (fun K hK => ?_)
   refine sv2 hF (v_move rfl) (v_move rfl) rfl rfl ?_; clear hF a; intro a hF
   refine sc hF rfl rfl rfl en23 rfl (step_ok B w.heap.size KM wb p hp fv g cap (kn + mn) kn bs rc (redC hp kn mn i) i pv _ hS.inv hf hO hW hKs hNK (redC_bd hp kn mn i) ⟨h20, by omega⟩ hlt (by omega) hpv) ?_; clear hF a; intro v w' a hv hF
   obtain ⟨-, hO', hW', hz⟩ := hv
   replace hf := hf.stz hz
   replace hbx := hbx.stz (by decide) hz (fun h => Nat.not_lt.2 hKgr h.2)
   replace hS := hS.thenZ hz (fun k hk h => Nat.not_lt.2 h.1 hk)
   have hsz := hz.ext.size
   replace hKs := Nat.le_trans hKs hsz
   clear hsz
   replace hO := hO'
   replace hW := hW'
   clear hO' hW' hz
   rw [← hrd] at hW
   refine WL_nil (hK _ _ ?_)
   clear hK K
   replace hF := hF.sub _ (c_ 0 rfl (c_ 1 rfl (c_ 8 rfl (c_ 10 rfl (c_ 11 rfl (c_ 38 rfl (c_ 39 rfl (n_))))))))
   refine W_reg rfl (fun K hK => ?_)
   refine sv hF (v_addI rfl rfl (by omega)) rfl ?_; clear hF a; intro a hF
   refine sv hF (v_move rfl) rfl ?_; clear hF a; intro a hF
   refine WL_nil (hK _ _ ?_)
   clear hK K
   exact ⟨q - 1, by omega, i + 1, hF.sub _ (c_ 0 rfl (c_ 1 rfl (c_ 8 rfl (c_ 10 rfl (c_ 11 rfl (c_ 38 rfl (c_ 39 rfl (n_)))))))), hS, hf, hbx, hO, hW, hKs, by omega, by omega⟩
  ·
   skip
   try simp only [dcl] at hc1
   have hik : i = kn := by omega
   rw [hik] at hW
   refine W_exit rfl ?_
   refine W_seq ?_
   refine W_sr rfl (fun K hK => ?_)
   refine sv2 hF (v_move rfl) (v_move rfl) rfl rfl ?_; clear hF a; intro a hF
   refine sv hF (v_ixS sl27 rfl rfl (by omega) (by omega)) rfl ?_; clear hF a; intro a hF
   have hkr := hO.kc (by decide) (vls_at (show kn < kn + mn by omega))
   refine sv hF (v_load sc23 rfl (by rw [toNat_c]; exact hkr.c)) rfl ?_; clear hF a; intro a hF
   clear hkr
   refine sv hF (v_lenS rfl sl23 rfl) rfl ?_; clear hF a; intro a hF
   refine sv hF (v_move rfl) rfl ?_; clear hF a; intro a hF
   refine WL_nil (hK _ _ ?_)
   clear hK K
   replace hF := hF.sub _ (c_ 51 rfl (c_ 50 rfl (c_ 49 rfl (c_ 48 rfl (c_ 47 rfl (c_ 46 rfl (c_ 0 rfl (c_ 1 rfl (c_ 8 rfl (c_ 10 rfl (c_ 11 rfl (c_ 38 rfl (c_ 39 rfl (n_))))))))))))))
   refine W_block ?_
   refine W_loop (fun q2 a w3 => ∃ (j : Nat), Fr 104 [(0, fv), (1, .int .i64 (kn : Int)), (8, .slice (some ⟨g, 0, none⟩) (kn + mn) cap), (10, .pointer (some ⟨gr, 0, none⟩)), (49, .slice (some ⟨bs kn, 0, none⟩) kn (rc kn)), (50, .int .i64 (kn : Int)), (51, .int .i64 (j : Int))] a ∧ (St FDx B w w3) ∧ (Fo FDx B w3 fv (some (wb, p))) ∧ (Blk w3 gr 68 [fv, .slice (some ⟨g, 0, none⟩) (kn + mn) cap]) ∧ (Gam.Own FDx B w.heap.size w3 23 (.slice (some ⟨g, 0, none⟩) (kn + mn) cap) (some g) (vls (kn + mn) kn bs rc)) ∧ (Wr FDx B w.heap.size KM w3 (kn + mn) kn bs rc (colI hp kn mn j)) ∧ (KM ≤ w3.heap.size) ∧ (j ≤ kn) ∧ (q2 + j = kn)) (kn) ?_ ?_
   ·
    skip
    exact ⟨0, hF.sub _ (c_ 0 rfl (c_ 1 rfl (c_ 8 rfl (c_ 10 rfl (c_ 49 rfl (c_ 50 rfl (c_ 51 rfl (n_)))))))), hS, hf, hbx, hO, hW.congr (fun a _ b _ => (colI_zero hp).symm), hKs, by omega, by omega⟩
   ·
    skip
    clear hF
    clear hS hf hbx hO hW hKs
    rintro q2 a w3 ⟨j, hF, hS, hf, hbx, hO, hW, hKs, hj, hq2⟩
    refine W_sr rfl (fun K hK => ?_)
    refine sv hF (v_lss rfl rfl) rfl ?_; clear hF a; intro a hF
    refine WL_nil (hK _ _ ?_)
    clear hK K
    refine W_seq ?_
    refine W_if hF rfl (fun hc2 => ?_) (fun hc2 => ?_)
    ·
     skip
     try simp only [dcl] at hc2
     have hlt : j < kn := by omega
     have hg0 := jG_ne hp hk1 hm1 h20 (r := 0) (j := j) (by omega) hlt
     have hgb := jG_bd hp kn mn 0 j
     have hib := hp.fld.inv_lt (jG hp kn mn 0 j)
     rw [hfw] at hgb hib
     refine W_skip ?_
     refine W_seq ?_
     refine W_block ?_
     refine W_sr rfl (fun K hK => ?_)
     refine sv hF (v_move rfl) rfl ?_; clear hF a; intro a hF
     refine sv hF (v_ixS sl23 rfl rfl (by omega) (by omega)) rfl ?_; clear hF a; intro a hF
     refine sv hF (v_load sc3 rfl (by rw [toNat_c]; exact (by have h := (hW.rd (show kn < kn + mn by omega) hlt).c; rw [colI_at hp] at h; exact h))) rfl ?_; clear hF a; intro a hF
     refine sv2 hF (v_assign rfl) (v_assign rfl) rfl rfl ?_; clear hF a; intro a hF
     refine WL_nil (hK _ _ ?_)
     clear hK K
     refine W_sr rfl (fun K hK => ?_)
     refine sv2 hF (v_move rfl) (v_move rfl) rfl rfl ?_; clear hF a; intro a hF
     refine sc hF rfl rfl rfl en24 rfl (Inv_gf B (some (wb, p)) fv ((jG hp kn mn 0 j : Nat) : Int) _ hS.inv hf) ?_; clear hF a; intro v w' a hv hF
     obtain ⟨rfl, hS'⟩ := hv
     replace hf := hf.st hS'
     replace hO := hO.st (by decide) hS'
     replace hW := hW.st hS'
     replace hbx := hbx.st (by decide) hS'
     replace hKs := Nat.le_trans hKs hS'.ext.size
     replace hS := hS.trans hS'
     clear hS'
     rw [ginv_fld hp hgb hg0] at hF
     refine sv5 hF (v_move rfl) (v_ext rfl rfl) (v_ext rfl rfl) (v_assign rfl) (v_assign rfl) rfl rfl rfl rfl rfl ?_; clear hF a; intro a hF
     refine WL_nil (hK _ _ ?_)
     clear hK K
     replace hF := hF.sub _ (c_ 15 rfl (c_ 61 rfl (c_ 60 rfl (c_ 56 rfl (c_ 59 rfl (c_ 58 rfl (c_ 57 rfl (c_ 14 rfl (c_ 13 rfl (c_ 55 rfl (c_ 54 rfl (c_ 53 rfl (c_ 52 rfl (c_ 0 rfl (c_ 1 rfl (c_ 8 rfl (c_ 10 rfl (c_ 49 rfl (c_ 50 rfl (c_ 51 rfl (n_)))))))))))))))))))))
     refine W_reg rfl (fun K hK => ?_)
     refine sv hF (v_loadR rc68 rfl hbx) rfl ?_; clear hF a; intro a hF
     refine sv3 hF (v_move rfl) (v_move rfl) (v_move rfl) rfl rfl rfl ?_; clear hF a; intro a hF
     refine sc hF rfl rfl rfl en25 rfl (scale_ok B w.heap.size KM wb p hp fv g cap (kn + mn) kn bs rc (colI hp kn mn j) kn j (hp.fld.inv (jG hp kn mn 0 j)) _ hS.inv hf hO hW hKs hNK (colI_bd hp) ⟨h20, by omega⟩ (by omega) hlt hib) ?_; clear hF a; intro v w' a hv hF
     obtain ⟨-, hO', hW', hz⟩ := hv
     replace hf := hf.stz hz
     replace hbx := hbx.stz (by decide) hz (fun h => Nat.not_lt.2 hKgr h.2)
     replace hS := hS.thenZ hz (fun k hk h => Nat.not_lt.2 h.1 hk)
     have hsz := hz.ext.size
     replace hKs := Nat.le_trans hKs hsz
     clear hsz
     replace hO := hO'
     replace hW := hW'
     clear hO' hW' hz
     replace hW := hW.congr (g := colI hp kn mn (j + 1)) (fun a ha b _ => colI_step hp ha)
     refine WL_nil (hK _ _ ?_)
     clear hK K
     replace hF := hF.sub _ (c_ 65 rfl (c_ 64 rfl (c_ 63 rfl (c_ 62 rfl (c_ 15 rfl (c_ 61 rfl (c_ 60 rfl (c_ 56 rfl (c_ 59 rfl (c_ 58 rfl (c_ 57 rfl (c_ 14 rfl (c_ 13 rfl (c_ 55 rfl (c_ 54 rfl (c_ 53 rfl (c_ 52 rfl (c_ 0 rfl (c_ 1 rfl (c_ 8 rfl (c_ 10 rfl (c_ 49 rfl (c_ 50 rfl (c_ 51 rfl (n_)))))))))))))))))))))))))
     refine W_reg rfl (fun K hK => ?_)
     refine sv hF (v_addI rfl rfl (by omega)) rfl ?_; clear hF a; intro a hF
     refine sv hF (v_move rfl) rfl ?_; clear hF a; intro a hF
     refine WL_nil (hK _ _ ?_)
     clear hK K
     exact ⟨q2 - 1, by omega, j + 1, hF.sub _ (c_ 0 rfl (c_ 1 rfl (c_ 8 rfl (c_ 10 rfl (c_ 49 rfl (c_ 50 rfl (c_ 51 rfl (n_)))))))), hS, hf, hbx, hO, hW, hKs, by omega, by omega⟩
    ·
     skip
     try simp only [dcl] at hc2
     have hjk : j = kn := by omega
     rw [hjk] at hW
     refine W_exit rfl ?_
     refine W_seq ?_
     refine W_sr rfl (fun K hK => ?_)
     refine sv2 hF (v_move rfl) (v_move rfl) rfl rfl ?_; clear hF a; intro a hF
     refine sv hF ((v_addI rfl rfl (by omega)).as (show Value.int .i64 ((kn : Int) + 1) = .int .i64 ((kn + 1 : Nat) : Int) by simp)) rfl ?_; clear hF a; intro a hF
     have hcap := (hO.row (by decide)).capd
     have hvl := vls_length (kn + mn) kn bs rc
     refine sv hF (v_slLo sl27 rfl rfl (by omega) (by omega)) rfl ?_; clear hF a; intro a hF
     refine sv hF (v_lenS rfl sl27 rfl) rfl ?_; clear hF a; intro a hF
     refine sv hF (v_move rfl) rfl ?_; clear hF a; intro a hF
     refine WL_nil (hK _ _ ?_)
     clear hK K
     refine W_block ?_
     refine W_loop (fun q3 a w4 => ∃ (x : Nat), Fr 104 [(0, fv), (1, .int .i64 (kn : Int)), (8, .slice (some ⟨g, 0, none⟩) (kn + mn) cap), (71, .slice (slA (some ⟨g, 0, none⟩) (kn + 1) cap) (kn + mn - (kn + 1)) (cap - (kn + 1))), (72, .int .i64 ((kn + mn - (kn + 1) : Nat) : Int)), (73, .int .i64 (x : Int))] a ∧ (St FDx B w w4) ∧ (Fo FDx B w4 fv (some (wb, p))) ∧ (Blk w4 gr 68 [fv, .slice (some ⟨g, 0, none⟩) (kn + mn) cap]) ∧ (Gam.Own FDx B w.heap.size w4 23 (.slice (some ⟨g, 0, none⟩) (kn + mn) cap) (some g) (vls (kn + mn) kn bs rc)) ∧ (Wr FDx B w.heap.size KM w4 (kn + mn) kn bs rc (rowI hp kn mn (x) (0))) ∧ (KM ≤ w4.heap.size) ∧ (x ≤ kn + mn - (kn + 1)) ∧ (q3 + x = mn)) (mn) ?_ ?_
     ·
      skip
      exact ⟨0, hF.sub _ (c_ 0 rfl (c_ 1 rfl (c_ 8 rfl (c_ 71 rfl (c_ 72 rfl (c_ 73 rfl (n_))))))), hS, hf, hbx, hO, hW.congr (fun a _ b _ => (rowI_zero hp).symm), hKs, by omega, by omega⟩
     ·
      skip
      clear hF
      clear hS hf hbx hO hW hKs
      rintro q3 a w4 ⟨x, hF, hS, hf, hbx, hO, hW, hKs, hxm, hq3⟩
      refine W_sr rfl (fun K hK => ?_)
      refine sv hF (v_lss rfl rfl) rfl ?_; clear hF a; intro a hF
      refine WL_nil (hK _ _ ?_)
      clear hK K
      refine W_seq ?_
      refine W_if hF rfl (fun hc3 => ?_) (fun hc3 => ?_)
      ·
       skip
       try simp only [dcl] at hc3
       have hx : kn + 1 + x < kn + mn := by omega
       have hx0 := jC_ne hp hk1 hm1 h20 (r := x + 1) (j := 0) (by omega) (by omega)
       have hxb := jC_bd hp kn mn (x + 1) 0
       have hib := hp.fld.inv_lt (jC hp kn mn (x + 1) 0)
       rw [hfw] at hxb hib
       have hkr := hO.kc (by decide) (vls_at hx)
       have hsl : slA (some ⟨g, 0, none⟩) (kn + 1) cap = some ⟨g, 0 + (kn + 1), none⟩ := slA_of (by omega)
       rw [hsl] at hF
       refine W_skip ?_
       refine W_seq ?_
       refine W_block ?_
       refine W_sr rfl (fun K hK => ?_)
       refine sv hF (v_ixS sl27 rfl rfl (by omega) (by omega)) rfl ?_; clear hF a; intro a hF
       refine sv hF (v_load sc23 rfl (by rw [toNat_c, Nat.add_assoc]; exact hkr.c)) rfl ?_; clear hF a; intro a hF
       refine sv hF (v_assign rfl) rfl ?_; clear hF a; intro a hF
       refine WL_nil (hK _ _ ?_)
       clear hK K
       clear hkr
       refine W_sr rfl (fun K hK => ?_)
       refine sv2 hF (v_move rfl) (v_move rfl) rfl rfl ?_; clear hF a; intro a hF
       refine sv hF (v_ixS sl23 rfl rfl (by decide) (by omega)) rfl ?_; clear hF a; intro a hF
       refine sv hF (v_load sc3 rfl (by have h := (hW.rd hx (show 0 < kn by omega)).c; rw [rowI_at hp] at h; exact h)) rfl ?_; clear hF a; intro a hF
       refine sc hF rfl rfl rfl en24 rfl (Inv_gf B (some (wb, p)) fv ((jC hp kn mn (x + 1) 0 : Nat) : Int) _ hS.inv hf) ?_; clear hF a; intro v w' a hv hF
       obtain ⟨rfl, hS'⟩ := hv
       replace hf := hf.st hS'
       replace hO := hO.st (by decide) hS'
       replace hW := hW.st hS'
       replace hbx := hbx.st (by decide) hS'
       replace hKs := Nat.le_trans hKs hS'.ext.size
       replace hS := hS.trans hS'
       clear hS'
       rw [ginv_fld hp hxb hx0] at hF
       refine sv5 hF (v_move rfl) (v_ext rfl rfl) (v_ext rfl rfl) (v_assign rfl) (v_assign rfl) rfl rfl rfl rfl rfl ?_; clear hF a; intro a hF
       refine WL_nil (hK _ _ ?_)
       clear hK K
       replace hF := hF.sub _ (c_ 19 rfl (c_ 84 rfl (c_ 83 rfl (c_ 77 rfl (c_ 82 rfl (c_ 81 rfl (c_ 80 rfl (c_ 79 rfl (c_ 78 rfl (c_ 18 rfl (c_ 76 rfl (c_ 75 rfl (c_ 74 rfl (c_ 0 rfl (c_ 1 rfl (c_ 8 rfl (c_ 71 rfl (c_ 72 rfl (c_ 73 rfl (n_))))))))))))))))))))
       refine W_sr rfl (fun K hK => ?_)
       refine sv hF (v_move rfl) rfl ?_; clear hF a; intro a hF
       refine sv hF (v_lenS rfl sl23 rfl) rfl ?_; clear hF a; intro a hF
       refine sv hF (v_move rfl) rfl ?_; clear hF a; intro a hF
       refine WL_nil (hK _ _ ?_)
       clear hK K
       refine W_block ?_
       refine W_loop (fun q4 a w5 => ∃ (j : Nat), Fr 104 [(0, fv), (1, .int .i64 (kn : Int)), (8, .slice (some ⟨g, 0, none⟩) (kn + mn) cap), (18, .slice (some ⟨bs (kn + 1 + x), 0, none⟩) kn (rc (kn + 1 + x))), (19, .int .i64 ((hp.fld.inv (jC hp kn mn (x + 1) 0) : Nat) : Int)), (71, .slice (some ⟨g, 0 + (kn + 1), none⟩) (kn + mn - (kn + 1)) (cap - (kn + 1))), (72, .int .i64 ((kn + mn - (kn + 1) : Nat) : Int)), (73, .int .i64 (x : Int)), (85, .slice (some ⟨bs (kn + 1 + x), 0, none⟩) kn (rc (kn + 1 + x))), (86, .int .i64 (kn : Int)), (87, .int .i64 (j : Int))] a ∧ (St FDx B w w5) ∧ (Fo FDx B w5 fv (some (wb, p))) ∧ (Blk w5 gr 68 [fv, .slice (some ⟨g, 0, none⟩) (kn + mn) cap]) ∧ (Gam.Own FDx B w.heap.size w5 23 (.slice (some ⟨g, 0, none⟩) (kn + mn) cap) (some g) (vls (kn + mn) kn bs rc)) ∧ (Wr FDx B w.heap.size KM w5 (kn + mn) kn bs rc (rowI hp kn mn (x) (j))) ∧ (KM ≤ w5.heap.size) ∧ (j ≤ kn) ∧ (q4 + j = kn)) (kn) ?_ ?_
       ·
        skip
        exact ⟨0, hF.sub _ (c_ 0 rfl (c_ 1 rfl (c_ 8 rfl (c_ 18 rfl (c_ 19 rfl (c_ 71 rfl (c_ 72 rfl (c_ 73 rfl (c_ 85 rfl (c_ 86 rfl (c_ 87 rfl (n_)))))))))))), hS, hf, hbx, hO, hW, hKs, by omega, by omega⟩
       ·
        skip
        clear hF
        clear hS hf hbx hO hW hKs
        rintro q4 a w5 ⟨j, hF, hS, hf, hbx, hO, hW, hKs, hj, hq4⟩
        refine W_sr rfl (fun K hK => ?_)
        refine sv hF (v_lss rfl rfl) rfl ?_; clear hF a; intro a hF
        refine WL_nil (hK _ _ ?_)
        clear hK K
        refine W_seq ?_
        refine W_if hF rfl (fun hc4 => ?_) (fun hc4 => ?_)
        ·
         skip
         try simp only [dcl] at hc4
         have hlt : j < kn := by omega
         have hcb := jC_bd hp kn mn (x + 1) j
         rw [hfw] at hcb
         refine W_skip ?_
         refine W_seq ?_
         refine W_block ?_
         refine W_sr rfl (fun K hK => ?_)
         refine sv hF (v_move rfl) rfl ?_; clear hF a; intro a hF
         refine sv hF (v_ixS sl23 rfl rfl (by omega) (by omega)) rfl ?_; clear hF a; intro a hF
         refine sv hF (v_load sc3 rfl (by rw [toNat_c]; exact (by have h := (hW.rd hx hlt).c; rw [rowI_at hp] at h; exact h))) rfl ?_; clear hF a; intro a hF
         refine sv2 hF (v_assign rfl) (v_assign rfl) rfl rfl ?_; clear hF a; intro a hF
         refine WL_nil (hK _ _ ?_)
         clear hK K
         refine W_reg rfl (fun K hK => ?_)
         refine sv5 hF (v_move rfl) (v_move rfl) (v_move rfl) (v_move rfl) (v_move rfl) rfl rfl rfl rfl rfl ?_; clear hF a; intro a hF
         refine sc hF rfl rfl rfl en26 rfl (Mul_gf B (some (wb, p)) fv ((jC hp kn mn (x + 1) j : Nat) : Int) ((hp.fld.inv (jC hp kn mn (x + 1) 0) : Nat) : Int) _ hS.inv hf) ?_; clear hF a; intro v w' a hv hF
         obtain ⟨rfl, hS'⟩ := hv
         replace hf := hf.st hS'
         replace hO := hO.st (by decide) hS'
         replace hW := hW.st hS'
         replace hbx := hbx.st (by decide) hS'
         replace hKs := Nat.le_trans hKs hS'.ext.size
         replace hS := hS.trans hS'
         clear hS'
         rw [gmul_num hp hcb hib] at hF
         refine sv hF (v_ixS sl23 rfl rfl (by omega) (by omega)) rfl ?_; clear hF a; intro a hF
         have hR0 := hW.row _ hx
         have hge := hW.ge hx
         refine s_set (D := FDx) (B := B) hF on3 rfl (by rw [toNat_c, zints_length, trow_length]; omega) rfl rfl hR0 (by decide) hS.inv ?_; intro w' hm hI' ho'
         replace hf := hf.mb hm
         replace hO := hO.mb hm (hO.ne_type hR0 (by decide))
         replace hW := hW.set (g := rowI hp kn mn (x) (j + 1)) hx hm (ho'.cast (by rw [toNat_c, Nat.zero_add, zints_set, trow_set (g := rowI hp kn mn (x) (j + 1))]; intro l hl; exact rowI_col hp)) (fun a ha hai l hl => (rowI_ne hp hai))
         replace hbx := hbx.mb hm (hW.ne hx hKgr)
         replace hKs := Nat.le_trans hKs hm.size
         replace hS := hS.mb hm (fun k e => (hR0.lt k e).1)
         replace hR0 := ho'
         clear hm hI' ho'
         clear hR0 hge
         refine WL_nil (hK _ _ ?_)
         clear hK K
         refine W_reg rfl (fun K hK => ?_)
         refine sv hF (v_addI rfl rfl (by omega)) rfl ?_; clear hF a; intro a hF
         refine sv hF (v_move rfl) rfl ?_; clear hF a; intro a hF
         refine WL_nil (hK _ _ ?_)
         clear hK K
         exact ⟨q4 - 1, by omega, j + 1, hF.sub _ (c_ 0 rfl (c_ 1 rfl (c_ 8 rfl (c_ 18 rfl (c_ 19 rfl (c_ 71 rfl (c_ 72 rfl (c_ 73 rfl (c_ 85 rfl (c_ 86 rfl (c_ 87 rfl (n_)))))))))))), hS, hf, hbx, hO, hW, hKs, by omega, by omega⟩
        ·
         skip
         try simp only [dcl] at hc4
         have hjk : j = kn := by omega
         rw [hjk] at hW
         replace hW := hW.congr (g := rowI hp kn mn (x + 1) (0)) (fun a _ b hb => rowI_next hp hb)
         refine W_exit rfl ?_
         rw [← hsl] at hF
         refine W_reg rfl (fun K hK => ?_)
         refine sv hF (v_addI rfl rfl (by omega)) rfl ?_; clear hF a; intro a hF
         refine sv hF (v_move rfl) rfl ?_; clear hF a; intro a hF
         refine WL_nil (hK _ _ ?_)
         clear hK K
         exact ⟨q3 - 1, by omega, x + 1, hF.sub _ (c_ 0 rfl (c_ 1 rfl (c_ 8 rfl (c_ 71 rfl (c_ 72 rfl (c_ 73 rfl (n_))))))), hS, hf, hbx, hO, hW, hKs, by omega, by omega⟩
      ·
       skip
       try simp only [dcl] at hc3
       have hxe : x = mn - 1 := by omega
       rw [hxe] at hW
       have hM0 := (hW.mat (gb := g) hO (by decide)).from (lo := kn) (b := tab mn kn (parT hp kn mn)) (by rw [tab_length]; omega) (rowI_end hp hm1)
       have hcap := (hO.row (by decide)).capd
       have hvl := vls_length (kn + mn) kn bs rc
       refine W_exit rfl ?_
       refine W_sr rfl (fun K hK => ?_)
       refine sv2 hF (v_move rfl) (v_move rfl) rfl rfl ?_; clear hF a; intro a hF
       refine sv hF (v_slLo sl27 rfl rfl (by omega) (by omega)) rfl ?_; clear hF a; intro a hF
       rw [show kn + mn - kn = mn by omega] at hF
       refine sv2 hF (v_assign rfl) (v_assign rfl) rfl rfl ?_; clear hF a; intro a hF
       refine WL_nil (hK _ _ ?_)
       clear hK K
       refine W_ret ?_
       refine ⟨_, _, _, hF, rfl, rfl, ?_⟩
       exact ⟨_, _, rfl, hM0, hS⟩

end Go.Proofs.Ytkoiolamnnmokaa

/- The walk of package profile: parity rows, one text for each profile. -/
set_option linter.unusedVariables false
set_option linter.unusedSimpArgs false
namespace Go.Proofs.Ytkoiolamnnmokaa
open Go Go.Gam


namespace FxFProf2
theorem en8 : Ent Try.prog 8 := ent Try.func8 (by kernel_rfl) (by kernel_rfl)
theorem en13 : Ent Try.prog 13 := ent Try.func13 (by kernel_rfl) (by kernel_rfl)
theorem en15 : Ent Try.prog 15 := ent Try.func15 (by kernel_rfl) (by kernel_rfl)
theorem en16 : Ent Try.prog 16 := ent Try.func16 (by kernel_rfl) (by kernel_rfl)
theorem en17 : Ent Try.prog 17 := ent Try.func17 (by kernel_rfl) (by kernel_rfl)
theorem en18 : Ent Try.prog 18 := ent Try.func18 (by kernel_rfl) (by kernel_rfl)
theorem en19 : Ent Try.prog 19 := ent Try.func19 (by kernel_rfl) (by kernel_rfl)
theorem ar48 : ArrOf Try.prog 48 6 := ar_of Try.underlying48 (by kernel_rfl)
theorem fa25_0 : FieldFact Try.prog 25 0 0 := ff_of (sz := 0) Try.underlying25 (by kernel_rfl)
theorem fa25_1 : FieldFact Try.prog 25 1 1 := ff_of (sz := 0) Try.underlying25 (by kernel_rfl)
theorem fa25_2 : FieldFact Try.prog 25 2 2 := ff_of (sz := 0) Try.underlying25 (by kernel_rfl)
theorem hmix : Try.prog.follows .mixedOrders = true := by kernel_rfl
theorem sc3 : Scalar Try.prog 3 := ⟨_, Try.underlying3, by simp, by simp⟩
theorem sc47 : Scalar Try.prog 47 := ⟨_, Try.underlying47, by simp, by simp⟩
end FxFProf2
open FxFProf2

theorem PMay_ok (B : Nat) (p k m : Int) (w : World) (hI : Inv FDx B w) : Ret Try.prog 8 [.agg #[.int .i64 p, .int .i64 k, .int .i64 m]] w fun v w' => v = .bool (mayP p k m) ∧ St FDx B w w' := by
 by_cases h : 1 ≤ p ∧ p ≤ 6
 ·
  exact PMay_in B p k m w hI h
 ·
  exact PMay_out B p k m w hI h

set_option maxRecDepth 100000 in
set_option maxHeartbeats 1000000 in
theorem PPar_bad (B : Nat) (p k m : Int) (w : World) (hI : Inv FDx B w) (h : mayP p k m = false) : Ret Try.prog 7 [.agg #[.int .i64 p, .int .i64 k, .int .i64 m]] w fun v w' => v = .tuple #[.slice none 0 0, .int .i64 1] ∧ St FDx B w w' := by
 refine enter2 24 [(0, .agg #[.int .i64 p, .int .i64 k, .int .i64 m])] 2 3 Try.func7 rfl rfl rfl rfl rfl ?_; intro a hF
 have hS := St.refl hI
 refine W_sr rfl (fun K hK => ?_)
 refine s_box (D := FDx) (B := B) hF rfl (by decide) hS.inv rfl ?_; clear hF a; intro w' a hm hbx hsz hF
 replace hS := hS.mb0 hm
 clear hm
 refine sv2 hF (v_assign rfl) (v_assign rfl) rfl rfl ?_; clear hF a; intro a hF
 refine WL_nil (hK _ _ ?_)
 clear hK K
 replace hF := hF.sub _ (c_ 3 rfl (c_ 2 rfl (c_ 1 rfl (n_))))
 refine W_seq ?_
 refine W_sr rfl (fun K hK => ?_)
 refine sv hF (v_loadN Try.underlying25 rfl (by kernel_rfl) rfl hbx) rfl ?_; clear hF a; intro a hF
 refine sc hF rfl rfl rfl en8 rfl (PMay_ok B p k m _ hS.inv) ?_; clear hF a; intro v w' a hv hF
 obtain ⟨rfl, hS'⟩ := hv
 replace hbx := hbx.st (by decide) hS'
 replace hS := hS.trans hS'
 clear hS'
 rw [h] at hF
 refine sv hF (v_not rfl) rfl ?_; clear hF a; intro a hF
 refine WL_nil (hK _ _ ?_)
 clear hK K
 replace hF := hF.sub _ (c_ 7 rfl (c_ 3 rfl (c_ 2 rfl (c_ 1 rfl (n_)))))
 refine W_ifT hF rfl ?_
 refine W_sr rfl (fun K hK => ?_)
 refine sv2 hF (v_assign rfl) (v_assign rfl) rfl rfl ?_; clear hF a; intro a hF
 refine WL_nil (hK _ _ ?_)
 clear hK K
 replace hF := hF.sub _ (c_ 3 rfl (c_ 2 rfl (c_ 1 rfl (n_))))
 refine W_ret ?_
 refine ⟨_, _, _, hF, rfl, rfl, ?_⟩
 exact ⟨rfl, hS⟩

set_option maxRecDepth 100000 in
set_option maxHeartbeats 1000000 in
theorem PPar_1 (B kn mn : Nat) (w : World) (hI : Inv FDx B w) (h1 : 1 ≤ kn ∧ kn ≤ 8) (h2 : 1 ≤ mn ∧ mn ≤ 4) : Ret Try.prog 7 [.agg #[.int .i64 1, .int .i64 (kn : Int), .int .i64 (mn : Int)]] w fun v w' => ∃ sa cap, v = .tuple #[.slice sa mn cap, .int .i64 0] ∧ Mat FDx B w'.heap.size w' sa cap (tab mn kn (prT 1 kn mn)) ∧ St FDx B w w' := by
 refine enter2 24 [(0, .agg #[.int .i64 1, .int .i64 (kn : Int), .int .i64 (mn : Int)])] 2 3 Try.func7 rfl rfl rfl rfl rfl ?_; intro a hF
 have hS := St.refl hI
 refine W_sr rfl (fun K hK => ?_)
 refine s_box (D := FDx) (B := B) hF rfl (by decide) hS.inv rfl ?_; clear hF a; intro w' a hm hbx hsz hF
 replace hS := hS.mb0 hm
 clear hm
 refine sv2 hF (v_assign rfl) (v_assign rfl) rfl rfl ?_; clear hF a; intro a hF
 refine WL_nil (hK _ _ ?_)
 clear hK K
 replace hF := hF.sub _ (c_ 3 rfl (c_ 2 rfl (c_ 1 rfl (n_))))
 refine W_seq ?_
 refine W_sr rfl (fun K hK => ?_)
 refine sv hF (v_loadN Try.underlying25 rfl (by kernel_rfl) rfl hbx) rfl ?_; clear hF a; intro a hF
 refine sc hF rfl rfl rfl en8 rfl (PMay_ok B 1 kn mn _ hS.inv) ?_; clear hF a; intro v w' a hv hF
 obtain ⟨rfl, hS'⟩ := hv
 replace hbx := hbx.st (by decide) hS'
 replace hS := hS.trans hS'
 clear hS'
 rw [mayP_is (by omega) h1 h2 (by omega)] at hF
 refine sv hF (v_not rfl) rfl ?_; clear hF a; intro a hF
 refine WL_nil (hK _ _ ?_)
 clear hK K
 replace hF := hF.sub _ (c_ 7 rfl (c_ 3 rfl (c_ 2 rfl (c_ 1 rfl (n_)))))
 refine W_ifF hF rfl ?_
 refine W_skip ?_
 refine W_sr rfl (fun K hK => ?_)
 refine sv hF (v_build (cs := (fns 15 16 17 18 19 19).toArray) rfl (by kernel_rfl)) rfl ?_; clear hF a; intro a hF
 have hs0 := hS.ext.size
 refine s_allocN (D := FDx) (B := B) (z := .agg (#[.nilFunc, .nilFunc, .nilFunc, .nilFunc, .nilFunc, .nilFunc])) hF (by kernel_rfl) (by decide) hS.inv rfl ?_; clear hF a; intro gT w' a hm hI' hT hF
 replace hbx := hbx.mb hm (by simp)
 replace hS := hS.mb0 hm
 clear hm hI'
 replace hT := hT.le hs0
 clear hs0
 refine s_storeN (D := FDx) (B := B) hF (by kernel_rfl) rfl rfl (rfl) (by rfl) hT hS.inv ?_; intro w' hm hI' hrc'
 replace hbx := hbx.mb hm (by intro e; cases e; exact absurd hT.blk (by intro e2; have := hbx.symm.trans e2; cases this))
 replace hS := hS.mb hm (fun k h => by cases h; exact hT.low)
 replace hT := hrc'
 clear hm hI' hrc'
 refine WL_nil (hK _ _ ?_)
 clear hK K
 replace hF := hF.sub _ (c_ 4 rfl (c_ 3 rfl (c_ 2 rfl (c_ 1 rfl (n_)))))
 refine W_sd (m := 17) rfl hmix hS.inv (fun K hK w1 hS' hh => ?_)
 replace hbx := hbx.st (by decide) hS'
 replace hT := hT.st hS'
 replace hS := hS.trans hS'
 clear hS'
 clear hh
 refine a_v (i := 0) rfl (by kernel_rfl) hF (fun w2 hx => v_fieldAddr fa25_0 rfl) rfl ?_; clear hF a; intro a hF
 refine a_v (i := 1) rfl (by kernel_rfl) hF (fun w2 hx => v_load sc3 rfl (hbx.ld (by decide) hx 0 rfl)) rfl ?_; clear hF a; intro a hF
 refine a_v (i := 2) rfl (by kernel_rfl) hF (fun w2 hx => (v_subI rfl rfl (by omega)).as (show Value.int .i64 (1 - 1) = .int .i64 ((0 : Nat) : Int) from rfl)) rfl ?_; clear hF a; intro a hF
 refine a_v (i := 3) rfl (by kernel_rfl) hF (fun w2 hx => v_ixA ar48 rfl rfl (by omega) (by omega)) rfl ?_; clear hF a; intro a hF
 refine a_v (i := 4) rfl (by kernel_rfl) hF (fun w2 hx => v_load sc47 rfl ((hT.kc 0 rfl).ld hx)) rfl ?_; clear hF a; intro a hF
 refine a_v (i := 5) rfl (by kernel_rfl) hF (fun w2 hx => v_fieldAddr fa25_0 rfl) rfl ?_; clear hF a; intro a hF
 refine a_v (i := 6) rfl (by kernel_rfl) hF (fun w2 hx => v_load sc3 rfl (hbx.ld (by decide) hx 0 rfl)) rfl ?_; clear hF a; intro a hF
 refine a_v (i := 8) rfl (by kernel_rfl) hF (fun w2 hx => v_fieldAddr fa25_1 rfl) rfl ?_; clear hF a; intro a hF
 refine a_v (i := 9) rfl (by kernel_rfl) hF (fun w2 hx => v_load sc3 rfl (hbx.ld (by decide) hx 1 rfl)) rfl ?_; clear hF a; intro a hF
 refine a_v (i := 10) rfl (by kernel_rfl) hF (fun w2 hx => v_fieldAddr fa25_2 rfl) rfl ?_; clear hF a; intro a hF
 refine a_v (i := 11) rfl (by kernel_rfl) hF (fun w2 hx => v_load sc3 rfl (hbx.ld (by decide) hx 2 rfl)) rfl ?_; clear hF a; intro a hF
 refine a_e (i := 7) rfl (by kernel_rfl) ?_
 refine sc hF rfl rfl rfl en13 rfl (PField_in B 1 _ hS.inv (by omega)) ?_; clear hF a; intro v w' a hv hF
 obtain ⟨fv, hfv⟩ : ∃ x, x = v := ⟨_, rfl⟩
 subst hfv
 obtain ⟨hf, hS'⟩ := hv
 replace hf : Fo FDx B _ fv (some (8, 285)) := hf
 refine WL_nil ⟨hS'.ext, ?_⟩
 replace hbx := hbx.st (by decide) hS'
 replace hT := hT.st hS'
 replace hS := hS.trans hS'
 clear hS'
 refine a_e (i := 12) rfl (by kernel_rfl) ?_
 refine sc hF rfl rfl rfl en15 rfl (Parity_fit B 8 285 prm_285 fv kn mn _ hS.inv hf (fitB_ok rfl (by omega) (by omega) (by omega))) ?_; clear hF a; intro v w' a hv hF
 obtain ⟨sX, cX, rfl, hX, hS'⟩ := hv
 refine WL_nil ⟨hS'.ext, ?_⟩
 replace hbx := hbx.st (by decide) hS'
 replace hT := hT.st hS'
 replace hf := hf.st hS'
 replace hS := hS.trans hS'
 clear hS'
 refine a_v (i := 13) rfl (by kernel_rfl) hF (fun w2 hx => v_ext rfl rfl) rfl ?_; clear hF a; intro a hF
 refine a_v (i := 14) rfl (by kernel_rfl) hF (fun w2 hx => v_ext rfl rfl) rfl ?_; clear hF a; intro a hF
 refine a_v (i := 15) rfl (by kernel_rfl) hF (fun w2 hx => v_assign rfl) rfl ?_; clear hF a; intro a hF
 refine a_v (i := 16) rfl (by kernel_rfl) hF (fun w2 hx => v_assign rfl) rfl ?_; clear hF a; intro a hF
 refine a_done (by kernel_rfl) (hK _ _ ?_)
 clear hK K
 replace hF := hF.sub _ (c_ 3 rfl (c_ 2 rfl (n_)))
 refine W_ret ?_
 refine ⟨_, _, _, hF, rfl, rfl, ?_⟩
 exact ⟨_, _, by first | rfl | (rw [tab_length]; rfl), by unfold prT; simpa using hX, hS⟩

set_option maxRecDepth 100000 in
set_option maxHeartbeats 1000000 in
theorem PPar_2 (B kn mn : Nat) (w : World) (hI : Inv FDx B w) (h1 : 1 ≤ kn ∧ kn ≤ 8) (h2 : 1 ≤ mn ∧ mn ≤ 4) : Ret Try.prog 7 [.agg #[.int .i64 2, .int .i64 (kn : Int), .int .i64 (mn : Int)]] w fun v w' => ∃ sa cap, v = .tuple #[.slice sa mn cap, .int .i64 0] ∧ Mat FDx B w'.heap.size w' sa cap (tab mn kn (prT 2 kn mn)) ∧ St FDx B w w' := by
 refine enter2 24 [(0, .agg #[.int .i64 2, .int .i64 (kn : Int), .int .i64 (mn : Int)])] 2 3 Try.func7 rfl rfl rfl rfl rfl ?_; intro a hF
 have hS := St.refl hI
 refine W_sr rfl (fun K hK => ?_)
 refine s_box (D := FDx) (B := B) hF rfl (by decide) hS.inv rfl ?_; clear hF a; intro w' a hm hbx hsz hF
 replace hS := hS.mb0 hm
 clear hm
 refine sv2 hF (v_assign rfl) (v_assign rfl) rfl rfl ?_; clear hF a; intro a hF
 refine WL_nil (hK _ _ ?_)
 clear hK K
 replace hF := hF.sub _ (c_ 3 rfl (c_ 2 rfl (c_ 1 rfl (n_))))
 refine W_seq ?_
 refine W_sr rfl (fun K hK => ?_)
 refine sv hF (v_loadN Try.underlying25 rfl (by kernel_rfl) rfl hbx) rfl ?_; clear hF a; intro a hF
 refine sc hF rfl rfl rfl en8 rfl (PMay_ok B 2 kn mn _ hS.inv) ?_; clear hF a; intro v w' a hv hF
 obtain ⟨rfl, hS'⟩ := hv
 replace hbx := hbx.st (by decide) hS'
 replace hS := hS.trans hS'
 clear hS'
 rw [mayP_is (by omega) h1 h2 (by omega)] at hF
 refine sv hF (v_not rfl) rfl ?_; clear hF a; intro a hF
 refine WL_nil (hK _ _ ?_)
 clear hK K
 replace hF := hF.sub _ (c_ 7 rfl (c_ 3 rfl (c_ 2 rfl (c_ 1 rfl (n_)))))
 refine W_ifF hF rfl ?_
 refine W_skip ?_
 refine W_sr rfl (fun K hK => ?_)
 refine sv hF (v_build (cs := (fns 15 16 17 18 19 19).toArray) rfl (by kernel_rfl)) rfl ?_; clear hF a; intro a hF
 have hs0 := hS.ext.size
 refine s_allocN (D := FDx) (B := B) (z := .agg (#[.nilFunc, .nilFunc, .nilFunc, .nilFunc, .nilFunc, .nilFunc])) hF (by kernel_rfl) (by decide) hS.inv rfl ?_; clear hF a; intro gT w' a hm hI' hT hF
 replace hbx := hbx.mb hm (by simp)
 replace hS := hS.mb0 hm
 clear hm hI'
 replace hT := hT.le hs0
 clear hs0
 refine s_storeN (D := FDx) (B := B) hF (by kernel_rfl) rfl rfl (rfl) (by rfl) hT hS.inv ?_; intro w' hm hI' hrc'
 replace hbx := hbx.mb hm (by intro e; cases e; exact absurd hT.blk (by intro e2; have := hbx.symm.trans e2; cases this))
 replace hS := hS.mb hm (fun k h => by cases h; exact hT.low)
 replace hT := hrc'
 clear hm hI' hrc'
 refine WL_nil (hK _ _ ?_)
 clear hK K
 replace hF := hF.sub _ (c_ 4 rfl (c_ 3 rfl (c_ 2 rfl (c_ 1 rfl (n_)))))
 refine W_sd (m := 17) rfl hmix hS.inv (fun K hK w1 hS' hh => ?_)
 replace hbx := hbx.st (by decide) hS'
 replace hT := hT.st hS'
 replace hS := hS.trans hS'
 clear hS'
 clear hh
 refine a_v (i := 0) rfl (by kernel_rfl) hF (fun w2 hx => v_fieldAddr fa25_0 rfl) rfl ?_; clear hF a; intro a hF
 refine a_v (i := 1) rfl (by kernel_rfl) hF (fun w2 hx => v_load sc3 rfl (hbx.ld (by decide) hx 0 rfl)) rfl ?_; clear hF a; intro a hF
 refine a_v (i := 2) rfl (by kernel_rfl) hF (fun w2 hx => (v_subI rfl rfl (by omega)).as (show Value.int .i64 (2 - 1) = .int .i64 ((1 : Nat) : Int) from rfl)) rfl ?_; clear hF a; intro a hF
 refine a_v (i := 3) rfl (by kernel_rfl) hF (fun w2 hx => v_ixA ar48 rfl rfl (by omega) (by omega)) rfl ?_; clear hF a; intro a hF
 refine a_v (i := 4) rfl (by kernel_rfl) hF (fun w2 hx => v_load sc47 rfl ((hT.kc 1 rfl).ld hx)) rfl ?_; clear hF a; intro a hF
 refine a_v (i := 5) rfl (by kernel_rfl) hF (fun w2 hx => v_fieldAddr fa25_0 rfl) rfl ?_; clear hF a; intro a hF
 refine a_v (i := 6) rfl (by kernel_rfl) hF (fun w2 hx => v_load sc3 rfl (hbx.ld (by decide) hx 0 rfl)) rfl ?_; clear hF a; intro a hF
 refine a_v (i := 8) rfl (by kernel_rfl) hF (fun w2 hx => v_fieldAddr fa25_1 rfl) rfl ?_; clear hF a; intro a hF
 refine a_v (i := 9) rfl (by kernel_rfl) hF (fun w2 hx => v_load sc3 rfl (hbx.ld (by decide) hx 1 rfl)) rfl ?_; clear hF a; intro a hF
 refine a_v (i := 10) rfl (by kernel_rfl) hF (fun w2 hx => v_fieldAddr fa25_2 rfl) rfl ?_; clear hF a; intro a hF
 refine a_v (i := 11) rfl (by kernel_rfl) hF (fun w2 hx => v_load sc3 rfl (hbx.ld (by decide) hx 2 rfl)) rfl ?_; clear hF a; intro a hF
 refine a_e (i := 7) rfl (by kernel_rfl) ?_
 refine sc hF rfl rfl rfl en13 rfl (PField_in B 2 _ hS.inv (by omega)) ?_; clear hF a; intro v w' a hv hF
 obtain ⟨fv, hfv⟩ : ∃ x, x = v := ⟨_, rfl⟩
 subst hfv
 obtain ⟨hf, hS'⟩ := hv
 replace hf : Fo FDx B _ fv (some (16, 69643)) := hf
 refine WL_nil ⟨hS'.ext, ?_⟩
 replace hbx := hbx.st (by decide) hS'
 replace hT := hT.st hS'
 replace hS := hS.trans hS'
 clear hS'
 refine a_e (i := 12) rfl (by kernel_rfl) ?_
 refine sc hF rfl rfl rfl en16 rfl (Orig_ok B 16 69643 prm_69643 fv (kn : Int) (mn : Int) _ hS.inv hf) ?_; clear hF a; intro v w' a hv hF
 obtain ⟨obX, uX, rfl, hoX, hS'⟩ := hv
 rw [(origM_is prm_69643 (k := kn) (m := mn) (by omega) (by omega) (by omega))] at hoX hF
 try simp only [Option.getD_some, Option.getD_none] at hoX
 obtain ⟨sX, cX, rfl, hX⟩ := hoX.mat (by decide) (Nat.zero_le _)
 clear hoX
 refine WL_nil ⟨hS'.ext, ?_⟩
 replace hbx := hbx.st (by decide) hS'
 replace hT := hT.st hS'
 replace hf := hf.st hS'
 replace hS := hS.trans hS'
 clear hS'
 refine a_v (i := 13) rfl (by kernel_rfl) hF (fun w2 hx => v_ext rfl rfl) rfl ?_; clear hF a; intro a hF
 refine a_v (i := 14) rfl (by kernel_rfl) hF (fun w2 hx => v_ext rfl rfl) rfl ?_; clear hF a; intro a hF
 refine a_v (i := 15) rfl (by kernel_rfl) hF (fun w2 hx => v_assign rfl) rfl ?_; clear hF a; intro a hF
 refine a_v (i := 16) rfl (by kernel_rfl) hF (fun w2 hx => v_assign rfl) rfl ?_; clear hF a; intro a hF
 refine a_done (by kernel_rfl) (hK _ _ ?_)
 clear hK K
 replace hF := hF.sub _ (c_ 3 rfl (c_ 2 rfl (n_)))
 refine W_ret ?_
 refine ⟨_, _, _, hF, rfl, rfl, ?_⟩
 exact ⟨_, _, by first | rfl | (rw [tab_length]; rfl), by unfold prT; simpa using hX, hS⟩

set_option maxRecDepth 100000 in
set_option maxHeartbeats 1000000 in
theorem PPar_3 (B kn mn : Nat) (w : World) (hI : Inv FDx B w) (h1 : 1 ≤ kn ∧ kn ≤ 8) (h2 : 1 ≤ mn ∧ mn ≤ 4) (h3 : mn ≤ 3) : Ret Try.prog 7 [.agg #[.int .i64 3, .int .i64 (kn : Int), .int .i64 (mn : Int)]] w fun v w' => ∃ sa cap, v = .tuple #[.slice sa mn cap, .int .i64 0] ∧ Mat FDx B w'.heap.size w' sa cap (tab mn kn (prT 3 kn mn)) ∧ St FDx B w w' := by
 refine enter2 24 [(0, .agg #[.int .i64 3, .int .i64 (kn : Int), .int .i64 (mn : Int)])] 2 3 Try.func7 rfl rfl rfl rfl rfl ?_; intro a hF
 have hS := St.refl hI
 refine W_sr rfl (fun K hK => ?_)
 refine s_box (D := FDx) (B := B) hF rfl (by decide) hS.inv rfl ?_; clear hF a; intro w' a hm hbx hsz hF
 replace hS := hS.mb0 hm
 clear hm
 refine sv2 hF (v_assign rfl) (v_assign rfl) rfl rfl ?_; clear hF a; intro a hF
 refine WL_nil (hK _ _ ?_)
 clear hK K
 replace hF := hF.sub _ (c_ 3 rfl (c_ 2 rfl (c_ 1 rfl (n_))))
 refine W_seq ?_
 refine W_sr rfl (fun K hK => ?_)
 refine sv hF (v_loadN Try.underlying25 rfl (by kernel_rfl) rfl hbx) rfl ?_; clear hF a; intro a hF
 refine sc hF rfl rfl rfl en8 rfl (PMay_ok B 3 kn mn _ hS.inv) ?_; clear hF a; intro v w' a hv hF
 obtain ⟨rfl, hS'⟩ := hv
 replace hbx := hbx.st (by decide) hS'
 replace hS := hS.trans hS'
 clear hS'
 rw [mayP_is (by omega) h1 h2 (by omega)] at hF
 refine sv hF (v_not rfl) rfl ?_; clear hF a; intro a hF
 refine WL_nil (hK _ _ ?_)
 clear hK K
 replace hF := hF.sub _ (c_ 7 rfl (c_ 3 rfl (c_ 2 rfl (c_ 1 rfl (n_)))))
 refine W_ifF hF rfl ?_
 refine W_skip ?_
 refine W_sr rfl (fun K hK => ?_)
 refine sv hF (v_build (cs := (fns 15 16 17 18 19 19).toArray) rfl (by kernel_rfl)) rfl ?_; clear hF a; intro a hF
 have hs0 := hS.ext.size
 refine s_allocN (D := FDx) (B := B) (z := .agg (#[.nilFunc, .nilFunc, .nilFunc, .nilFunc, .nilFunc, .nilFunc])) hF (by kernel_rfl) (by decide) hS.inv rfl ?_; clear hF a; intro gT w' a hm hI' hT hF
 replace hbx := hbx.mb hm (by simp)
 replace hS := hS.mb0 hm
 clear hm hI'
 replace hT := hT.le hs0
 clear hs0
 refine s_storeN (D := FDx) (B := B) hF (by kernel_rfl) rfl rfl (rfl) (by rfl) hT hS.inv ?_; intro w' hm hI' hrc'
 replace hbx := hbx.mb hm (by intro e; cases e; exact absurd hT.blk (by intro e2; have := hbx.symm.trans e2; cases this))
 replace hS := hS.mb hm (fun k h => by cases h; exact hT.low)
 replace hT := hrc'
 clear hm hI' hrc'
 refine WL_nil (hK _ _ ?_)
 clear hK K
 replace hF := hF.sub _ (c_ 4 rfl (c_ 3 rfl (c_ 2 rfl (c_ 1 rfl (n_)))))
 refine W_sd (m := 17) rfl hmix hS.inv (fun K hK w1 hS' hh => ?_)
 replace hbx := hbx.st (by decide) hS'
 replace hT := hT.st hS'
 replace hS := hS.trans hS'
 clear hS'
 clear hh
 refine a_v (i := 0) rfl (by kernel_rfl) hF (fun w2 hx => v_fieldAddr fa25_0 rfl) rfl ?_; clear hF a; intro a hF
 refine a_v (i := 1) rfl (by kernel_rfl) hF (fun w2 hx => v_load sc3 rfl (hbx.ld (by decide) hx 0 rfl)) rfl ?_; clear hF a; intro a hF
 refine a_v (i := 2) rfl (by kernel_rfl) hF (fun w2 hx => (v_subI rfl rfl (by omega)).as (show Value.int .i64 (3 - 1) = .int .i64 ((2 : Nat) : Int) from rfl)) rfl ?_; clear hF a; intro a hF
 refine a_v (i := 3) rfl (by kernel_rfl) hF (fun w2 hx => v_ixA ar48 rfl rfl (by omega) (by omega)) rfl ?_; clear hF a; intro a hF
 refine a_v (i := 4) rfl (by kernel_rfl) hF (fun w2 hx => v_load sc47 rfl ((hT.kc 2 rfl).ld hx)) rfl ?_; clear hF a; intro a hF
 refine a_v (i := 5) rfl (by kernel_rfl) hF (fun w2 hx => v_fieldAddr fa25_0 rfl) rfl ?_; clear hF a; intro a hF
 refine a_v (i := 6) rfl (by kernel_rfl) hF (fun w2 hx => v_load sc3 rfl (hbx.ld (by decide) hx 0 rfl)) rfl ?_; clear hF a; intro a hF
 refine a_v (i := 8) rfl (by kernel_rfl) hF (fun w2 hx => v_fieldAddr fa25_1 rfl) rfl ?_; clear hF a; intro a hF
 refine a_v (i := 9) rfl (by kernel_rfl) hF (fun w2 hx => v_load sc3 rfl (hbx.ld (by decide) hx 1 rfl)) rfl ?_; clear hF a; intro a hF
 refine a_v (i := 10) rfl (by kernel_rfl) hF (fun w2 hx => v_fieldAddr fa25_2 rfl) rfl ?_; clear hF a; intro a hF
 refine a_v (i := 11) rfl (by kernel_rfl) hF (fun w2 hx => v_load sc3 rfl (hbx.ld (by decide) hx 2 rfl)) rfl ?_; clear hF a; intro a hF
 refine a_e (i := 7) rfl (by kernel_rfl) ?_
 refine sc hF rfl rfl rfl en13 rfl (PField_in B 3 _ hS.inv (by omega)) ?_; clear hF a; intro v w' a hv hF
 obtain ⟨fv, hfv⟩ : ∃ x, x = v := ⟨_, rfl⟩
 subst hfv
 obtain ⟨hf, hS'⟩ := hv
 replace hf : Fo FDx B _ fv (some (8, 285)) := hf
 refine WL_nil ⟨hS'.ext, ?_⟩
 replace hbx := hbx.st (by decide) hS'
 replace hT := hT.st hS'
 replace hS := hS.trans hS'
 clear hS'
 refine a_e (i := 12) rfl (by kernel_rfl) ?_
 refine sc hF rfl rfl rfl en17 rfl (Isal_ok B (some (8, 285)) fv (kn : Int) (mn : Int) _ hS.inv hf) ?_; clear hF a; intro v w' a hv hF
 obtain ⟨obX, uX, rfl, hoX, hS'⟩ := hv
 rw [(isalM_is (o := some (8, 285)) rfl (k := kn) (m := mn) (by omega) (by omega) (by omega))] at hoX hF
 try simp only [Option.getD_some, Option.getD_none] at hoX
 obtain ⟨sX, cX, rfl, hX⟩ := hoX.mat (by decide) (Nat.zero_le _)
 clear hoX
 refine WL_nil ⟨hS'.ext, ?_⟩
 replace hbx := hbx.st (by decide) hS'
 replace hT := hT.st hS'
 replace hf := hf.st hS'
 replace hS := hS.trans hS'
 clear hS'
 refine a_v (i := 13) rfl (by kernel_rfl) hF (fun w2 hx => v_ext rfl rfl) rfl ?_; clear hF a; intro a hF
 refine a_v (i := 14) rfl (by kernel_rfl) hF (fun w2 hx => v_ext rfl rfl) rfl ?_; clear hF a; intro a hF
 refine a_v (i := 15) rfl (by kernel_rfl) hF (fun w2 hx => v_assign rfl) rfl ?_; clear hF a; intro a hF
 refine a_v (i := 16) rfl (by kernel_rfl) hF (fun w2 hx => v_assign rfl) rfl ?_; clear hF a; intro a hF
 refine a_done (by kernel_rfl) (hK _ _ ?_)
 clear hK K
 replace hF := hF.sub _ (c_ 3 rfl (c_ 2 rfl (n_)))
 refine W_ret ?_
 refine ⟨_, _, _, hF, rfl, rfl, ?_⟩
 exact ⟨_, _, by first | rfl | (rw [tab_length]; rfl), by unfold prT; simpa using hX, hS⟩

set_option maxRecDepth 100000 in
set_option maxHeartbeats 1000000 in
theorem PPar_4 (B kn mn : Nat) (w : World) (hI : Inv FDx B w) (h1 : 1 ≤ kn ∧ kn ≤ 8) (h2 : 1 ≤ mn ∧ mn ≤ 4) : Ret Try.prog 7 [.agg #[.int .i64 4, .int .i64 (kn : Int), .int .i64 (mn : Int)]] w fun v w' => ∃ sa cap, v = .tuple #[.slice sa mn cap, .int .i64 0] ∧ Mat FDx B w'.heap.size w' sa cap (tab mn kn (prT 4 kn mn)) ∧ St FDx B w w' := by
 refine enter2 24 [(0, .agg #[.int .i64 4, .int .i64 (kn : Int), .int .i64 (mn : Int)])] 2 3 Try.func7 rfl rfl rfl rfl rfl ?_; intro a hF
 have hS := St.refl hI
 refine W_sr rfl (fun K hK => ?_)
 refine s_box (D := FDx) (B := B) hF rfl (by decide) hS.inv rfl ?_; clear hF a; intro w' a hm hbx hsz hF
 replace hS := hS.mb0 hm
 clear hm
 refine sv2 hF (v_assign rfl) (v_assign rfl) rfl rfl ?_; clear hF a; intro a hF
 refine WL_nil (hK _ _ ?_)
 clear hK K
 replace hF := hF.sub _ (c_ 3 rfl (c_ 2 rfl (c_ 1 rfl (n_))))
 refine W_seq ?_
 refine W_sr rfl (fun K hK => ?_)
 refine sv hF (v_loadN Try.underlying25 rfl (by kernel_rfl) rfl hbx) rfl ?_; clear hF a; intro a hF
 refine sc hF rfl rfl rfl en8 rfl (PMay_ok B 4 kn mn _ hS.inv) ?_; clear hF a; intro v w' a hv hF
 obtain ⟨rfl, hS'⟩ := hv
 replace hbx := hbx.st (by decide) hS'
 replace hS := hS.trans hS'
 clear hS'
 rw [mayP_is (by omega) h1 h2 (by omega)] at hF
 refine sv hF (v_not rfl) rfl ?_; clear hF a; intro a hF
 refine WL_nil (hK _ _ ?_)
 clear hK K
 replace hF := hF.sub _ (c_ 7 rfl (c_ 3 rfl (c_ 2 rfl (c_ 1 rfl (n_)))))
 refine W_ifF hF rfl ?_
 refine W_skip ?_
 refine W_sr rfl (fun K hK => ?_)
 refine sv hF (v_build (cs := (fns 15 16 17 18 19 19).toArray) rfl (by kernel_rfl)) rfl ?_; clear hF a; intro a hF
 have hs0 := hS.ext.size
 refine s_allocN (D := FDx) (B := B) (z := .agg (#[.nilFunc, .nilFunc, .nilFunc, .nilFunc, .nilFunc, .nilFunc])) hF (by kernel_rfl) (by decide) hS.inv rfl ?_; clear hF a; intro gT w' a hm hI' hT hF
 replace hbx := hbx.mb hm (by simp)
 replace hS := hS.mb0 hm
 clear hm hI'
 replace hT := hT.le hs0
 clear hs0
 refine s_storeN (D := FDx) (B := B) hF (by kernel_rfl) rfl rfl (rfl) (by rfl) hT hS.inv ?_; intro w' hm hI' hrc'
 replace hbx := hbx.mb hm (by intro e; cases e; exact absurd hT.blk (by intro e2; have := hbx.symm.trans e2; cases this))
 replace hS := hS.mb hm (fun k h => by cases h; exact hT.low)
 replace hT := hrc'
 clear hm hI' hrc'
 refine WL_nil (hK _ _ ?_)
 clear hK K
 replace hF := hF.sub _ (c_ 4 rfl (c_ 3 rfl (c_ 2 rfl (c_ 1 rfl (n_)))))
 refine W_sd (m := 17) rfl hmix hS.inv (fun K hK w1 hS' hh => ?_)
 replace hbx := hbx.st (by decide) hS'
 replace hT := hT.st hS'
 replace hS := hS.trans hS'
 clear hS'
 clear hh
 refine a_v (i := 0) rfl (by kernel_rfl) hF (fun w2 hx => v_fieldAddr fa25_0 rfl) rfl ?_; clear hF a; intro a hF
 refine a_v (i := 1) rfl (by kernel_rfl) hF (fun w2 hx => v_load sc3 rfl (hbx.ld (by decide) hx 0 rfl)) rfl ?_; clear hF a; intro a hF
 refine a_v (i := 2) rfl (by kernel_rfl) hF (fun w2 hx => (v_subI rfl rfl (by omega)).as (show Value.int .i64 (4 - 1) = .int .i64 ((3 : Nat) : Int) from rfl)) rfl ?_; clear hF a; intro a hF
 refine a_v (i := 3) rfl (by kernel_rfl) hF (fun w2 hx => v_ixA ar48 rfl rfl (by omega) (by omega)) rfl ?_; clear hF a; intro a hF
 refine a_v (i := 4) rfl (by kernel_rfl) hF (fun w2 hx => v_load sc47 rfl ((hT.kc 3 rfl).ld hx)) rfl ?_; clear hF a; intro a hF
 refine a_v (i := 5) rfl (by kernel_rfl) hF (fun w2 hx => v_fieldAddr fa25_0 rfl) rfl ?_; clear hF a; intro a hF
 refine a_v (i := 6) rfl (by kernel_rfl) hF (fun w2 hx => v_load sc3 rfl (hbx.ld (by decide) hx 0 rfl)) rfl ?_; clear hF a; intro a hF
 refine a_v (i := 8) rfl (by kernel_rfl) hF (fun w2 hx => v_fieldAddr fa25_1 rfl) rfl ?_; clear hF a; intro a hF
 refine a_v (i := 9) rfl (by kernel_rfl) hF (fun w2 hx => v_load sc3 rfl (hbx.ld (by decide) hx 1 rfl)) rfl ?_; clear hF a; intro a hF
 refine a_v (i := 10) rfl (by kernel_rfl) hF (fun w2 hx => v_fieldAddr fa25_2 rfl) rfl ?_; clear hF a; intro a hF
 refine a_v (i := 11) rfl (by kernel_rfl) hF (fun w2 hx => v_load sc3 rfl (hbx.ld (by decide) hx 2 rfl)) rfl ?_; clear hF a; intro a hF
 refine a_e (i := 7) rfl (by kernel_rfl) ?_
 refine sc hF rfl rfl rfl en13 rfl (PField_in B 4 _ hS.inv (by omega)) ?_; clear hF a; intro v w' a hv hF
 obtain ⟨fv, hfv⟩ : ∃ x, x = v := ⟨_, rfl⟩
 subst hfv
 obtain ⟨hf, hS'⟩ := hv
 replace hf : Fo FDx B _ fv (some (8, 285)) := hf
 refine WL_nil ⟨hS'.ext, ?_⟩
 replace hbx := hbx.st (by decide) hS'
 replace hT := hT.st hS'
 replace hS := hS.trans hS'
 clear hS'
 refine a_e (i := 12) rfl (by kernel_rfl) ?_
 refine sc hF rfl rfl rfl en18 rfl (CIsal_ok B 8 285 prm_285 fv (kn : Int) (mn : Int) _ hS.inv hf) ?_; clear hF a; intro v w' a hv hF
 obtain ⟨obX, uX, rfl, hoX, hS'⟩ := hv
 rw [(cisaM_is prm_285 (k := kn) (m := mn) (by omega) (by omega) (by omega))] at hoX hF
 try simp only [Option.getD_some, Option.getD_none] at hoX
 obtain ⟨sX, cX, rfl, hX⟩ := hoX.mat (by decide) (Nat.zero_le _)
 clear hoX
 refine WL_nil ⟨hS'.ext, ?_⟩
 replace hbx := hbx.st (by decide) hS'
 replace hT := hT.st hS'
 replace hf := hf.st hS'
 replace hS := hS.trans hS'
 clear hS'
 refine a_v (i := 13) rfl (by kernel_rfl) hF (fun w2 hx => v_ext rfl rfl) rfl ?_; clear hF a; intro a hF
 refine a_v (i := 14) rfl (by kernel_rfl) hF (fun w2 hx => v_ext rfl rfl) rfl ?_; clear hF a; intro a hF
 refine a_v (i := 15) rfl (by kernel_rfl) hF (fun w2 hx => v_assign rfl) rfl ?_; clear hF a; intro a hF
 refine a_v (i := 16) rfl (by kernel_rfl) hF (fun w2 hx => v_assign rfl) rfl ?_; clear hF a; intro a hF
 refine a_done (by kernel_rfl) (hK _ _ ?_)
 clear hK K
 replace hF := hF.sub _ (c_ 3 rfl (c_ 2 rfl (n_)))
 refine W_ret ?_
 refine ⟨_, _, _, hF, rfl, rfl, ?_⟩
 exact ⟨_, _, by first | rfl | (rw [tab_length]; rfl), by unfold prT; simpa using hX, hS⟩

set_option maxRecDepth 100000 in
set_option maxHeartbeats 1000000 in
theorem PPar_5 (B kn mn : Nat) (w : World) (hI : Inv FDx B w) (h1 : 1 ≤ kn ∧ kn ≤ 8) (h2 : 1 ≤ mn ∧ mn ≤ 4) : Ret Try.prog 7 [.agg #[.int .i64 5, .int .i64 (kn : Int), .int .i64 (mn : Int)]] w fun v w' => ∃ sa cap, v = .tuple #[.slice sa mn cap, .int .i64 0] ∧ Mat FDx B w'.heap.size w' sa cap (tab mn kn (prT 5 kn mn)) ∧ St FDx B w w' := by
 refine enter2 24 [(0, .agg #[.int .i64 5, .int .i64 (kn : Int), .int .i64 (mn : Int)])] 2 3 Try.func7 rfl rfl rfl rfl rfl ?_; intro a hF
 have hS := St.refl hI
 refine W_sr rfl (fun K hK => ?_)
 refine s_box (D := FDx) (B := B) hF rfl (by decide) hS.inv rfl ?_; clear hF a; intro w' a hm hbx hsz hF
 replace hS := hS.mb0 hm
 clear hm
 refine sv2 hF (v_assign rfl) (v_assign rfl) rfl rfl ?_; clear hF a; intro a hF
 refine WL_nil (hK _ _ ?_)
 clear hK K
 replace hF := hF.sub _ (c_ 3 rfl (c_ 2 rfl (c_ 1 rfl (n_))))
 refine W_seq ?_
 refine W_sr rfl (fun K hK => ?_)
 refine sv hF (v_loadN Try.underlying25 rfl (by kernel_rfl) rfl hbx) rfl ?_; clear hF a; intro a hF
 refine sc hF rfl rfl rfl en8 rfl (PMay_ok B 5 kn mn _ hS.inv) ?_; clear hF a; intro v w' a hv hF
 obtain ⟨rfl, hS'⟩ := hv
 replace hbx := hbx.st (by decide) hS'
 replace hS := hS.trans hS'
 clear hS'
 rw [mayP_is (by omega) h1 h2 (by omega)] at hF
 refine sv hF (v_not rfl) rfl ?_; clear hF a; intro a hF
 refine WL_nil (hK _ _ ?_)
 clear hK K
 replace hF := hF.sub _ (c_ 7 rfl (c_ 3 rfl (c_ 2 rfl (c_ 1 rfl (n_)))))
 refine W_ifF hF rfl ?_
 refine W_skip ?_
 refine W_sr rfl (fun K hK => ?_)
 refine sv hF (v_build (cs := (fns 15 16 17 18 19 19).toArray) rfl (by kernel_rfl)) rfl ?_; clear hF a; intro a hF
 have hs0 := hS.ext.size
 refine s_allocN (D := FDx) (B := B) (z := .agg (#[.nilFunc, .nilFunc, .nilFunc, .nilFunc, .nilFunc, .nilFunc])) hF (by kernel_rfl) (by decide) hS.inv rfl ?_; clear hF a; intro gT w' a hm hI' hT hF
 replace hbx := hbx.mb hm (by simp)
 replace hS := hS.mb0 hm
 clear hm hI'
 replace hT := hT.le hs0
 clear hs0
 refine s_storeN (D := FDx) (B := B) hF (by kernel_rfl) rfl rfl (rfl) (by rfl) hT hS.inv ?_; intro w' hm hI' hrc'
 replace hbx := hbx.mb hm (by intro e; cases e; exact absurd hT.blk (by intro e2; have := hbx.symm.trans e2; cases this))
 replace hS := hS.mb hm (fun k h => by cases h; exact hT.low)
 replace hT := hrc'
 clear hm hI' hrc'
 refine WL_nil (hK _ _ ?_)
 clear hK K
 replace hF := hF.sub _ (c_ 4 rfl (c_ 3 rfl (c_ 2 rfl (c_ 1 rfl (n_)))))
 refine W_sd (m := 17) rfl hmix hS.inv (fun K hK w1 hS' hh => ?_)
 replace hbx := hbx.st (by decide) hS'
 replace hT := hT.st hS'
 replace hS := hS.trans hS'
 clear hS'
 clear hh
 refine a_v (i := 0) rfl (by kernel_rfl) hF (fun w2 hx => v_fieldAddr fa25_0 rfl) rfl ?_; clear hF a; intro a hF
 refine a_v (i := 1) rfl (by kernel_rfl) hF (fun w2 hx => v_load sc3 rfl (hbx.ld (by decide) hx 0 rfl)) rfl ?_; clear hF a; intro a hF
 refine a_v (i := 2) rfl (by kernel_rfl) hF (fun w2 hx => (v_subI rfl rfl (by omega)).as (show Value.int .i64 (5 - 1) = .int .i64 ((4 : Nat) : Int) from rfl)) rfl ?_; clear hF a; intro a hF
 refine a_v (i := 3) rfl (by kernel_rfl) hF (fun w2 hx => v_ixA ar48 rfl rfl (by omega) (by omega)) rfl ?_; clear hF a; intro a hF
 refine a_v (i := 4) rfl (by kernel_rfl) hF (fun w2 hx => v_load sc47 rfl ((hT.kc 4 rfl).ld hx)) rfl ?_; clear hF a; intro a hF
 refine a_v (i := 5) rfl (by kernel_rfl) hF (fun w2 hx => v_fieldAddr fa25_0 rfl) rfl ?_; clear hF a; intro a hF
 refine a_v (i := 6) rfl (by kernel_rfl) hF (fun w2 hx => v_load sc3 rfl (hbx.ld (by decide) hx 0 rfl)) rfl ?_; clear hF a; intro a hF
 refine a_v (i := 8) rfl (by kernel_rfl) hF (fun w2 hx => v_fieldAddr fa25_1 rfl) rfl ?_; clear hF a; intro a hF
 refine a_v (i := 9) rfl (by kernel_rfl) hF (fun w2 hx => v_load sc3 rfl (hbx.ld (by decide) hx 1 rfl)) rfl ?_; clear hF a; intro a hF
 refine a_v (i := 10) rfl (by kernel_rfl) hF (fun w2 hx => v_fieldAddr fa25_2 rfl) rfl ?_; clear hF a; intro a hF
 refine a_v (i := 11) rfl (by kernel_rfl) hF (fun w2 hx => v_load sc3 rfl (hbx.ld (by decide) hx 2 rfl)) rfl ?_; clear hF a; intro a hF
 refine a_e (i := 7) rfl (by kernel_rfl) ?_
 refine sc hF rfl rfl rfl en13 rfl (PField_in B 5 _ hS.inv (by omega)) ?_; clear hF a; intro v w' a hv hF
 obtain ⟨fv, hfv⟩ : ∃ x, x = v := ⟨_, rfl⟩
 subst hfv
 obtain ⟨hf, hS'⟩ := hv
 replace hf : Fo FDx B _ fv (some (8, 285)) := hf
 refine WL_nil ⟨hS'.ext, ?_⟩
 replace hbx := hbx.st (by decide) hS'
 replace hT := hT.st hS'
 replace hS := hS.trans hS'
 clear hS'
 refine a_e (i := 12) rfl (by kernel_rfl) ?_
 refine sc hF rfl rfl rfl en19 rfl (behind_fit B 8 285 prm_285 fv kn mn _ hS.inv hf (by omega) (by omega) (by omega)) ?_; clear hF a; intro v w' a hv hF
 obtain ⟨sX, cX, rfl, hX, hS'⟩ := hv
 refine WL_nil ⟨hS'.ext, ?_⟩
 replace hbx := hbx.st (by decide) hS'
 replace hT := hT.st hS'
 replace hf := hf.st hS'
 replace hS := hS.trans hS'
 clear hS'
 refine a_v (i := 13) rfl (by kernel_rfl) hF (fun w2 hx => v_ext rfl rfl) rfl ?_; clear hF a; intro a hF
 refine a_v (i := 14) rfl (by kernel_rfl) hF (fun w2 hx => v_ext rfl rfl) rfl ?_; clear hF a; intro a hF
 refine a_v (i := 15) rfl (by kernel_rfl) hF (fun w2 hx => v_assign rfl) rfl ?_; clear hF a; intro a hF
 refine a_v (i := 16) rfl (by kernel_rfl) hF (fun w2 hx => v_assign rfl) rfl ?_; clear hF a; intro a hF
 refine a_done (by kernel_rfl) (hK _ _ ?_)
 clear hK K
 replace hF := hF.sub _ (c_ 3 rfl (c_ 2 rfl (n_)))
 refine W_ret ?_
 refine ⟨_, _, _, hF, rfl, rfl, ?_⟩
 exact ⟨_, _, by first | rfl | (rw [tab_length]; rfl), by unfold prT; simpa using hX, hS⟩

set_option maxRecDepth 100000 in
set_option maxHeartbeats 1000000 in
theorem PPar_6 (B kn mn : Nat) (w : World) (hI : Inv FDx B w) (h1 : 1 ≤ kn ∧ kn ≤ 8) (h2 : 1 ≤ mn ∧ mn ≤ 4) : Ret Try.prog 7 [.agg #[.int .i64 6, .int .i64 (kn : Int), .int .i64 (mn : Int)]] w fun v w' => ∃ sa cap, v = .tuple #[.slice sa mn cap, .int .i64 0] ∧ Mat FDx B w'.heap.size w' sa cap (tab mn kn (prT 6 kn mn)) ∧ St FDx B w w' := by
 refine enter2 24 [(0, .agg #[.int .i64 6, .int .i64 (kn : Int), .int .i64 (mn : Int)])] 2 3 Try.func7 rfl rfl rfl rfl rfl ?_; intro a hF
 have hS := St.refl hI
 refine W_sr rfl (fun K hK => ?_)
 refine s_box (D := FDx) (B := B) hF rfl (by decide) hS.inv rfl ?_; clear hF a; intro w' a hm hbx hsz hF
 replace hS := hS.mb0 hm
 clear hm
 refine sv2 hF (v_assign rfl) (v_assign rfl) rfl rfl ?_; clear hF a; intro a hF
 refine WL_nil (hK _ _ ?_)
 clear hK K
 replace hF := hF.sub _ (c_ 3 rfl (c_ 2 rfl (c_ 1 rfl (n_))))
 refine W_seq ?_
 refine W_sr rfl (fun K hK => ?_)
 refine sv hF (v_loadN Try.underlying25 rfl (by kernel_rfl) rfl hbx) rfl ?_; clear hF a; intro a hF
 refine sc hF rfl rfl rfl en8 rfl (PMay_ok B 6 kn mn _ hS.inv) ?_; clear hF a; intro v w' a hv hF
 obtain ⟨rfl, hS'⟩ := hv
 replace hbx := hbx.st (by decide) hS'
 replace hS := hS.trans hS'
 clear hS'
 rw [mayP_is (by omega) h1 h2 (by omega)] at hF
 refine sv hF (v_not rfl) rfl ?_; clear hF a; intro a hF
 refine WL_nil (hK _ _ ?_)
 clear hK K
 replace hF := hF.sub _ (c_ 7 rfl (c_ 3 rfl (c_ 2 rfl (c_ 1 rfl (n_)))))
 refine W_ifF hF rfl ?_
 refine W_skip ?_
 refine W_sr rfl (fun K hK => ?_)
 refine sv hF (v_build (cs := (fns 15 16 17 18 19 19).toArray) rfl (by kernel_rfl)) rfl ?_; clear hF a; intro a hF
 have hs0 := hS.ext.size
 refine s_allocN (D := FDx) (B := B) (z := .agg (#[.nilFunc, .nilFunc, .nilFunc, .nilFunc, .nilFunc, .nilFunc])) hF (by kernel_rfl) (by decide) hS.inv rfl ?_; clear hF a; intro gT w' a hm hI' hT hF
 replace hbx := hbx.mb hm (by simp)
 replace hS := hS.mb0 hm
 clear hm hI'
 replace hT := hT.le hs0
 clear hs0
 refine s_storeN (D := FDx) (B := B) hF (by kernel_rfl) rfl rfl (rfl) (by rfl) hT hS.inv ?_; intro w' hm hI' hrc'
 replace hbx := hbx.mb hm (by intro e; cases e; exact absurd hT.blk (by intro e2; have := hbx.symm.trans e2; cases this))
 replace hS := hS.mb hm (fun k h => by cases h; exact hT.low)
 replace hT := hrc'
 clear hm hI' hrc'
 refine WL_nil (hK _ _ ?_)
 clear hK K
 replace hF := hF.sub _ (c_ 4 rfl (c_ 3 rfl (c_ 2 rfl (c_ 1 rfl (n_)))))
 refine W_sd (m := 17) rfl hmix hS.inv (fun K hK w1 hS' hh => ?_)
 replace hbx := hbx.st (by decide) hS'
 replace hT := hT.st hS'
 replace hS := hS.trans hS'
 clear hS'
 clear hh
 refine a_v (i := 0) rfl (by kernel_rfl) hF (fun w2 hx => v_fieldAddr fa25_0 rfl) rfl ?_; clear hF a; intro a hF
 refine a_v (i := 1) rfl (by kernel_rfl) hF (fun w2 hx => v_load sc3 rfl (hbx.ld (by decide) hx 0 rfl)) rfl ?_; clear hF a; intro a hF
 refine a_v (i := 2) rfl (by kernel_rfl) hF (fun w2 hx => (v_subI rfl rfl (by omega)).as (show Value.int .i64 (6 - 1) = .int .i64 ((5 : Nat) : Int) from rfl)) rfl ?_; clear hF a; intro a hF
 refine a_v (i := 3) rfl (by kernel_rfl) hF (fun w2 hx => v_ixA ar48 rfl rfl (by omega) (by omega)) rfl ?_; clear hF a; intro a hF
 refine a_v (i := 4) rfl (by kernel_rfl) hF (fun w2 hx => v_load sc47 rfl ((hT.kc 5 rfl).ld hx)) rfl ?_; clear hF a; intro a hF
 refine a_v (i := 5) rfl (by kernel_rfl) hF (fun w2 hx => v_fieldAddr fa25_0 rfl) rfl ?_; clear hF a; intro a hF
 refine a_v (i := 6) rfl (by kernel_rfl) hF (fun w2 hx => v_load sc3 rfl (hbx.ld (by decide) hx 0 rfl)) rfl ?_; clear hF a; intro a hF
 refine a_v (i := 8) rfl (by kernel_rfl) hF (fun w2 hx => v_fieldAddr fa25_1 rfl) rfl ?_; clear hF a; intro a hF
 refine a_v (i := 9) rfl (by kernel_rfl) hF (fun w2 hx => v_load sc3 rfl (hbx.ld (by decide) hx 1 rfl)) rfl ?_; clear hF a; intro a hF
 refine a_v (i := 10) rfl (by kernel_rfl) hF (fun w2 hx => v_fieldAddr fa25_2 rfl) rfl ?_; clear hF a; intro a hF
 refine a_v (i := 11) rfl (by kernel_rfl) hF (fun w2 hx => v_load sc3 rfl (hbx.ld (by decide) hx 2 rfl)) rfl ?_; clear hF a; intro a hF
 refine a_e (i := 7) rfl (by kernel_rfl) ?_
 refine sc hF rfl rfl rfl en13 rfl (PField_in B 6 _ hS.inv (by omega)) ?_; clear hF a; intro v w' a hv hF
 obtain ⟨fv, hfv⟩ : ∃ x, x = v := ⟨_, rfl⟩
 subst hfv
 obtain ⟨hf, hS'⟩ := hv
 replace hf : Fo FDx B _ fv (some (8, 285)) := hf
 refine WL_nil ⟨hS'.ext, ?_⟩
 replace hbx := hbx.st (by decide) hS'
 replace hT := hT.st hS'
 replace hS := hS.trans hS'
 clear hS'
 refine a_e (i := 12) rfl (by kernel_rfl) ?_
 refine sc hF rfl rfl rfl en19 rfl (behind_fit B 8 285 prm_285 fv kn mn _ hS.inv hf (by omega) (by omega) (by omega)) ?_; clear hF a; intro v w' a hv hF
 obtain ⟨sX, cX, rfl, hX, hS'⟩ := hv
 refine WL_nil ⟨hS'.ext, ?_⟩
 replace hbx := hbx.st (by decide) hS'
 replace hT := hT.st hS'
 replace hf := hf.st hS'
 replace hS := hS.trans hS'
 clear hS'
 refine a_v (i := 13) rfl (by kernel_rfl) hF (fun w2 hx => v_ext rfl rfl) rfl ?_; clear hF a; intro a hF
 refine a_v (i := 14) rfl (by kernel_rfl) hF (fun w2 hx => v_ext rfl rfl) rfl ?_; clear hF a; intro a hF
 refine a_v (i := 15) rfl (by kernel_rfl) hF (fun w2 hx => v_assign rfl) rfl ?_; clear hF a; intro a hF
 refine a_v (i := 16) rfl (by kernel_rfl) hF (fun w2 hx => v_assign rfl) rfl ?_; clear hF a; intro a hF
 refine a_done (by kernel_rfl) (hK _ _ ?_)
 clear hK K
 replace hF := hF.sub _ (c_ 3 rfl (c_ 2 rfl (n_)))
 refine W_ret ?_
 refine ⟨_, _, _, hF, rfl, rfl, ?_⟩
 exact ⟨_, _, by first | rfl | (rw [tab_length]; rfl), by unfold prT; simpa using hX, hS⟩

theorem PPar_ok (B : Nat) (p : Int) (kn mn : Nat) (w : World) (hI : Inv FDx B w) (h : mayP p (kn : Int) (mn : Int) = true) : Ret Try.prog 7 [.agg #[.int .i64 p, .int .i64 (kn : Int), .int .i64 (mn : Int)]] w fun v w' => ∃ sa cap, v = .tuple #[.slice sa mn cap, .int .i64 0] ∧ Mat FDx B w'.heap.size w' sa cap (tab mn kn (prT p kn mn)) ∧ St FDx B w w' := by
 obtain ⟨h1, h2, k, m, e1, e2, h3, h4, h5, h6, h7⟩ := mayP_of h
 obtain rfl : kn = k := by omega
 obtain rfl : mn = m := by omega
 have hp : p = 1 ∨ p = 2 ∨ p = 3 ∨ p = 4 ∨ p = 5 ∨ p = 6 := by omega
 rcases hp with rfl | rfl | rfl | rfl | rfl | rfl
 ·
  exact PPar_1 B kn mn w hI ⟨h3, h4⟩ ⟨h5, h6⟩
 ·
  exact PPar_2 B kn mn w hI ⟨h3, h4⟩ ⟨h5, h6⟩
 ·
  exact PPar_3 B kn mn w hI ⟨h3, h4⟩ ⟨h5, h6⟩ (h7 rfl)
 ·
  exact PPar_4 B kn mn w hI ⟨h3, h4⟩ ⟨h5, h6⟩
 ·
  exact PPar_5 B kn mn w hI ⟨h3, h4⟩ ⟨h5, h6⟩
 ·
  exact PPar_6 B kn mn w hI ⟨h3, h4⟩ ⟨h5, h6⟩

end Go.Proofs.Ytkoiolamnnmokaa

/- The walks of the document answer for polynomials: each function returns what the plain function on numbers tells. -/
set_option linter.unusedVariables false
set_option linter.unusedSimpArgs false
namespace Go.Proofs.Ytkoiolamnnmokaa
open Go Go.Gam


namespace FxFRef01
end FxFRef01
open FxFRef01

end Go.Proofs.Ytkoiolamnnmokaa

/- The walks of gambrelref02: what the document asks of a field. -/
set_option linter.unusedVariables false
set_option linter.unusedSimpArgs false
namespace Go.Proofs.Ytkoiolamnnmokaa
open Go Go.Gam


namespace FxFRef02
end FxFRef02
open FxFRef02

noncomputable def knownB (W : Int) (p : Nat) : Bool := (newF W p).isSome

end Go.Proofs.Ytkoiolamnnmokaa

/- The walks of gambrelref04: what the document asks of matrices. -/
set_option linter.unusedVariables false
set_option linter.unusedSimpArgs false
namespace Go.Proofs.Ytkoiolamnnmokaa
open Go Go.Gam


namespace FxFRef04
theorem hmix : Try.prog.follows .mixedOrders = true := by kernel_rfl
theorem sc23 : Scalar Try.prog 23 := ⟨_, Try.underlying23, by simp, by simp⟩
theorem sc3 : Scalar Try.prog 3 := ⟨_, Try.underlying3, by simp, by simp⟩
theorem sl23 : Sl Try.prog 23 3 (.int .i64 0) 8 := sl_of Try.underlying23 rfl (by kernel_rfl)
theorem sl26 : Sl Try.prog 26 23 (.slice none 0 0) 24 := sl_of Try.underlying26 rfl (by kernel_rfl)
end FxFRef04
open FxFRef04

set_option maxRecDepth 100000 in
set_option maxHeartbeats 1000000 in
theorem Same04_ok (B M : Nat) (pma : Option Addr) (cma : Nat) (ma : Mtx) (pmb : Option Addr) (cmb : Nat) (mb : Mtx) (w : World) (hI : Inv FDx B w) (hAma : Mat FDx B M w pma cma ma) (hAmb : Mat FDx B M w pmb cmb mb) (hlma : ma.length ≤ 1000) (hbma : ∀ r ∈ ma, r.length ≤ 1000) : Ret Try.prog 9 [.slice pma ma.length cma, .slice pmb mb.length cmb] w fun v w' => v = .bool (decide (ma = mb)) ∧ St FDx B w w' := by
 refine enter 53 [(0, .slice pma ma.length cma), (1, .slice pmb mb.length cmb)] 4 Try.func9 rfl rfl rfl rfl rfl ?_; intro a hF
 have hS := St.refl hI
 refine W_sr rfl (fun K hK => ?_)
 refine sv hF (v_assign rfl) rfl ?_; clear hF a; intro a hF
 refine WL_nil (hK _ _ ?_)
 clear hK K
 refine W_seq ?_
 refine W_sr rfl (fun K hK => ?_)
 refine sv hF (v_move rfl) rfl ?_; clear hF a; intro a hF
 refine sv hF (v_lenS rfl sl26 rfl) rfl ?_; clear hF a; intro a hF
 refine sv hF (v_move rfl) rfl ?_; clear hF a; intro a hF
 refine sv hF (v_lenS rfl sl26 rfl) rfl ?_; clear hF a; intro a hF
 refine sv hF (v_neq rfl rfl) rfl ?_; clear hF a; intro a hF
 refine WL_nil (hK _ _ ?_)
 clear hK K
 replace hF := hF.sub _ (c_ 11 rfl (c_ 4 rfl (c_ 0 rfl (c_ 1 rfl (n_)))))
 refine W_if hF rfl (fun hc1 => ?_) (fun hc1 => ?_)
 ·
  skip
  try simp only [dcl] at hc1
  refine W_sr rfl (fun K hK => ?_)
  refine sv hF (v_assign rfl) rfl ?_; clear hF a; intro a hF
  refine WL_nil (hK _ _ ?_)
  clear hK K
  replace hF := hF.sub _ (c_ 4 rfl (c_ 0 rfl (c_ 1 rfl (n_))))
  refine W_ret ?_
  refine ⟨_, _, hF, rfl, ?_⟩
  refine ⟨congrArg _ (Eq.symm (decide_eq_false ?_)), hS⟩
  rintro rfl
  omega
 ·
  skip
  try simp only [dcl] at hc1
  refine W_skip ?_
  refine W_seq ?_
  have hle : ma.length = mb.length := by omega
  refine W_sr rfl (fun K hK => ?_)
  refine sv hF (v_assign rfl) rfl ?_; clear hF a; intro a hF
  refine WL_nil (hK _ _ ?_)
  clear hK K
  replace hF := hF.sub _ (c_ 5 rfl (c_ 4 rfl (c_ 0 rfl (c_ 1 rfl (n_)))))
  refine W_block ?_
  refine W_loop (fun m a w1 => ∃ (i : Nat), Fr 53 [(0, .slice pma ma.length cma), (1, .slice pmb mb.length cmb), (5, .int .i64 (i : Int))] a ∧ (St FDx B w w1) ∧ (Mat FDx B M w1 pma cma ma) ∧ (Mat FDx B M w1 pmb cmb mb) ∧ (i ≤ ma.length) ∧ (ma.take i = mb.take i) ∧ (m + i = ma.length)) (ma.length) ?_ ?_
  ·
   skip
   exact ⟨0, hF.sub _ (c_ 0 rfl (c_ 1 rfl (c_ 5 rfl (n_)))), hS, hAma, hAmb, by omega, by simp, by omega⟩
  ·
   skip
   clear hF
   clear hS hAma hAmb
   rintro m a w1 ⟨i, hF, hS, hAma, hAmb, hi, hn, hm⟩
   refine W_seq ?_
   refine W_sr rfl (fun K hK => ?_)
   refine sv2 hF (v_move rfl) (v_move rfl) rfl rfl ?_; clear hF a; intro a hF
   refine sv hF (v_lenS rfl sl26 rfl) rfl ?_; clear hF a; intro a hF
   refine sv hF (v_lss rfl rfl) rfl ?_; clear hF a; intro a hF
   refine WL_nil (hK _ _ ?_)
   clear hK K
   replace hF := hF.sub _ (c_ 15 rfl (c_ 0 rfl (c_ 1 rfl (c_ 5 rfl (n_)))))
   refine W_if hF rfl (fun hc2 => ?_) (fun hc2 => ?_)
   ·
    skip
    try simp only [dcl] at hc2
    have hlt : i < ma.length := by omega
    obtain ⟨gma, oma, rfl⟩ := hAma.at1 (by omega)
    obtain ⟨gmb, omb, rfl⟩ := hAmb.at1 (by omega)
    obtain ⟨r, hr⟩ : ∃ z, ma[i]? = some z := ⟨_, List.getElem?_eq_getElem (by omega)⟩
    obtain ⟨pr, cr, hkr, hrowr, -⟩ := hAma.row2 hr
    obtain ⟨s, hs⟩ : ∃ z, mb[i]? = some z := ⟨_, List.getElem?_eq_getElem (by omega)⟩
    obtain ⟨ps, cs, hks, hrows, -⟩ := hAmb.row2 hs
    have hrl := hbma r (List.mem_of_getElem? hr)
    refine W_skip ?_
    refine W_seq ?_
    refine W_block ?_
    refine W_seq ?_
    refine W_sd (m := 11) rfl hmix hS.inv (fun K hK w1 hS' hh => ?_)
    replace hAma := hAma.st hS'
    replace hAmb := hAmb.st hS'
    replace hkr := hkr.st hS'
    replace hks := hks.st hS'
    replace hS := hS.trans hS'
    clear hS'
    clear hh
    refine a_v (i := 0) rfl (by kernel_rfl) hF (fun w2 hx => v_move rfl) rfl ?_; clear hF a; intro a hF
    refine a_v (i := 1) rfl (by kernel_rfl) hF (fun w2 hx => v_move rfl) rfl ?_; clear hF a; intro a hF
    refine a_v (i := 2) rfl (by kernel_rfl) hF (fun w2 hx => v_ixS sl26 rfl rfl (by omega) (by omega)) rfl ?_; clear hF a; intro a hF
    refine a_v (i := 3) rfl (by kernel_rfl) hF (fun w2 hx => v_load sc23 rfl (by rw [toNat_c]; exact hkr.ld hx)) rfl ?_; clear hF a; intro a hF
    refine a_v (i := 4) rfl (by kernel_rfl) hF (fun w2 hx => v_lenS rfl sl23 rfl) rfl ?_; clear hF a; intro a hF
    refine a_v (i := 5) rfl (by kernel_rfl) hF (fun w2 hx => v_move rfl) rfl ?_; clear hF a; intro a hF
    refine a_v (i := 6) rfl (by kernel_rfl) hF (fun w2 hx => v_move rfl) rfl ?_; clear hF a; intro a hF
    refine a_v (i := 7) rfl (by kernel_rfl) hF (fun w2 hx => v_ixS sl26 rfl rfl (by omega) (by omega)) rfl ?_; clear hF a; intro a hF
    refine a_v (i := 8) rfl (by kernel_rfl) hF (fun w2 hx => v_load sc23 rfl (by rw [toNat_c]; exact hks.ld hx)) rfl ?_; clear hF a; intro a hF
    refine a_v (i := 9) rfl (by kernel_rfl) hF (fun w2 hx => v_lenS rfl sl23 rfl) rfl ?_; clear hF a; intro a hF
    refine a_v (i := 10) rfl (by kernel_rfl) hF (fun w2 hx => v_neq rfl rfl) rfl ?_; clear hF a; intro a hF
    refine a_done (by kernel_rfl) (hK _ _ ?_)
    clear hK K
    replace hF := hF.sub _ (c_ 28 rfl (c_ 0 rfl (c_ 1 rfl (c_ 5 rfl (n_)))))
    refine W_if hF rfl (fun hc3 => ?_) (fun hc3 => ?_)
    ·
     skip
     try simp only [dcl] at hc3
     refine W_sr rfl (fun K hK => ?_)
     refine sv hF (v_assign rfl) rfl ?_; clear hF a; intro a hF
     refine WL_nil (hK _ _ ?_)
     clear hK K
     replace hF := hF.sub _ (c_ 4 rfl (c_ 0 rfl (c_ 1 rfl (c_ 5 rfl (n_)))))
     refine W_ret ?_
     refine ⟨_, _, hF, rfl, ?_⟩
     refine ⟨congrArg _ (Eq.symm (decide_eq_false ?_)), hS⟩
     rintro rfl
     rw [hr] at hs
     obtain rfl := Option.some.inj hs
     omega
    ·
     skip
     try simp only [dcl] at hc3
     refine W_skip ?_
     have hls : r.length = s.length := by omega
     refine W_sr rfl (fun K hK => ?_)
     refine sv hF (v_assign rfl) rfl ?_; clear hF a; intro a hF
     refine WL_nil (hK _ _ ?_)
     clear hK K
     replace hF := hF.sub _ (c_ 6 rfl (c_ 0 rfl (c_ 1 rfl (c_ 5 rfl (n_)))))
     refine W_block ?_
     refine W_loop (fun m2 a w2 => ∃ (j : Nat), Fr 53 [(0, .slice (some ⟨gma, oma, none⟩) ma.length cma), (1, .slice (some ⟨gmb, omb, none⟩) mb.length cmb), (5, .int .i64 (i : Int)), (6, .int .i64 (j : Int))] a ∧ (St FDx B w w2) ∧ (Mat FDx B M w2 (some ⟨gma, oma, none⟩) cma ma) ∧ (Mat FDx B M w2 (some ⟨gmb, omb, none⟩) cmb mb) ∧ (j ≤ r.length) ∧ (r.take j = s.take j) ∧ (m2 + j = r.length)) (r.length) ?_ ?_
     ·
      skip
      exact ⟨0, hF.sub _ (c_ 0 rfl (c_ 1 rfl (c_ 5 rfl (c_ 6 rfl (n_))))), hS, hAma, hAmb, by omega, by simp, by omega⟩
     ·
      skip
      clear hF
      clear hS hAma hAmb hkr hrowr hks hrows
      rintro m2 a w2 ⟨j, hF, hS, hAma, hAmb, hj, hn2, hm2⟩
      refine W_seq ?_
      obtain ⟨pr, cr, hkr, hrowr, -⟩ := hAma.row2 hr
      obtain ⟨ps, cs, hks, hrows, -⟩ := hAmb.row2 hs
      refine W_sr rfl (fun K hK => ?_)
      refine sv3 hF (v_move rfl) (v_move rfl) (v_move rfl) rfl rfl rfl ?_; clear hF a; intro a hF
      refine sv hF (v_ixS sl26 rfl rfl (by omega) (by omega)) rfl ?_; clear hF a; intro a hF
      refine sv hF (v_load sc23 rfl (by rw [toNat_c]; exact hkr.c)) rfl ?_; clear hF a; intro a hF
      refine sv hF (v_lenS rfl sl23 rfl) rfl ?_; clear hF a; intro a hF
      refine sv hF (v_lss rfl rfl) rfl ?_; clear hF a; intro a hF
      refine WL_nil (hK _ _ ?_)
      clear hK K
      replace hF := hF.sub _ (c_ 35 rfl (c_ 0 rfl (c_ 1 rfl (c_ 5 rfl (c_ 6 rfl (n_))))))
      refine W_if hF rfl (fun hc4 => ?_) (fun hc4 => ?_)
      ·
       skip
       try simp only [dcl] at hc4
       have hlt2 : j < r.length := by omega
       obtain ⟨x, hx⟩ : ∃ z, r[j]? = some z := ⟨_, List.getElem?_eq_getElem (by omega)⟩
       obtain ⟨gxx, oxx, hgxx, hkx, -⟩ := hrowr.kat (zints_at hx)
       subst hgxx
       obtain ⟨y, hy⟩ : ∃ z, s[j]? = some z := ⟨_, List.getElem?_eq_getElem (by omega)⟩
       obtain ⟨gxy, oxy, hgxy, hky, -⟩ := hrows.kat (zints_at hy)
       subst hgxy
       refine W_skip ?_
       refine W_seq ?_
       refine W_block ?_
       refine W_sd (m := 15) rfl hmix hS.inv (fun K hK w1 hS' hh => ?_)
       replace hAma := hAma.st hS'
       replace hAmb := hAmb.st hS'
       replace hkr := hkr.st hS'
       replace hks := hks.st hS'
       replace hkx := hkx.st hS'
       replace hky := hky.st hS'
       replace hS := hS.trans hS'
       clear hS'
       clear hh
       refine a_v (i := 0) rfl (by kernel_rfl) hF (fun w2 hx => v_move rfl) rfl ?_; clear hF a; intro a hF
       refine a_v (i := 1) rfl (by kernel_rfl) hF (fun w2 hx => v_move rfl) rfl ?_; clear hF a; intro a hF
       refine a_v (i := 2) rfl (by kernel_rfl) hF (fun w2 hx => v_ixS sl26 rfl rfl (by omega) (by omega)) rfl ?_; clear hF a; intro a hF
       refine a_v (i := 3) rfl (by kernel_rfl) hF (fun w2 hx => v_load sc23 rfl (by rw [toNat_c]; exact hkr.ld hx)) rfl ?_; clear hF a; intro a hF
       refine a_v (i := 4) rfl (by kernel_rfl) hF (fun w2 hx => v_move rfl) rfl ?_; clear hF a; intro a hF
       refine a_v (i := 5) rfl (by kernel_rfl) hF (fun w2 hx => v_ixS sl23 rfl rfl (by omega) (by omega)) rfl ?_; clear hF a; intro a hF
       refine a_v (i := 6) rfl (by kernel_rfl) hF (fun w2 hx => v_load sc3 rfl (by rw [toNat_c]; exact hkx.ld hx)) rfl ?_; clear hF a; intro a hF
       refine a_v (i := 7) rfl (by kernel_rfl) hF (fun w2 hx => v_move rfl) rfl ?_; clear hF a; intro a hF
       refine a_v (i := 8) rfl (by kernel_rfl) hF (fun w2 hx => v_move rfl) rfl ?_; clear hF a; intro a hF
       refine a_v (i := 9) rfl (by kernel_rfl) hF (fun w2 hx => v_ixS sl26 rfl rfl (by omega) (by omega)) rfl ?_; clear hF a; intro a hF
       refine a_v (i := 10) rfl (by kernel_rfl) hF (fun w2 hx => v_load sc23 rfl (by rw [toNat_c]; exact hks.ld hx)) rfl ?_; clear hF a; intro a hF
       refine a_v (i := 11) rfl (by kernel_rfl) hF (fun w2 hx => v_move rfl) rfl ?_; clear hF a; intro a hF
       refine a_v (i := 12) rfl (by kernel_rfl) hF (fun w2 hx => v_ixS sl23 rfl rfl (by omega) (by omega)) rfl ?_; clear hF a; intro a hF
       refine a_v (i := 13) rfl (by kernel_rfl) hF (fun w2 hx => v_load sc3 rfl (by rw [toNat_c]; exact hky.ld hx)) rfl ?_; clear hF a; intro a hF
       refine a_v (i := 14) rfl (by kernel_rfl) hF (fun w2 hx => v_neq rfl rfl) rfl ?_; clear hF a; intro a hF
       refine a_done (by kernel_rfl) (hK _ _ ?_)
       clear hK K
       replace hF := hF.sub _ (c_ 52 rfl (c_ 0 rfl (c_ 1 rfl (c_ 5 rfl (c_ 6 rfl (n_))))))
       refine W_if hF rfl (fun hc5 => ?_) (fun hc5 => ?_)
       ·
        skip
        try simp only [dcl] at hc5
        refine W_sr rfl (fun K hK => ?_)
        refine sv hF (v_assign rfl) rfl ?_; clear hF a; intro a hF
        refine WL_nil (hK _ _ ?_)
        clear hK K
        replace hF := hF.sub _ (c_ 4 rfl (c_ 0 rfl (c_ 1 rfl (c_ 5 rfl (c_ 6 rfl (n_))))))
        refine W_ret ?_
        refine ⟨_, _, hF, rfl, ?_⟩
        refine ⟨congrArg _ (Eq.symm (decide_eq_false ?_)), hS⟩
        rintro rfl
        rw [hr] at hs
        obtain rfl := Option.some.inj hs
        rw [hx] at hy
        obtain rfl := Option.some.inj hy
        omega
       ·
        skip
        try simp only [dcl] at hc5
        refine W_skip ?_
        refine W_reg rfl (fun K hK => ?_)
        refine sv hF (v_move rfl) rfl ?_; clear hF a; intro a hF
        refine sv hF (v_addI rfl rfl (by omega)) rfl ?_; clear hF a; intro a hF
        refine sv hF (v_assign rfl) rfl ?_; clear hF a; intro a hF
        refine WL_nil (hK _ _ ?_)
        clear hK K
        replace hF := hF.sub _ (c_ 6 rfl (c_ 37 rfl (c_ 36 rfl (c_ 0 rfl (c_ 1 rfl (c_ 5 rfl (n_)))))))
        exact ⟨m2 - 1, by omega, j + 1, hF.sub _ (c_ 0 rfl (c_ 1 rfl (c_ 5 rfl (c_ 6 rfl (n_))))), hS, hAma, hAmb, by omega, take_snoc_eq hn2 hx (by rw [hy]; congr 1; omega), by omega⟩
      ·
       skip
       try simp only [dcl] at hc4
       obtain rfl : j = r.length := by omega
       obtain rfl : r = s := by rw [List.take_length, List.take_of_length_le (by omega)] at hn2; exact hn2
       refine W_exit rfl ?_
       refine W_reg rfl (fun K hK => ?_)
       refine sv hF (v_move rfl) rfl ?_; clear hF a; intro a hF
       refine sv hF (v_addI rfl rfl (by omega)) rfl ?_; clear hF a; intro a hF
       refine sv hF (v_assign rfl) rfl ?_; clear hF a; intro a hF
       refine WL_nil (hK _ _ ?_)
       clear hK K
       replace hF := hF.sub _ (c_ 5 rfl (c_ 17 rfl (c_ 16 rfl (c_ 0 rfl (c_ 1 rfl (c_ 6 rfl (n_)))))))
       exact ⟨m - 1, by omega, i + 1, hF.sub _ (c_ 0 rfl (c_ 1 rfl (c_ 5 rfl (n_)))), hS, hAma, hAmb, by omega, take_snoc_eq hn hr hs, by omega⟩
   ·
    skip
    try simp only [dcl] at hc2
    refine W_exit rfl ?_
    refine W_sr rfl (fun K hK => ?_)
    refine sv hF (v_assign rfl) rfl ?_; clear hF a; intro a hF
    refine WL_nil (hK _ _ ?_)
    clear hK K
    replace hF := hF.sub _ (c_ 4 rfl (c_ 0 rfl (c_ 1 rfl (c_ 5 rfl (n_)))))
    refine W_ret ?_
    refine ⟨_, _, hF, rfl, ?_⟩
    refine ⟨congrArg _ (Eq.symm (decide_eq_true ?_)), hS⟩
    obtain rfl : i = ma.length := by omega
    rw [List.take_length, List.take_of_length_le (by omega)] at hn
    exact hn

end Go.Proofs.Ytkoiolamnnmokaa

/- The walks of gambrelref04: identity, rows picked, joined, products. -/
set_option linter.unusedVariables false
set_option linter.unusedSimpArgs false
namespace Go.Proofs.Ytkoiolamnnmokaa
open Go Go.Gam


namespace FxFRef04b
end FxFRef04b
open FxFRef04b

end Go.Proofs.Ytkoiolamnnmokaa

/- What the statements of layer 9 call first. -/
set_option linter.unusedVariables false
set_option linter.unusedSimpArgs false
namespace Go.Proofs.Ytkoiolamnnmokaa
open Go Go.Gam


namespace FxFAw09
theorem en7 : Ent Try.prog 7 := ent Try.func7 (by kernel_rfl) (by kernel_rfl)
theorem en8 : Ent Try.prog 8 := ent Try.func8 (by kernel_rfl) (by kernel_rfl)
theorem en9 : Ent Try.prog 9 := ent Try.func9 (by kernel_rfl) (by kernel_rfl)
theorem en10 : Ent Try.prog 10 := ent Try.func10 (by kernel_rfl) (by kernel_rfl)
theorem en13 : Ent Try.prog 13 := ent Try.func13 (by kernel_rfl) (by kernel_rfl)
theorem en14 : Ent Try.prog 14 := ent Try.func14 (by kernel_rfl) (by kernel_rfl)
theorem fa36_0 : FieldFact Try.prog 36 0 0 := ff_of (sz := 0) Try.underlying36 (by kernel_rfl)
theorem fa36_1 : FieldFact Try.prog 36 1 1 := ff_of (sz := 0) Try.underlying36 (by kernel_rfl)
theorem fa36_4 : FieldFact Try.prog 36 4 4 := ff_of (sz := 0) Try.underlying36 (by kernel_rfl)
theorem sc3 : Scalar Try.prog 3 := ⟨_, Try.underlying3, by simp, by simp⟩
theorem sc9 : Scalar Try.prog 9 := ⟨_, Try.underlying9, by simp, by simp⟩
theorem sl23 : Sl Try.prog 23 3 (.int .i64 0) 8 := sl_of Try.underlying23 rfl (by kernel_rfl)
theorem sl26 : Sl Try.prog 26 23 (.slice none 0 0) 24 := sl_of Try.underlying26 rfl (by kernel_rfl)
theorem sl27 : Sl Try.prog 27 23 (.slice none 0 0) 24 := sl_of Try.underlying27 rfl (by kernel_rfl)
end FxFAw09
open FxFAw09

theorem Same4_t (B M : Nat) (pma : Option Addr) (cma : Nat) (ma : Mtx) (pmb : Option Addr) (cmb : Nat) (mb : Mtx) (w : World) (hI : Inv FDx B w) (hAma : Mat FDx B M w pma cma ma) (hAmb : Mat FDx B M w pmb cmb mb) (hlma : ma.length ≤ 1000) (hbma : ∀ r ∈ ma, r.length ≤ 1000) (e : ma = mb) :
  Ret Try.prog 9 [.slice pma ma.length cma, .slice pmb mb.length cmb] w fun v w' => v = .bool true ∧ St FDx B w w' :=
 (Same04_ok B M pma cma ma pmb cmb mb w hI hAma hAmb hlma hbma).mono fun v w' h => by rw [decide_eq_true e] at h; exact h

theorem Same4_n (B M : Nat) (pma : Option Addr) (cma na : Nat) (ma : Mtx) (pmb : Option Addr) (cmb nb : Nat) (mb : Mtx) (w : World) (hI : Inv FDx B w) (hAma : Mat FDx B M w pma cma ma) (hAmb : Mat FDx B M w pmb cmb mb) (hl : ma.length ≤ 1000 ∧ ∀ r ∈ ma, r.length ≤ 1000) (e : ma = mb) (hna : ma.length = na) (hnb : mb.length = nb) :
  Ret Try.prog 9 [.slice pma na cma, .slice pmb nb cmb] w fun v w' => v = .bool true ∧ St FDx B w w' := by
 subst hna; subst hnb; exact Same4_t B M pma cma ma pmb cmb mb w hI hAma hAmb hl.1 hl.2 e

set_option maxRecDepth 100000 in
set_option maxHeartbeats 1000000 in
theorem aw09_ok (B : Nat) (w : World) (hI : Inv FDx B w) : Ret Try.prog 6 [] w fun v w' => v = .bool true ∧ St FDx B w w' := by
 refine enter 51 [] 0 Try.func6 rfl rfl rfl rfl rfl ?_; intro a hF
 have hS := St.refl hI
 refine W_sr rfl (fun K hK => ?_)
 refine sv hF (v_assign rfl) rfl ?_; clear hF a; intro a hF
 refine WL_nil (hK _ _ ?_)
 clear hK K
 refine W_sr rfl (fun K hK => ?_)
 refine sc hF rfl rfl rfl en10 rfl (POf_ok B 3 _ hS.inv) ?_; clear hF a; intro v w' a hv hF
 obtain ⟨rfl, hS'⟩ := hv
 replace hS := hS.trans hS'
 clear hS'
 refine sv2 hF (v_move rfl) (v_ext rfl rfl) rfl rfl ?_; clear hF a; intro a hF
 refine sv hF ((v_ext rfl rfl).as (congrArg Value.bool (decide_eq_true (by decide)))) rfl ?_; clear hF a; intro a hF
 have hs0 := hS.ext.size
 refine s_allocN (D := FDx) (B := B) (z := .agg prz.toArray) hF (by kernel_rfl) (by decide) hS.inv rfl ?_; clear hF a; intro gp w' a hm hI' hp hF
 replace hS := hS.mb0 hm
 clear hm hI'
 have hghp := hp.low
 replace hp := hp.le hs0
 clear hs0
 refine s_storeN (D := FDx) (B := B) hF (by rw [List.size_toArray, prOf_len]; kernel_rfl) rfl rfl (prOf_one 3) (by rw [List.size_toArray, prOf_len]; rfl) hp hS.inv ?_; intro w' hm hI' hrc'
 replace hS := hS.mb hm (fun k h => by cases h; exact hp.low)
 replace hp := hrc'
 clear hm hI' hrc'
 refine sv hF (v_assign rfl) rfl ?_; clear hF a; intro a hF
 refine WL_nil (hK _ _ ?_)
 clear hK K
 replace hF := hF.sub _ (c_ 2 rfl (c_ 1 rfl (c_ 0 rfl (n_))))
 refine W_sr rfl (fun K hK => ?_)
 refine sv hF (v_build (cs := #[.int .i64 3, .int .i64 2, .int .i64 2]) rfl (by kernel_rfl)) rfl ?_; clear hF a; intro a hF
 refine sc hF rfl rfl rfl en7 rfl (PPar_ok B 3 2 2 _ hS.inv rfl) ?_; clear hF a; intro v w' a hv hF
 obtain ⟨sX, cX, rfl, hX, hS'⟩ := hv
 replace hp := hp.st hS'
 replace hS := hS.trans hS'
 clear hS'
 rw [aw9_par] at hX
 refine sv5 hF (v_move rfl) (v_ext rfl rfl) (v_ext rfl rfl) (v_assign rfl) (v_assign rfl) rfl rfl rfl rfl rfl ?_; clear hF a; intro a hF
 refine WL_nil (hK _ _ ?_)
 clear hK K
 replace hF := hF.sub _ (c_ 4 rfl (c_ 3 rfl (c_ 2 rfl (c_ 1 rfl (c_ 0 rfl (n_))))))
 refine W_sr rfl (fun K hK => ?_)
 refine sv2 hF (v_move rfl) (v_move rfl) rfl rfl ?_; clear hF a; intro a hF
 refine svg hF rfl ?_
 refine sv hF (v_fieldAddr fa36_0 rfl) rfl ?_; clear hF a; intro a hF
 refine svg hF rfl ?_
 refine sv hF (v_load sc9 rfl (hp.blk.at 0 rfl)) rfl ?_; clear hF a; intro a hF
 refine svg hF rfl ?_
 refine sv hF ((v_eqlS rfl rfl).as (congrArg Value.bool (rfl))) rfl ?_; clear hF a; intro a hF
 refine sv2 hF (v_pickT rfl rfl) (v_move rfl) rfl rfl ?_; clear hF a; intro a hF
 refine svg hF rfl ?_
 refine sv hF (v_fieldAddr fa36_1 rfl) rfl ?_; clear hF a; intro a hF
 refine svg hF rfl ?_
 refine sv hF (v_load sc3 rfl (hp.blk.at 1 rfl)) rfl ?_; clear hF a; intro a hF
 refine svg hF rfl ?_
 refine sv hF ((v_eql rfl rfl).as (congrArg Value.bool (decide_eq_true (rfl)))) rfl ?_; clear hF a; intro a hF
 refine sv2 hF (v_pickT rfl rfl) (v_move rfl) rfl rfl ?_; clear hF a; intro a hF
 refine svg hF rfl ?_
 refine sv hF (v_fieldAddr fa36_4 rfl) rfl ?_; clear hF a; intro a hF
 refine svg hF rfl ?_
 refine sv hF (v_load sc3 rfl (hp.blk.at 4 rfl)) rfl ?_; clear hF a; intro a hF
 refine svg hF rfl ?_
 refine sv hF ((v_eql rfl rfl).as (congrArg Value.bool (decide_eq_true (rfl)))) rfl ?_; clear hF a; intro a hF
 refine sv2 hF (v_pickT rfl rfl) (v_move rfl) rfl rfl ?_; clear hF a; intro a hF
 refine svg hF rfl ?_
 refine sv hF (v_move rfl) rfl ?_; clear hF a; intro a hF
 refine svg hF rfl ?_
 refine sv hF ((v_eql rfl rfl).as (congrArg Value.bool (decide_eq_true (rfl)))) rfl ?_; clear hF a; intro a hF
 refine sv2 hF (v_pickT rfl rfl) (v_move rfl) rfl rfl ?_; clear hF a; intro a hF
 refine svg hF rfl ?_
 refine sv hF (v_move rfl) rfl ?_; clear hF a; intro a hF
 refine svg hF rfl ?_
 refine s_bs (D := FDx) (B := B) hF sl23 rfl rfl (by decide) (by simp [Value.cells]) (by decide) hS.inv rfl ?_; clear hF a; intro w' a hm hI' h1 hF
 replace hp := hp.mb hm (by simp)
 replace hX := (hX.mb hm (fun _ h => by cases h)).mono hm.size
 replace hS := hS.mb0 hm
 clear hm hI'
 refine svg hF rfl ?_
 refine s_bs (D := FDx) (B := B) hF sl23 rfl rfl (by decide) (by simp [Value.cells]) (by decide) hS.inv rfl ?_; clear hF a; intro w' a hm hI' h2 hF
 replace hp := hp.mb hm (by simp)
 replace hX := (hX.mb hm (fun _ h => by cases h)).mono hm.size
 replace h1 := h1.mb hm (fun _ _ => by simp)
 replace hS := hS.mb0 hm
 clear hm hI'
 refine svg hF rfl ?_
 refine s_bs (D := FDx) (B := B) hF sl26 rfl rfl (by decide) (by simp [Value.cells]) (by decide) hS.inv rfl ?_; clear hF a; intro w' a hm hI' h3 hF
 replace hp := hp.mb hm (by simp)
 replace hX := (hX.mb hm (fun _ h => by cases h)).mono hm.size
 replace h1 := h1.mb hm (fun _ _ => by simp)
 replace h2 := h2.mb hm (fun _ _ => by simp)
 replace hS := hS.mb0 hm
 clear hm hI'
 refine svg hF rfl ?_
 refine sc hF rfl rfl rfl en9 rfl (Same4_t B _ _ _ [[1, 1], [1, 2]] _ _ [[1, 1], [1, 2]] _ hS.inv hX (Mat.two h3 (by decide) ((h1.cast (ys := zints [1, 1]) rfl).row (by decide)) ((h2.cast (ys := zints [1, 2]) rfl).row (by decide))) (aw6_len _ _ _ _).1 (aw6_len _ _ _ _).2 rfl) ?_; clear hF a; intro v w' a hv hF
 obtain ⟨rfl, hS'⟩ := hv
 replace hS := hS.trans hS'
 clear hS'
 refine sv2 hF (v_pickT rfl rfl) (v_move rfl) rfl rfl ?_; clear hF a; intro a hF
 refine svg hF rfl ?_
 refine sv hF (v_build (cs := #[.int .i64 3, .int .i64 2, .int .i64 4]) rfl (by kernel_rfl)) rfl ?_; clear hF a; intro a hF
 refine svg hF rfl ?_
 refine sc hF rfl rfl rfl en8 rfl (PMay_ok B 3 2 4 _ hS.inv) ?_; clear hF a; intro v w' a hv hF
 obtain ⟨rfl, hS'⟩ := hv
 replace hS := hS.trans hS'
 clear hS'
 rw [show mayP 3 2 4 = false from rfl] at hF
 refine svg hF rfl ?_
 refine sv hF (v_not rfl) rfl ?_; clear hF a; intro a hF
 refine sv2 hF (v_pickT rfl rfl) (v_move rfl) rfl rfl ?_; clear hF a; intro a hF
 refine svg hF rfl ?_
 refine sc hF rfl rfl rfl en13 rfl (PField_in B 2 _ hS.inv (by decide)) ?_; clear hF a; intro v w' a hv hF
 obtain ⟨fv, hfv⟩ : ∃ x, x = v := ⟨_, rfl⟩
 subst hfv
 obtain ⟨hf, hS'⟩ := hv
 replace hS := hS.trans hS'
 clear hS'
 refine svg hF rfl ?_
 refine sc hF rfl rfl rfl en14 rfl (Bits_ok B (some (pfl 2)) fv _ hf) ?_; clear hF a; intro v w' a hv hF
 obtain ⟨rfl, hw⟩ := hv
 obtain rfl := hw.symm
 have hS' := St.refl hS.inv
 replace hf := hf.st hS'
 replace hS := hS.trans hS'
 clear hS'
 refine svg hF rfl ?_
 refine sv hF ((v_eql rfl rfl).as (congrArg Value.bool (decide_eq_true (rfl)))) rfl ?_; clear hF a; intro a hF
 refine sv2 hF (v_pickT rfl rfl) (v_assign rfl) rfl rfl ?_; clear hF a; intro a hF
 refine WL_nil (hK _ _ ?_)
 clear hK K
 replace hF := hF.sub _ (c_ 0 rfl (n_))
 refine W_ret ?_
 refine ⟨_, _, hF, rfl, ?_⟩
 exact ⟨rfl, hS⟩

end Go.Proofs.Ytkoiolamnnmokaa

/- The statement ProfileTwins, walked: it returns true. -/
set_option linter.unusedVariables false
set_option linter.unusedSimpArgs false
namespace Go.Proofs.Ytkoiolamnnmokaa
open Go Go.Gam


namespace FxFProfileTwins
theorem en6 : Ent Try.prog 6 := ent Try.func6 (by kernel_rfl) (by kernel_rfl)
theorem en7 : Ent Try.prog 7 := ent Try.func7 (by kernel_rfl) (by kernel_rfl)
theorem en9 : Ent Try.prog 9 := ent Try.func9 (by kernel_rfl) (by kernel_rfl)
theorem en10 : Ent Try.prog 10 := ent Try.func10 (by kernel_rfl) (by kernel_rfl)
theorem fa25_0 : FieldFact Try.prog 25 0 0 := ff_of (sz := 0) Try.underlying25 (by kernel_rfl)
theorem fa25_2 : FieldFact Try.prog 25 2 2 := ff_of (sz := 0) Try.underlying25 (by kernel_rfl)
theorem fa36_0 : FieldFact Try.prog 36 0 0 := ff_of (sz := 0) Try.underlying36 (by kernel_rfl)
theorem fa36_3 : FieldFact Try.prog 36 3 3 := ff_of (sz := 0) Try.underlying36 (by kernel_rfl)
theorem on3 : Gam.One Try.prog 3 := by unfold Gam.One; kernel_rfl
theorem sc3 : Scalar Try.prog 3 := ⟨_, Try.underlying3, by simp, by simp⟩
theorem sc5 : Scalar Try.prog 5 := ⟨_, Try.underlying5, by simp, by simp⟩
theorem sc9 : Scalar Try.prog 9 := ⟨_, Try.underlying9, by simp, by simp⟩
theorem sl23 : Sl Try.prog 23 3 (.int .i64 0) 8 := sl_of Try.underlying23 rfl (by kernel_rfl)
theorem sl26 : Sl Try.prog 26 23 (.slice none 0 0) 24 := sl_of Try.underlying26 rfl (by kernel_rfl)
theorem sl27 : Sl Try.prog 27 23 (.slice none 0 0) 24 := sl_of Try.underlying27 rfl (by kernel_rfl)
end FxFProfileTwins
open FxFProfileTwins

set_option maxRecDepth 100000 in
set_option maxHeartbeats 1000000 in
theorem ProfileTwins_ok (B n0 n1 : Nat) (w : World) (hI : Inv FDx B w) (hn08 : n0 < 256) (hn18 : n1 < 256) : Ret Try.prog 4 [.int .u8 (n0 : Int), .int .u8 (n1 : Int)] w fun v w' => v = .bool true ∧ St FDx B w w' := by
 refine enter 85 [(0, .int .u8 (n0 : Int)), (1, .int .u8 (n1 : Int))] 4 Try.func4 rfl rfl rfl rfl rfl ?_; intro a hF
 have hS := St.refl hI
 refine W_sr rfl (fun K hK => ?_)
 refine sv hF (v_assign rfl) rfl ?_; clear hF a; intro a hF
 refine WL_nil (hK _ _ ?_)
 clear hK K
 refine W_sr rfl (fun K hK => ?_)
 refine sc hF rfl rfl rfl en6 rfl (aw09_ok B _ hS.inv) ?_; clear hF a; intro v w' a hv hF
 obtain ⟨rfl, hS'⟩ := hv
 replace hS := hS.trans hS'
 clear hS'
 refine sv hF (v_assign rfl) rfl ?_; clear hF a; intro a hF
 refine WL_nil (hK _ _ ?_)
 clear hK K
 replace hF := hF.sub _ (c_ 5 rfl (c_ 4 rfl (c_ 0 rfl (c_ 1 rfl (n_)))))
 refine W_sr rfl (fun K hK => ?_)
 refine sv hF (v_move rfl) rfl ?_; clear hF a; intro a hF
 refine sv hF (v_cv Try.underlying5 Try.underlying3 rfl (wrap_i64 _ (by omega))) rfl ?_; clear hF a; intro a hF
 refine sv hF (v_remI rfl rfl (by omega) (by omega)) rfl ?_; clear hF a; intro a hF
 refine sv hF (v_addI rfl rfl (by omega)) rfl ?_; clear hF a; intro a hF
 obtain ⟨kn, hkn⟩ : ∃ n : Nat, 1 + (n0 : Int) % 8 = (n : Int) := ⟨1 + n0 % 8, by omega⟩
 have hkn2 : 1 ≤ kn ∧ kn ≤ 8 := by omega
 rw [hkn] at hF
 refine sv hF (v_move rfl) rfl ?_; clear hF a; intro a hF
 refine sv hF (v_cv Try.underlying5 Try.underlying3 rfl (wrap_i64 _ (by omega))) rfl ?_; clear hF a; intro a hF
 refine sv hF (v_remI rfl rfl (by omega) (by omega)) rfl ?_; clear hF a; intro a hF
 refine sv hF (v_addI rfl rfl (by omega)) rfl ?_; clear hF a; intro a hF
 obtain ⟨mn, hmn⟩ : ∃ n : Nat, 1 + (n1 : Int) % 4 = (n : Int) := ⟨1 + n1 % 4, by omega⟩
 have hmn2 : 1 ≤ mn ∧ mn ≤ 4 := by omega
 rw [hmn] at hF
 refine sv hF (v_build (cs := #[.int .i64 5, .int .i64 (kn : Int), .int .i64 (mn : Int)]) rfl (by kernel_rfl)) rfl ?_; clear hF a; intro a hF
 have hs0 := hS.ext.size
 refine s_allocN (D := FDx) (B := B) (z := .agg #[.int .i64 0, .int .i64 0, .int .i64 0]) hF (by kernel_rfl) (by decide) hS.inv rfl ?_; clear hF a; intro gx w' a hm hI' hx hF
 replace hS := hS.mb0 hm
 clear hm hI'
 have hghx := hx.low
 replace hx := hx.le hs0
 clear hs0
 refine s_storeN (D := FDx) (B := B) hF (by kernel_rfl) rfl rfl (rfl) (by rfl) hx hS.inv ?_; intro w' hm hI' hrc'
 replace hS := hS.mb hm (fun k h => by cases h; exact hx.low)
 replace hx := hrc'
 clear hm hI' hrc'
 refine WL_nil (hK _ _ ?_)
 clear hK K
 replace hF := hF.sub _ (c_ 6 rfl (c_ 5 rfl (c_ 4 rfl (n_))))
 refine W_sr rfl (fun K hK => ?_)
 refine sv hF (v_loadN Try.underlying25 rfl (by kernel_rfl) rfl hx.blk) rfl ?_; clear hF a; intro a hF
 have hs0 := hS.ext.size
 have hgx := heap_lt hx.blk
 refine s_allocN (D := FDx) (B := B) (z := .agg #[.int .i64 0, .int .i64 0, .int .i64 0]) hF (by kernel_rfl) (by decide) hS.inv rfl ?_; clear hF a; intro gy w' a hm hI' hy hF
 replace hx := hx.mb hm (by simp)
 replace hS := hS.mb0 hm
 clear hm hI'
 have hghy := hy.low
 replace hy := hy.le hs0
 clear hs0
 refine s_storeN (D := FDx) (B := B) hF (by kernel_rfl) rfl rfl (rfl) (by rfl) hy hS.inv ?_; intro w' hm hI' hrc'
 replace hx := hx.mb hm (by simp; omega)
 replace hS := hS.mb hm (fun k h => by cases h; exact hy.low)
 replace hy := hrc'
 clear hm hI' hrc'
 refine WL_nil (hK _ _ ?_)
 clear hK K
 replace hF := hF.sub _ (c_ 7 rfl (c_ 6 rfl (c_ 5 rfl (c_ 4 rfl (n_)))))
 refine W_sr rfl (fun K hK => ?_)
 refine sv hF (v_fieldAddr fa25_0 rfl) rfl ?_; clear hF a; intro a hF
 refine s_storeF (D := FDx) (B := B) hF on3 rfl rfl (rfl) (i := 0) (by simp) hy hS.inv ?_; intro w' hm hI' hrc'
 replace hx := hx.mb hm (by simp; omega)
 replace hS := hS.mb hm (fun k h => by cases h; exact hy.low)
 replace hy := hrc'
 clear hm hI' hrc'
 refine WL_nil (hK _ _ ?_)
 clear hK K
 replace hF := hF.sub _ (c_ 7 rfl (c_ 6 rfl (c_ 5 rfl (c_ 4 rfl (n_)))))
 refine W_sr rfl (fun K hK => ?_)
 refine sv hF (v_loadN Try.underlying25 rfl (by kernel_rfl) rfl hx.blk) rfl ?_; clear hF a; intro a hF
 refine sc hF rfl rfl rfl en7 rfl (PPar_ok B 5 kn mn _ hS.inv (mayP_is (by decide) hkn2 (by omega) (by omega))) ?_; clear hF a; intro v w' a hv hF
 obtain ⟨sX, cX, rfl, hX, hS'⟩ := hv
 replace hx := hx.st hS'
 replace hy := hy.st hS'
 replace hS := hS.trans hS'
 clear hS'
 refine sv5 hF (v_move rfl) (v_ext rfl rfl) (v_ext rfl rfl) (v_assign rfl) (v_assign rfl) rfl rfl rfl rfl rfl ?_; clear hF a; intro a hF
 refine WL_nil (hK _ _ ?_)
 clear hK K
 replace hF := hF.sub _ (c_ 9 rfl (c_ 8 rfl (c_ 7 rfl (c_ 6 rfl (c_ 5 rfl (c_ 4 rfl (n_)))))))
 refine W_sr rfl (fun K hK => ?_)
 refine sv hF (v_loadN Try.underlying25 rfl (by kernel_rfl) rfl hy.blk) rfl ?_; clear hF a; intro a hF
 refine sc hF rfl rfl rfl en7 rfl (PPar_ok B 6 kn mn _ hS.inv (mayP_is (by decide) hkn2 (by omega) (by omega))) ?_; clear hF a; intro v w' a hv hF
 obtain ⟨sY, cY, rfl, hY, hS'⟩ := hv
 replace hx := hx.st hS'
 replace hy := hy.st hS'
 replace hX := (hX.st hS').mono hS'.ext.size
 replace hS := hS.trans hS'
 clear hS'
 refine sv5 hF (v_move rfl) (v_ext rfl rfl) (v_ext rfl rfl) (v_assign rfl) (v_assign rfl) rfl rfl rfl rfl rfl ?_; clear hF a; intro a hF
 refine WL_nil (hK _ _ ?_)
 clear hK K
 replace hF := hF.sub _ (c_ 11 rfl (c_ 10 rfl (c_ 9 rfl (c_ 8 rfl (c_ 7 rfl (c_ 6 rfl (c_ 5 rfl (c_ 4 rfl (n_)))))))))
 refine W_sr rfl (fun K hK => ?_)
 refine sv hF (v_fieldAddr fa25_0 rfl) rfl ?_; clear hF a; intro a hF
 refine sv hF (v_load sc3 rfl (hx.blk.at 0 rfl)) rfl ?_; clear hF a; intro a hF
 refine sc hF rfl rfl rfl en10 rfl (POf_ok B 5 _ hS.inv) ?_; clear hF a; intro v w' a hv hF
 obtain ⟨rfl, hS'⟩ := hv
 replace hx := hx.st hS'
 replace hy := hy.st hS'
 replace hX := (hX.st hS').mono hS'.ext.size
 replace hY := (hY.st hS').mono hS'.ext.size
 replace hS := hS.trans hS'
 clear hS'
 refine sv3 hF (v_move rfl) (v_ext rfl rfl) (v_ext rfl rfl) rfl rfl rfl ?_; clear hF a; intro a hF
 obtain ⟨KM, hKe⟩ : ∃ K, K = w'.heap.size := ⟨_, rfl⟩
 rw [← hKe] at hX hY
 have hs0 := hS.ext.size
 rw [← hKe] at hs0
 have hKs : KM ≤ w'.heap.size := by omega
 have hgx := heap_lt hx.blk
 have hgy := heap_lt hy.blk
 refine s_allocN (D := FDx) (B := B) (z := .agg prz.toArray) hF (by kernel_rfl) (by decide) hS.inv rfl ?_; clear hF a; intro gp w' a hm hI' hp hF
 replace hx := hx.mb hm (by simp)
 replace hy := hy.mb hm (by simp)
 replace hX := hX.mb hm (fun _ h => by cases h)
 replace hY := hY.mb hm (fun _ h => by cases h)
 replace hKs := Nat.le_trans hKs hm.size
 replace hS := hS.mb0 hm
 clear hm hI'
 rw [← hKe] at hp hgx hgy
 clear hKe
 refine s_storeN (D := FDx) (B := B) hF (by rw [List.size_toArray, prOf_len]; kernel_rfl) rfl rfl (prOf_one 5) (by rw [List.size_toArray, prOf_len]; rfl) hp hS.inv ?_; intro w' hm hI' hrc'
 replace hx := hx.mb hm (by simp; have := hp.low; omega)
 replace hy := hy.mb hm (by simp; have := hp.low; omega)
 replace hX := hX.mb hm (fun k h => by cases h; exact Nat.le_trans (Nat.le_refl _) hp.low)
 replace hY := hY.mb hm (fun k h => by cases h; exact Nat.le_trans (Nat.le_refl _) hp.low)
 replace hKs := Nat.le_trans hKs hm.size
 replace hS := hS.mb hm (fun k h => by cases h; exact Nat.le_trans hs0 hp.low)
 replace hp := hrc'
 clear hm hI' hrc'
 refine sv hF (v_assign rfl) rfl ?_; clear hF a; intro a hF
 refine WL_nil (hK _ _ ?_)
 clear hK K
 replace hF := hF.sub _ (c_ 12 rfl (c_ 11 rfl (c_ 10 rfl (c_ 9 rfl (c_ 8 rfl (c_ 7 rfl (c_ 6 rfl (c_ 5 rfl (c_ 4 rfl (n_))))))))))
 refine W_sr rfl (fun K hK => ?_)
 refine sv hF (v_fieldAddr fa25_0 rfl) rfl ?_; clear hF a; intro a hF
 refine sv hF (v_load sc3 rfl (hy.blk.at 0 rfl)) rfl ?_; clear hF a; intro a hF
 refine sc hF rfl rfl rfl en10 rfl (POf_ok B 6 _ hS.inv) ?_; clear hF a; intro v w' a hv hF
 obtain ⟨rfl, hS'⟩ := hv
 replace hx := hx.st hS'
 replace hy := hy.st hS'
 replace hX := hX.st hS'
 replace hY := hY.st hS'
 replace hKs := Nat.le_trans hKs hS'.ext.size
 replace hp := hp.st hS'
 replace hS := hS.trans hS'
 clear hS'
 refine sv3 hF (v_move rfl) (v_ext rfl rfl) (v_ext rfl rfl) rfl rfl rfl ?_; clear hF a; intro a hF
 have hs1 := hS.ext.size
 have hgx := heap_lt hx.blk
 have hgy := heap_lt hy.blk
 have hgp := heap_lt hp.blk
 have hK1 := hKs
 refine s_allocN (D := FDx) (B := B) (z := .agg prz.toArray) hF (by kernel_rfl) (by decide) hS.inv rfl ?_; clear hF a; intro gq w' a hm hI' hq hF
 replace hx := hx.mb hm (by simp)
 replace hy := hy.mb hm (by simp)
 replace hX := hX.mb hm (fun _ h => by cases h)
 replace hY := hY.mb hm (fun _ h => by cases h)
 replace hKs := Nat.le_trans hKs hm.size
 replace hp := hp.mb hm (by simp)
 replace hS := hS.mb0 hm
 clear hm hI'
 refine s_storeN (D := FDx) (B := B) hF (by rw [List.size_toArray, prOf_len]; kernel_rfl) rfl rfl (prOf_one 6) (by rw [List.size_toArray, prOf_len]; rfl) hq hS.inv ?_; intro w' hm hI' hrc'
 replace hx := hx.mb hm (by simp; have := hq.low; omega)
 replace hy := hy.mb hm (by simp; have := hq.low; omega)
 replace hX := hX.mb hm (fun k h => by cases h; exact Nat.le_trans (hK1) hq.low)
 replace hY := hY.mb hm (fun k h => by cases h; exact Nat.le_trans (hK1) hq.low)
 replace hKs := Nat.le_trans hKs hm.size
 replace hp := hp.mb hm (by simp; have := hq.low; omega)
 replace hS := hS.mb hm (fun k h => by cases h; exact Nat.le_trans hs1 hq.low)
 replace hq := hrc'
 clear hm hI' hrc'
 refine sv hF (v_assign rfl) rfl ?_; clear hF a; intro a hF
 refine WL_nil (hK _ _ ?_)
 clear hK K
 replace hF := hF.sub _ (c_ 14 rfl (c_ 12 rfl (c_ 11 rfl (c_ 10 rfl (c_ 9 rfl (c_ 8 rfl (c_ 6 rfl (c_ 5 rfl (c_ 4 rfl (n_))))))))))
 refine W_sr rfl (fun K hK => ?_)
 refine sv2 hF (v_move rfl) (v_move rfl) rfl rfl ?_; clear hF a; intro a hF
 refine svg hF rfl ?_
 refine sv hF (v_move rfl) rfl ?_; clear hF a; intro a hF
 refine svg hF rfl ?_
 refine sv hF ((v_eql rfl rfl).as (congrArg Value.bool (decide_eq_true (rfl)))) rfl ?_; clear hF a; intro a hF
 refine sv2 hF (v_pickT rfl rfl) (v_move rfl) rfl rfl ?_; clear hF a; intro a hF
 refine svg hF rfl ?_
 refine sv hF (v_move rfl) rfl ?_; clear hF a; intro a hF
 refine svg hF rfl ?_
 refine sv hF ((v_eql rfl rfl).as (congrArg Value.bool (decide_eq_true (rfl)))) rfl ?_; clear hF a; intro a hF
 refine sv2 hF (v_pickT rfl rfl) (v_move rfl) rfl rfl ?_; clear hF a; intro a hF
 refine svg hF rfl ?_
 refine sv hF (v_move rfl) rfl ?_; clear hF a; intro a hF
 refine svg hF rfl ?_
 refine sv hF (v_move rfl) rfl ?_; clear hF a; intro a hF
 refine svg hF rfl ?_
 refine sc hF rfl rfl rfl en9 rfl (Same4_n B _ _ _ mn (tab mn kn (prT 5 kn mn)) _ _ mn (tab mn kn (prT 6 kn mn)) _ hS.inv hX hY (len1k (tab_lens (by omega) (by omega))) rfl (tab_length _ _ _) (tab_length _ _ _)) ?_; clear hF a; intro v w' a hv hF
 obtain ⟨rfl, hS'⟩ := hv
 replace hx := hx.st hS'
 replace hy := hy.st hS'
 replace hX := hX.st hS'
 replace hY := hY.st hS'
 replace hKs := Nat.le_trans hKs hS'.ext.size
 replace hp := hp.st hS'
 replace hq := hq.st hS'
 replace hS := hS.trans hS'
 clear hS'
 refine sv2 hF (v_pickT rfl rfl) (v_move rfl) rfl rfl ?_; clear hF a; intro a hF
 refine svg hF rfl ?_
 refine sv hF (v_move rfl) rfl ?_; clear hF a; intro a hF
 refine svg hF rfl ?_
 refine sv hF (v_lenS rfl sl27 rfl) rfl ?_; clear hF a; intro a hF
 refine svg hF rfl ?_
 refine sv hF (v_fieldAddr fa25_2 rfl) rfl ?_; clear hF a; intro a hF
 refine svg hF rfl ?_
 refine sv hF (v_load sc3 rfl (hx.blk.at 2 rfl)) rfl ?_; clear hF a; intro a hF
 refine svg hF rfl ?_
 refine sv hF ((v_eql rfl rfl).as (congrArg Value.bool (decide_eq_true (rfl)))) rfl ?_; clear hF a; intro a hF
 refine sv2 hF (v_pickT rfl rfl) (v_move rfl) rfl rfl ?_; clear hF a; intro a hF
 refine svg hF rfl ?_
 refine sv hF (v_fieldAddr fa36_3 rfl) rfl ?_; clear hF a; intro a hF
 refine svg hF rfl ?_
 refine sv hF (v_load sc5 rfl (hp.blk.at 3 rfl)) rfl ?_; clear hF a; intro a hF
 refine svg hF rfl ?_
 refine sv hF (v_fieldAddr fa36_3 rfl) rfl ?_; clear hF a; intro a hF
 refine svg hF rfl ?_
 refine sv hF (v_load sc5 rfl (hq.blk.at 3 rfl)) rfl ?_; clear hF a; intro a hF
 refine svg hF rfl ?_
 refine sv hF ((v_neq rfl rfl).as (congrArg Value.bool (decide_eq_true (by decide)))) rfl ?_; clear hF a; intro a hF
 refine sv2 hF (v_pickT rfl rfl) (v_move rfl) rfl rfl ?_; clear hF a; intro a hF
 refine svg hF rfl ?_
 refine sv hF (v_fieldAddr fa36_0 rfl) rfl ?_; clear hF a; intro a hF
 refine svg hF rfl ?_
 refine sv hF (v_load sc9 rfl (hp.blk.at 0 rfl)) rfl ?_; clear hF a; intro a hF
 refine svg hF rfl ?_
 refine sv hF (v_fieldAddr fa36_0 rfl) rfl ?_; clear hF a; intro a hF
 refine svg hF rfl ?_
 refine sv hF (v_load sc9 rfl (hq.blk.at 0 rfl)) rfl ?_; clear hF a; intro a hF
 refine svg hF rfl ?_
 refine sv hF ((v_neqS rfl rfl).as (congrArg Value.bool (by show (_ : Bool) = true; decide))) rfl ?_; clear hF a; intro a hF
 refine sv2 hF (v_pickT rfl rfl) (v_assign rfl) rfl rfl ?_; clear hF a; intro a hF
 refine WL_nil (hK _ _ ?_)
 clear hK K
 replace hF := hF.sub _ (c_ 4 rfl (n_))
 refine W_ret ?_
 refine ⟨_, _, hF, rfl, ?_⟩
 exact ⟨rfl, hS⟩

end Go.Proofs.Ytkoiolamnnmokaa
