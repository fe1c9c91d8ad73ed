/- The walks of gambrelref04: products. -/
import Derived.Test.YtcnlooajjnghaaaGreatFRef04b
set_option linter.unusedVariables false
set_option linter.unusedSimpArgs false
namespace Go.Proofs.YtcnlooajjnghaaaGreat
open Go Go.Gam


namespace FxFRef04c
theorem en31 : Ent Tryz.prog 31 := ent Tryz.func31 (by kernel_rfl) (by kernel_rfl)
theorem en73 : Ent Tryz.prog 73 := ent Tryz.func73 (by kernel_rfl) (by kernel_rfl)
theorem hmix : Tryz.prog.follows .mixedOrders = true := by kernel_rfl
theorem sc23 : Scalar Tryz.prog 23 := ⟨_, Tryz.underlying23, by simp, by simp⟩
theorem sc3 : Scalar Tryz.prog 3 := ⟨_, Tryz.underlying3, by simp, by simp⟩
theorem sl22 : Sl Tryz.prog 22 23 (.slice none 0 0) 24 := sl_of Tryz.underlying22 rfl (by kernel_rfl)
theorem sl23 : Sl Tryz.prog 23 3 (.int .i64 0) 8 := sl_of Tryz.underlying23 rfl (by kernel_rfl)
end FxFRef04c
open FxFRef04c

set_option maxRecDepth 100000 in
set_option maxHeartbeats 1000000 in
theorem rMulM_ok (B M wb p : Nat) (hp : Prm wb p) (pma : Option Addr) (cma : Nat) (ma : Mtx) (pmb : Option Addr) (cmb : Nat) (mb : Mtx) (w : World) (hI : Inv FDx B w) (hM : M ≤ w.heap.size) (hAma : Mat FDx B M w pma cma ma) (hlma : ma.length ≤ 1000) (hbma : ∀ r ∈ ma, r.length ≤ 1000) (hAmb : Mat FDx B M w pmb cmb mb) (hlmb : mb.length ≤ 1000) (hbmb : ∀ r ∈ mb, r.length ≤ 1000) : Ret Tryz.prog 48 [.int .i64 (wb : Int), .int .u32 (p : Int), .slice pma ma.length cma, .slice pmb mb.length cmb] w fun v w' => ∃ ob u, v = .tuple #[u, .bool (mulM (some (wb, p)) ma mb).isSome] ∧ MOwn FDx B w.heap.size 0 w'.heap.size w' 23 u ob ((mulM (some (wb, p)) ma mb).getD []) ∧ St FDx B w w' := by
  refine enter2 83 [(0, .int .i64 (wb : Int)), (1, .int .u32 (p : Int)), (2, .slice pma ma.length cma), (3, .slice pmb mb.length cmb)] 8 9 Tryz.func48 rfl rfl rfl rfl rfl ?_; intro a hF
  have hS := St.refl hI
  refine W_sr rfl (fun K hK => ?_)
  refine sv hF (v_assign rfl) rfl ?_; clear hF a; intro a hF
  refine sv hF (v_assign rfl) rfl ?_; clear hF a; intro a hF
  refine WL_nil (hK _ _ ?_)
  clear hK K
  refine W_seq ?_
  refine W_sr rfl (fun K hK => ?_)
  refine sv hF (v_move rfl) rfl ?_; clear hF a; intro a hF
  refine sv hF (v_move rfl) rfl ?_; clear hF a; intro a hF
  refine sc hF rfl rfl rfl en31 rfl (rMay_ok B M wb p hp _ cma ma _ hS.inv hAma (Nat.le_trans hlma (by decide)) (fun r hr => Nat.le_trans (hbma r hr) (by decide))) ?_; clear hF a; intro v w' a hv hF
  obtain ⟨rfl, hS'⟩ := hv
  replace hAma := hAma.st hS'
  replace hAmb := hAmb.st hS'
  replace hS := hS.trans hS'
  clear hS'
  refine sb hF (v_not rfl) rfl ?_ ?_
  · clear hF a; intro hc1 a hF
    try simp only [decide_eq_true_eq, decide_eq_false_iff_not, Bool.not_eq_true', Bool.not_eq_false', Bool.not_true, Bool.not_false] at hc1
    refine sv hF (v_move rfl) rfl ?_; clear hF a; intro a hF
    refine svn hF rfl rfl rfl ?_; clear hF a; intro a hF
    refine svn hF rfl rfl rfl ?_; clear hF a; intro a hF
    refine svn hF rfl rfl rfl ?_; clear hF a; intro a hF
    refine svn hF rfl rfl rfl ?_; clear hF a; intro a hF
    refine sv hF (v_pickT rfl rfl) rfl ?_; clear hF a; intro a hF
    refine sv hF (v_move rfl) rfl ?_; clear hF a; intro a hF
    refine svn hF rfl rfl rfl ?_; clear hF a; intro a hF
    refine svn hF rfl rfl rfl ?_; clear hF a; intro a hF
    refine svn hF rfl rfl rfl ?_; clear hF a; intro a hF
    refine svn hF rfl rfl rfl ?_; clear hF a; intro a hF
    refine svn hF rfl rfl rfl ?_; clear hF a; intro a hF
    refine svn hF rfl rfl rfl ?_; clear hF a; intro a hF
    refine svn hF rfl rfl rfl ?_; clear hF a; intro a hF
    refine sv hF (v_pickT rfl rfl) rfl ?_; clear hF a; intro a hF
    refine WL_nil (hK _ _ ?_)
    clear hK K
    replace hF := hF.sub _ (c_ 34 rfl (c_ 9 rfl (c_ 8 rfl (c_ 0 rfl (c_ 1 rfl (c_ 2 rfl (c_ 3 rfl (n_))))))))
    refine W_ifT hF rfl ?_
    refine W_sr rfl (fun K hK => ?_)
    refine sv hF (v_assign rfl) rfl ?_; clear hF a; intro a hF
    refine sv hF (v_assign rfl) rfl ?_; clear hF a; intro a hF
    refine WL_nil (hK _ _ ?_)
    clear hK K
    replace hF := hF.sub _ (c_ 9 rfl (c_ 8 rfl (c_ 0 rfl (c_ 1 rfl (c_ 2 rfl (c_ 3 rfl (n_)))))))
    refine W_ret ?_
    refine ⟨_, _, _, hF, rfl, rfl, ?_⟩
    have hno : mulM (some (wb, p)) ma mb = none := mulM_f (.inl (by simpa using hc1))
    rw [hno]
    exact ⟨none, _, rfl, MOwn.nil _ _ _ _ _ _ _ (Nat.zero_le _), hS⟩
  · clear hF a; intro hc1 a hF
    try simp only [decide_eq_true_eq, decide_eq_false_iff_not, Bool.not_eq_true', Bool.not_eq_false', Bool.not_true, Bool.not_false] at hc1
    refine sv hF (v_move rfl) rfl ?_; clear hF a; intro a hF
    refine svg hF rfl ?_
    refine sv hF (v_move rfl) rfl ?_; clear hF a; intro a hF
    refine svg hF rfl ?_
    refine sv hF (v_move rfl) rfl ?_; clear hF a; intro a hF
    refine svg hF rfl ?_
    refine sc hF rfl rfl rfl en31 rfl (rMay_ok B M wb p hp _ cmb mb _ hS.inv hAmb (Nat.le_trans hlmb (by decide)) (fun r hr => Nat.le_trans (hbmb r hr) (by decide))) ?_; clear hF a; intro v w' a hv hF
    obtain ⟨rfl, hS'⟩ := hv
    replace hAma := hAma.st hS'
    replace hAmb := hAmb.st hS'
    replace hS := hS.trans hS'
    clear hS'
    refine svg hF rfl ?_
    refine sb hF (v_not rfl) rfl ?_ ?_
    · clear hF a; intro hc2 a hF
      try simp only [decide_eq_true_eq, decide_eq_false_iff_not, Bool.not_eq_true', Bool.not_eq_false', Bool.not_true, Bool.not_false] at hc2
      refine sv hF (v_pickF rfl rfl) rfl ?_; clear hF a; intro a hF
      refine sv hF (v_move rfl) rfl ?_; clear hF a; intro a hF
      refine svn hF rfl rfl rfl ?_; clear hF a; intro a hF
      refine svn hF rfl rfl rfl ?_; clear hF a; intro a hF
      refine svn hF rfl rfl rfl ?_; clear hF a; intro a hF
      refine svn hF rfl rfl rfl ?_; clear hF a; intro a hF
      refine svn hF rfl rfl rfl ?_; clear hF a; intro a hF
      refine svn hF rfl rfl rfl ?_; clear hF a; intro a hF
      refine svn hF rfl rfl rfl ?_; clear hF a; intro a hF
      refine sv hF (v_pickT rfl rfl) rfl ?_; clear hF a; intro a hF
      refine WL_nil (hK _ _ ?_)
      clear hK K
      replace hF := hF.sub _ (c_ 34 rfl (c_ 9 rfl (c_ 8 rfl (c_ 0 rfl (c_ 1 rfl (c_ 2 rfl (c_ 3 rfl (n_))))))))
      refine W_ifT hF rfl ?_
      refine W_sr rfl (fun K hK => ?_)
      refine sv hF (v_assign rfl) rfl ?_; clear hF a; intro a hF
      refine sv hF (v_assign rfl) rfl ?_; clear hF a; intro a hF
      refine WL_nil (hK _ _ ?_)
      clear hK K
      replace hF := hF.sub _ (c_ 9 rfl (c_ 8 rfl (c_ 0 rfl (c_ 1 rfl (c_ 2 rfl (c_ 3 rfl (n_)))))))
      refine W_ret ?_
      refine ⟨_, _, _, hF, rfl, rfl, ?_⟩
      have hno : mulM (some (wb, p)) ma mb = none := mulM_f (.inr (.inl (by simpa using hc2)))
      rw [hno]
      exact ⟨none, _, rfl, MOwn.nil _ _ _ _ _ _ _ (Nat.zero_le _), hS⟩
    · clear hF a; intro hc2 a hF
      try simp only [decide_eq_true_eq, decide_eq_false_iff_not, Bool.not_eq_true', Bool.not_eq_false', Bool.not_true, Bool.not_false] at hc2
      refine sv hF (v_pickF rfl rfl) rfl ?_; clear hF a; intro a hF
      refine sv hF (v_move rfl) rfl ?_; clear hF a; intro a hF
      refine svg hF rfl ?_
      have hm1 : mayM (some (wb, p)) ma = true := by simpa using hc1
      have hm2 : mayM (some (wb, p)) mb = true := by simpa using hc2
      have hp1 := mayM_pos hm1
      have hp2 := mayM_pos hm2
      obtain ⟨gma, oma, rfl⟩ := hAma.at1 (by omega)
      obtain ⟨r0ma, h0ma⟩ : ∃ r, ma[0]? = some r := ⟨_, List.getElem?_eq_getElem (by omega)⟩
      obtain ⟨p0ma, c0ma, hk0ma, hrow0ma, -⟩ := hAma.row2 h0ma
      have hwma := wid_at h0ma
      obtain ⟨gmb, omb, rfl⟩ := hAmb.at1 (by omega)
      obtain ⟨r0mb, h0mb⟩ : ∃ r, mb[0]? = some r := ⟨_, List.getElem?_eq_getElem (by omega)⟩
      obtain ⟨p0mb, c0mb, hk0mb, hrow0mb, -⟩ := hAmb.row2 h0mb
      have hwmb := wid_at h0mb
      refine sv hF (v_move rfl) rfl ?_; clear hF a; intro a hF
      refine svg hF rfl ?_
      refine sv hF (v_ixS sl22 rfl rfl (by decide) (by omega)) rfl ?_; clear hF a; intro a hF
      refine svg hF rfl ?_
      refine sv hF (v_load sc23 rfl hk0ma.c) rfl ?_; clear hF a; intro a hF
      refine svg hF rfl ?_
      refine sv hF (v_lenS rfl sl23 rfl) rfl ?_; clear hF a; intro a hF
      refine svg hF rfl ?_
      refine sv hF (v_move rfl) rfl ?_; clear hF a; intro a hF
      refine svg hF rfl ?_
      refine sv hF (v_lenS rfl sl22 rfl) rfl ?_; clear hF a; intro a hF
      refine svg hF rfl ?_
      refine sv hF (v_neq rfl rfl) rfl ?_; clear hF a; intro a hF
      refine sv hF (v_pickF rfl rfl) rfl ?_; clear hF a; intro a hF
      refine WL_nil (hK _ _ ?_)
      clear hK K
      replace hF := hF.sub _ (c_ 34 rfl (c_ 9 rfl (c_ 8 rfl (c_ 0 rfl (c_ 1 rfl (c_ 2 rfl (c_ 3 rfl (n_))))))))
      refine W_if hF rfl (fun hc3 => ?_) (fun hc3 => ?_)
      · skip
        try simp only [decide_eq_true_eq, decide_eq_false_iff_not, Bool.not_eq_true', Bool.not_eq_false', Bool.not_true, Bool.not_false] at hc3
        refine W_sr rfl (fun K hK => ?_)
        refine sv hF (v_assign rfl) rfl ?_; clear hF a; intro a hF
        refine sv hF (v_assign rfl) rfl ?_; clear hF a; intro a hF
        refine WL_nil (hK _ _ ?_)
        clear hK K
        replace hF := hF.sub _ (c_ 9 rfl (c_ 8 rfl (c_ 0 rfl (c_ 1 rfl (c_ 2 rfl (c_ 3 rfl (n_)))))))
        refine W_ret ?_
        refine ⟨_, _, _, hF, rfl, rfl, ?_⟩
        have hno : mulM (some (wb, p)) ma mb = none := mulM_f (.inr (.inr (by rw [hwma]; omega)))
        rw [hno]
        exact ⟨none, _, rfl, MOwn.nil _ _ _ _ _ _ _ (Nat.zero_le _), hS⟩
      · skip
        try simp only [decide_eq_true_eq, decide_eq_false_iff_not, Bool.not_eq_true', Bool.not_eq_false', Bool.not_true, Bool.not_false] at hc3
        refine W_skip ?_
        have hyes := mulM_t hm1 hm2 (by rw [hwma]; omega)
        refine W_sr rfl (fun K hK => ?_)
        refine sv hF (v_assign rfl) rfl ?_; clear hF a; intro a hF
        refine WL_nil (hK _ _ ?_)
        clear hK K
        replace hF := hF.sub _ (c_ 10 rfl (c_ 9 rfl (c_ 8 rfl (c_ 0 rfl (c_ 1 rfl (c_ 2 rfl (c_ 3 rfl (n_))))))))
        refine W_seq ?_
        refine W_sr rfl (fun K hK => ?_)
        refine sv hF (v_assign rfl) rfl ?_; clear hF a; intro a hF
        refine WL_nil (hK _ _ ?_)
        clear hK K
        refine W_block ?_
        refine W_loop (fun m a w1 => ∃ (i : Nat) (v10 : Value) (b10 : Option Nat), Fr 83 [(0, .int .i64 (wb : Int)), (1, .int .u32 (p : Int)), (2, .slice (some ⟨gma, oma, none⟩) ma.length cma), (3, .slice (some ⟨gmb, omb, none⟩) mb.length cmb), (10, v10), (11, .int .i64 (i : Int))] a ∧ (St FDx B w w1) ∧ (Mat FDx B M w1 (some ⟨gma, oma, none⟩) cma ma) ∧ (Mat FDx B M w1 (some ⟨gmb, omb, none⟩) cmb mb) ∧ (MOwn FDx B w.heap.size 0 w1.heap.size w1 23 v10 b10 ((ma.take i).map (mulRow (some (wb, p)) mb))) ∧ (i ≤ ma.length) ∧ (m + i = ma.length)) (ma.length) ?_ ?_
        · skip
          exact ⟨0, _, none, hF.sub _ (c_ 0 rfl (c_ 1 rfl (c_ 2 rfl (c_ 3 rfl (c_ 10 rfl (c_ 11 rfl (n_))))))), hS, hAma, hAmb, MOwn.nil _ _ _ _ _ _ _ (Nat.zero_le _), by omega, by omega⟩
        · skip
          clear hF
          clear hS hAma hAmb hk0ma hrow0ma hk0mb hrow0mb
          rintro m a w1 ⟨i, v10, b10, hF, hS, hAma, hAmb, hMO, hi, hm⟩
          refine W_seq ?_
          obtain ⟨KM, hKe⟩ : ∃ KM, KM = w1.heap.size := ⟨_, rfl⟩
          rw [← hKe] at hMO
          have hKs : KM ≤ w1.heap.size := by omega
          have hNK : w.heap.size ≤ KM := by have := hS.ext.size; omega
          clear hKe
          refine W_sr rfl (fun K hK => ?_)
          refine sv hF (v_move rfl) rfl ?_; clear hF a; intro a hF
          refine sv hF (v_move rfl) rfl ?_; clear hF a; intro a hF
          refine sv hF (v_lenS rfl sl22 rfl) rfl ?_; clear hF a; intro a hF
          refine sv hF (v_lss rfl rfl) rfl ?_; clear hF a; intro a hF
          refine WL_nil (hK _ _ ?_)
          clear hK K
          replace hF := hF.sub _ (c_ 38 rfl (c_ 0 rfl (c_ 1 rfl (c_ 2 rfl (c_ 3 rfl (c_ 10 rfl (c_ 11 rfl (n_))))))))
          refine W_if hF rfl (fun hc4 => ?_) (fun hc4 => ?_)
          · skip
            try simp only [decide_eq_true_eq, decide_eq_false_iff_not, Bool.not_eq_true', Bool.not_eq_false', Bool.not_true, Bool.not_false] at hc4
            obtain ⟨r, hr⟩ : ∃ z, ma[i]? = some z := ⟨_, List.getElem?_eq_getElem (by omega)⟩
            obtain ⟨pr, cr, hkr, hrowr, -⟩ := hAma.row2 hr
            have hrl := (hp1.2.2.2.2 r (List.mem_of_getElem? hr)).1
            refine W_skip ?_
            refine W_seq ?_
            refine W_block ?_
            refine W_sr rfl (fun K hK => ?_)
            refine sv hF (v_assign rfl) rfl ?_; clear hF a; intro a hF
            refine WL_nil (hK _ _ ?_)
            clear hK K
            replace hF := hF.sub _ (c_ 12 rfl (c_ 0 rfl (c_ 1 rfl (c_ 2 rfl (c_ 3 rfl (c_ 10 rfl (c_ 11 rfl (n_))))))))
            refine W_seq ?_
            refine W_sr rfl (fun K hK => ?_)
            refine sv hF (v_assign rfl) rfl ?_; clear hF a; intro a hF
            refine WL_nil (hK _ _ ?_)
            clear hK K
            refine W_block ?_
            refine W_loop (fun m2 a w2 => ∃ (j : Nat) (v12 : Value) (b12 : Option Nat), Fr 83 [(0, .int .i64 (wb : Int)), (1, .int .u32 (p : Int)), (2, .slice (some ⟨gma, oma, none⟩) ma.length cma), (3, .slice (some ⟨gmb, omb, none⟩) mb.length cmb), (10, v10), (11, .int .i64 (i : Int)), (12, v12), (13, .int .i64 (j : Int))] a ∧ (St FDx B w w2) ∧ (Mat FDx B M w2 (some ⟨gma, oma, none⟩) cma ma) ∧ (Mat FDx B M w2 (some ⟨gmb, omb, none⟩) cmb mb) ∧ (MOwn FDx B w.heap.size 0 KM w2 23 v10 b10 ((ma.take i).map (mulRow (some (wb, p)) mb))) ∧ (KM ≤ w2.heap.size) ∧ (Gam.Own FDx B KM w2 FDx.E v12 b12 (zints ((mulRow (some (wb, p)) mb r).take j))) ∧ (j ≤ wid mb) ∧ (m2 + j = wid mb)) (wid mb) ?_ ?_
            · skip
              exact ⟨0, _, none, hF.sub _ (c_ 0 rfl (c_ 1 rfl (c_ 2 rfl (c_ 3 rfl (c_ 10 rfl (c_ 11 rfl (c_ 12 rfl (c_ 13 rfl (n_))))))))), hS, hAma, hAmb, hMO, hKs, Gam.Own.nil _ _ _ _ _, by omega, by omega⟩
            · skip
              clear hF
              clear hS hAma hAmb hMO hKs hkr hrowr
              rintro m2 a w2 ⟨j, v12, b12, hF, hS, hAma, hAmb, hMO, hKs, hO, hj, hm2⟩
              refine W_seq ?_
              obtain ⟨p0, c0, hk0, -⟩ := hAmb.row2 h0mb
              refine W_sr rfl (fun K hK => ?_)
              refine sv hF (v_move rfl) rfl ?_; clear hF a; intro a hF
              refine sv hF (v_move rfl) rfl ?_; clear hF a; intro a hF
              refine sv hF (v_ixS sl22 rfl rfl (by decide) (by omega)) rfl ?_; clear hF a; intro a hF
              refine sv hF (v_load sc23 rfl hk0.c) rfl ?_; clear hF a; intro a hF
              refine sv hF (v_lenS rfl sl23 rfl) rfl ?_; clear hF a; intro a hF
              refine sv hF (v_lss rfl rfl) rfl ?_; clear hF a; intro a hF
              refine WL_nil (hK _ _ ?_)
              clear hK K
              replace hF := hF.sub _ (c_ 46 rfl (c_ 0 rfl (c_ 1 rfl (c_ 2 rfl (c_ 3 rfl (c_ 10 rfl (c_ 11 rfl (c_ 12 rfl (c_ 13 rfl (n_))))))))))
              refine W_if hF rfl (fun hc5 => ?_) (fun hc5 => ?_)
              · skip
                try simp only [decide_eq_true_eq, decide_eq_false_iff_not, Bool.not_eq_true', Bool.not_eq_false', Bool.not_true, Bool.not_false] at hc5
                clear hk0
                refine W_skip ?_
                refine W_seq ?_
                refine W_block ?_
                refine W_sr rfl (fun K hK => ?_)
                refine sv hF (v_assign rfl) rfl ?_; clear hF a; intro a hF
                refine WL_nil (hK _ _ ?_)
                clear hK K
                replace hF := hF.sub _ (c_ 14 rfl (c_ 0 rfl (c_ 1 rfl (c_ 2 rfl (c_ 3 rfl (c_ 10 rfl (c_ 11 rfl (c_ 12 rfl (c_ 13 rfl (n_))))))))))
                refine W_seq ?_
                refine W_sr rfl (fun K hK => ?_)
                refine sv hF (v_assign rfl) rfl ?_; clear hF a; intro a hF
                refine WL_nil (hK _ _ ?_)
                clear hK K
                refine W_block ?_
                refine W_loop (fun m3 a w3 => ∃ (k : Nat), Fr 83 [(0, .int .i64 (wb : Int)), (1, .int .u32 (p : Int)), (2, .slice (some ⟨gma, oma, none⟩) ma.length cma), (3, .slice (some ⟨gmb, omb, none⟩) mb.length cmb), (10, v10), (11, .int .i64 (i : Int)), (12, v12), (13, .int .i64 (j : Int)), (14, .int .i64 (dotP (some (wb, p)) r (colAt mb j) k : Int)), (15, .int .i64 (k : Int))] a ∧ (St FDx B w w3) ∧ (Mat FDx B M w3 (some ⟨gma, oma, none⟩) cma ma) ∧ (Mat FDx B M w3 (some ⟨gmb, omb, none⟩) cmb mb) ∧ (MOwn FDx B w.heap.size 0 KM w3 23 v10 b10 ((ma.take i).map (mulRow (some (wb, p)) mb))) ∧ (KM ≤ w3.heap.size) ∧ (Gam.Own FDx B KM w3 FDx.E v12 b12 (zints ((mulRow (some (wb, p)) mb r).take j))) ∧ (k ≤ r.length) ∧ (m3 + k = r.length)) (r.length) ?_ ?_
                · skip
                  exact ⟨0, hF.sub _ (c_ 0 rfl (c_ 1 rfl (c_ 2 rfl (c_ 3 rfl (c_ 10 rfl (c_ 11 rfl (c_ 12 rfl (c_ 13 rfl (c_ 14 rfl (c_ 15 rfl (n_))))))))))), hS, hAma, hAmb, hMO, hKs, hO, by omega, by omega⟩
                · skip
                  clear hF
                  clear hS hAma hAmb hMO hKs hO
                  rintro m3 a w3 ⟨k, hF, hS, hAma, hAmb, hMO, hKs, hO, hk, hm3⟩
                  refine W_seq ?_
                  refine W_sr rfl (fun K hK => ?_)
                  refine sv hF (v_move rfl) rfl ?_; clear hF a; intro a hF
                  refine sv hF (v_move rfl) rfl ?_; clear hF a; intro a hF
                  refine sv hF (v_lenS rfl sl22 rfl) rfl ?_; clear hF a; intro a hF
                  refine sv hF (v_lss rfl rfl) rfl ?_; clear hF a; intro a hF
                  refine WL_nil (hK _ _ ?_)
                  clear hK K
                  replace hF := hF.sub _ (c_ 52 rfl (c_ 0 rfl (c_ 1 rfl (c_ 2 rfl (c_ 3 rfl (c_ 10 rfl (c_ 11 rfl (c_ 12 rfl (c_ 13 rfl (c_ 14 rfl (c_ 15 rfl (n_))))))))))))
                  refine W_if hF rfl (fun hc6 => ?_) (fun hc6 => ?_)
                  · skip
                    try simp only [decide_eq_true_eq, decide_eq_false_iff_not, Bool.not_eq_true', Bool.not_eq_false', Bool.not_true, Bool.not_false] at hc6
                    obtain ⟨pr, cr, hkr, hrowr, -⟩ := hAma.row2 hr
                    obtain ⟨s, hs⟩ : ∃ z, mb[k]? = some z := ⟨_, List.getElem?_eq_getElem (by omega)⟩
                    obtain ⟨ps, cs, hks, hrows, -⟩ := hAmb.row2 hs
                    have hsl := (hp2.2.2.2.2 s (List.mem_of_getElem? hs)).1
                    obtain ⟨x, hx⟩ : ∃ z, r[k]? = some z := ⟨_, List.getElem?_eq_getElem (by omega)⟩
                    obtain ⟨gxx, oxx, hgxx, hkx, -⟩ := hrowr.kat (zints_at hx)
                    subst hgxx
                    obtain ⟨y, hy⟩ : ∃ z, s[j]? = some z := ⟨_, List.getElem?_eq_getElem (by omega)⟩
                    obtain ⟨gxy, oxy, hgxy, hky, -⟩ := hrows.kat (zints_at hy)
                    subst hgxy
                    have hst := dotP_step (o := (some (wb, p))) hx (colAt_at hs hy)
                    have hdl := dotN_ltP hp (r.take k) ((colAt mb j).take k)
                    refine W_skip ?_
                    refine W_seq ?_
                    refine W_block ?_
                    refine W_draw (m := 20) rfl hmix hS.inv (fun K hK w1 hS' hh => ?_)
                    replace hAma := hAma.st hS'
                    replace hAmb := hAmb.st hS'
                    replace hMO := hMO.st (by decide) hS'
                    replace hKs := Nat.le_trans hKs hS'.ext.size
                    replace hO := hO.st (by decide) hS'
                    replace hkr := hkr.st hS'
                    replace hks := hks.st hS'
                    replace hkx := hkx.st hS'
                    replace hky := hky.st hS'
                    replace hS := hS.trans hS'
                    clear hS'
                    clear hh
                    refine a_v (i := 0) rfl (by kernel_rfl) hF (fun w2 hx => v_move rfl) rfl ?_; clear hF a; intro a hF
                    refine a_v (i := 1) rfl (by kernel_rfl) hF (fun w2 hx => v_move rfl) rfl ?_; clear hF a; intro a hF
                    refine a_v (i := 2) rfl (by kernel_rfl) hF (fun w2 hx => v_move rfl) rfl ?_; clear hF a; intro a hF
                    refine a_v (i := 3) rfl (by kernel_rfl) hF (fun w2 hx => v_move rfl) rfl ?_; clear hF a; intro a hF
                    refine a_v (i := 4) rfl (by kernel_rfl) hF (fun w2 hx => v_move rfl) rfl ?_; clear hF a; intro a hF
                    refine a_v (i := 5) rfl (by kernel_rfl) hF (fun w2 hx => v_ixS sl22 rfl rfl (by omega) (by omega)) rfl ?_; clear hF a; intro a hF
                    refine a_v (i := 6) rfl (by kernel_rfl) hF (fun w2 hx => v_load sc23 rfl (by rw [toNat_c]; exact hkr.ld hx)) rfl ?_; clear hF a; intro a hF
                    refine a_v (i := 7) rfl (by kernel_rfl) hF (fun w2 hx => v_move rfl) rfl ?_; clear hF a; intro a hF
                    refine a_v (i := 8) rfl (by kernel_rfl) hF (fun w2 hx => v_ixS sl23 rfl rfl (by omega) (by omega)) rfl ?_; clear hF a; intro a hF
                    refine a_v (i := 9) rfl (by kernel_rfl) hF (fun w2 hx => v_load sc3 rfl (by rw [toNat_c]; exact hkx.ld hx)) rfl ?_; clear hF a; intro a hF
                    refine a_v (i := 10) rfl (by kernel_rfl) hF (fun w2 hx => v_move rfl) rfl ?_; clear hF a; intro a hF
                    refine a_v (i := 11) rfl (by kernel_rfl) hF (fun w2 hx => v_move rfl) rfl ?_; clear hF a; intro a hF
                    refine a_v (i := 12) rfl (by kernel_rfl) hF (fun w2 hx => v_ixS sl22 rfl rfl (by omega) (by omega)) rfl ?_; clear hF a; intro a hF
                    refine a_v (i := 13) rfl (by kernel_rfl) hF (fun w2 hx => v_load sc23 rfl (by rw [toNat_c]; exact hks.ld hx)) rfl ?_; clear hF a; intro a hF
                    refine a_v (i := 14) rfl (by kernel_rfl) hF (fun w2 hx => v_move rfl) rfl ?_; clear hF a; intro a hF
                    refine a_v (i := 15) rfl (by kernel_rfl) hF (fun w2 hx => v_ixS sl23 rfl rfl (by omega) (by omega)) rfl ?_; clear hF a; intro a hF
                    refine a_v (i := 16) rfl (by kernel_rfl) hF (fun w2 hx => v_load sc3 rfl (by rw [toNat_c]; exact hky.ld hx)) rfl ?_; clear hF a; intro a hF
                    refine a_e (i := 17) rfl (by kernel_rfl) ?_
                    refine sc hF rfl rfl rfl en73 rfl (rMul_gf B wb p x y _ hS.inv hp) ?_; clear hF a; intro v w' a hv hF
                    obtain ⟨rfl, hS'⟩ := hv
                    refine WL_nil ⟨hS'.ext, ?_⟩
                    replace hAma := hAma.st hS'
                    replace hAmb := hAmb.st hS'
                    replace hMO := hMO.st (by decide) hS'
                    replace hKs := Nat.le_trans hKs hS'.ext.size
                    replace hO := hO.st (by decide) hS'
                    replace hkr := hkr.st hS'
                    replace hks := hks.st hS'
                    replace hkx := hkx.st hS'
                    replace hky := hky.st hS'
                    replace hS := hS.trans hS'
                    clear hS'
                    obtain ⟨z, hz, hzl⟩ := gmul_nnP hp x y
                    rw [hz, Int.toNat_natCast] at hst
                    rw [hz] at hF
                    refine a_v (i := 18) rfl (by kernel_rfl) hF (fun w2 hx => (v_xorN (m := dotP (some (wb, p)) r (colAt mb j) k) (n := z) rfl rfl (fits_i64 (Nat.lt_of_lt_of_le hdl (by decide))) (fits_i64 (by omega))).as (congrArg (fun (q : Nat) => Value.int .i64 (q : Int)) hst.symm)) rfl ?_; clear hF a; intro a hF
                    refine a_v (i := 19) rfl (by kernel_rfl) hF (fun w2 hx => v_assign rfl) rfl ?_; clear hF a; intro a hF
                    refine a_done (by kernel_rfl) (hK _ _ ?_)
                    clear hK K
                    replace hF := hF.sub _ (c_ 14 rfl (c_ 0 rfl (c_ 1 rfl (c_ 2 rfl (c_ 3 rfl (c_ 10 rfl (c_ 11 rfl (c_ 12 rfl (c_ 13 rfl (c_ 15 rfl (n_)))))))))))
                    refine W_reg rfl (fun K hK => ?_)
                    refine sv hF (v_move rfl) rfl ?_; clear hF a; intro a hF
                    refine sv hF (v_addI rfl rfl (by omega)) rfl ?_; clear hF a; intro a hF
                    refine sv hF (v_assign rfl) rfl ?_; clear hF a; intro a hF
                    refine WL_nil (hK _ _ ?_)
                    clear hK K
                    exact ⟨m3 - 1, by omega, k + 1, hF.sub _ (c_ 0 rfl (c_ 1 rfl (c_ 2 rfl (c_ 3 rfl (c_ 10 rfl (c_ 11 rfl (c_ 12 rfl (c_ 13 rfl (c_ 14 rfl (c_ 15 rfl (n_))))))))))), hS, hAma, hAmb, hMO, hKs, hO, by omega, by omega⟩
                  · skip
                    try simp only [decide_eq_true_eq, decide_eq_false_iff_not, Bool.not_eq_true', Bool.not_eq_false', Bool.not_true, Bool.not_false] at hc6
                    obtain rfl : k = r.length := by omega
                    refine W_exit rfl ?_
                    have hul := mulRow_length (some (wb, p)) mb r
                    refine W_reg rfl (fun K hK => ?_)
                    refine sv hF (v_move rfl) rfl ?_; clear hF a; intro a hF
                    refine sv hF (v_move rfl) rfl ?_; clear hF a; intro a hF
                    refine s_bs (D := FDx) (B := B) hF sl23 rfl rfl (by decide) (by simp [Value.cells]) (by decide) hS.inv rfl ?_; clear hF a; intro w' a hm hI' hL hF
                    replace hAma := hAma.mb hm (fun _ h => by cases h)
                    replace hAmb := hAmb.mb hm (fun _ h => by cases h)
                    replace hMO := hMO.mb0 hm
                    replace hKs := Nat.le_trans hKs hm.size
                    replace hO := hO.mb hm (fun _ _ => by simp)
                    replace hS := hS.mb0 hm
                    clear hm hI'
                    refine s_app (D := FDx) (B := B) hF rfl sl23 rfl rfl hO (hL.row (by decide)) (by simp [Value.oneCell']) (by simp; omega) (by simp [maxLen]; omega) (hKs) (by decide) hS.inv rfl ?_; clear hF a; intro v' b' w' a ho' hm hI' hb' hF
                    replace hAma := hAma.mb hm (fun k h => Nat.le_trans (by omega) (hO.lt k h).1)
                    replace hAmb := hAmb.mb hm (fun k h => Nat.le_trans (by omega) (hO.lt k h).1)
                    replace hMO := hMO.mbo hm hO (by decide) (Nat.le_refl _) (Nat.zero_le _)
                    replace hKs := Nat.le_trans hKs hm.size
                    replace hS := hS.mb hm (fun k h => Nat.le_trans (hNK) (hO.lt k h).1)
                    replace hO := ho'
                    clear hm hI' ho'
                    refine sv hF (v_assign rfl) rfl ?_; clear hF a; intro a hF
                    refine WL_nil (hK _ _ ?_)
                    clear hK K
                    replace hF := hF.sub _ (c_ 12 rfl (c_ 77 rfl (c_ 76 rfl (c_ 75 rfl (c_ 74 rfl (c_ 0 rfl (c_ 1 rfl (c_ 2 rfl (c_ 3 rfl (c_ 10 rfl (c_ 11 rfl (c_ 13 rfl (c_ 14 rfl (c_ 15 rfl (n_)))))))))))))))
                    refine W_reg rfl (fun K hK => ?_)
                    refine sv hF (v_move rfl) rfl ?_; clear hF a; intro a hF
                    refine sv hF (v_addI rfl rfl (by omega)) rfl ?_; clear hF a; intro a hF
                    refine sv hF (v_assign rfl) rfl ?_; clear hF a; intro a hF
                    refine WL_nil (hK _ _ ?_)
                    clear hK K
                    exact ⟨m2 - 1, by omega, j + 1, _, _, hF.sub _ (c_ 0 rfl (c_ 1 rfl (c_ 2 rfl (c_ 3 rfl (c_ 10 rfl (c_ 11 rfl (c_ 12 rfl (c_ 13 rfl (n_))))))))), hS, hAma, hAmb, hMO, hKs, hO.cast (by rw [mulRow_snoc' (by omega) (by rw [colAt_length]; omega)]; simp [zints]), by omega, by omega⟩
              · skip
                try simp only [decide_eq_true_eq, decide_eq_false_iff_not, Bool.not_eq_true', Bool.not_eq_false', Bool.not_true, Bool.not_false] at hc5
                clear hk0
                refine W_exit rfl ?_
                obtain rfl : j = wid mb := by omega
                rw [List.take_of_length_le (by rw [mulRow_length]; omega)] at hO
                refine W_reg rfl (fun K hK => ?_)
                refine sv hF (v_move rfl) rfl ?_; clear hF a; intro a hF
                refine sv hF (v_move rfl) rfl ?_; clear hF a; intro a hF
                obtain ⟨a_, c_r, rfl⟩ := hO.shape
                refine s_bs (D := FDx) (B := B) hF sl22 rfl rfl (by decide) (by simp [Value.cells]) (by decide) hS.inv rfl ?_; clear hF a; intro w' a hm hI' hL hF
                replace hAma := hAma.mb hm (fun _ h => by cases h)
                replace hAmb := hAmb.mb hm (fun _ h => by cases h)
                replace hMO := hMO.mb0 hm
                replace hKs := Nat.le_trans hKs hm.size
                replace hO := hO.mb hm (fun _ _ => by simp)
                replace hS := hS.mb0 hm
                clear hm hI'
                replace hMO := hMO.up hKs
                clear hKs
                refine s_appM (D := FDx) (B := B) hF rfl sl22 rfl rfl hMO hL (.of hO (Nat.zero_le _)) rfl rfl (by simp; omega) (hS.ext.size) (by decide) (by decide) hS.inv rfl ?_; clear hF a; intro v' b' w' a ho' hm hI' hF
                replace hAma := hAma.mb hm (fun k h => Nat.le_trans (by omega) (hMO.lt k h).1)
                replace hAmb := hAmb.mb hm (fun k h => Nat.le_trans (by omega) (hMO.lt k h).1)
                replace hS := hS.mb hm (fun k h => (hMO.lt k h).1)
                have hKm := hm.size
                replace hMO := ho'
                clear hm hI' ho' hL
                refine sv hF (v_assign rfl) rfl ?_; clear hF a; intro a hF
                refine WL_nil (hK _ _ ?_)
                clear hK K
                replace hF := hF.sub _ (c_ 10 rfl (c_ 81 rfl (c_ 80 rfl (c_ 79 rfl (c_ 78 rfl (c_ 0 rfl (c_ 1 rfl (c_ 2 rfl (c_ 3 rfl (c_ 11 rfl (c_ 12 rfl (c_ 13 rfl (n_)))))))))))))
                refine W_reg rfl (fun K hK => ?_)
                refine sv hF (v_move rfl) rfl ?_; clear hF a; intro a hF
                refine sv hF (v_addI rfl rfl (by omega)) rfl ?_; clear hF a; intro a hF
                refine sv hF (v_assign rfl) rfl ?_; clear hF a; intro a hF
                refine WL_nil (hK _ _ ?_)
                clear hK K
                exact ⟨m - 1, by omega, i + 1, _, _, hF.sub _ (c_ 0 rfl (c_ 1 rfl (c_ 2 rfl (c_ 3 rfl (c_ 10 rfl (c_ 11 rfl (n_))))))), hS, hAma, hAmb, (hMO.up hKm).cast (map_snoc hr).symm, by omega, by omega⟩
          · skip
            try simp only [decide_eq_true_eq, decide_eq_false_iff_not, Bool.not_eq_true', Bool.not_eq_false', Bool.not_true, Bool.not_false] at hc4
            refine W_exit rfl ?_
            refine W_sr rfl (fun K hK => ?_)
            refine sv hF (v_move rfl) rfl ?_; clear hF a; intro a hF
            refine sv hF (v_assign rfl) rfl ?_; clear hF a; intro a hF
            refine sv hF (v_assign rfl) rfl ?_; clear hF a; intro a hF
            refine WL_nil (hK _ _ ?_)
            clear hK K
            replace hF := hF.sub _ (c_ 9 rfl (c_ 8 rfl (c_ 82 rfl (c_ 0 rfl (c_ 1 rfl (c_ 2 rfl (c_ 3 rfl (c_ 10 rfl (c_ 11 rfl (n_))))))))))
            refine W_ret ?_
            refine ⟨_, _, _, hF, rfl, rfl, ?_⟩
            obtain rfl : i = ma.length := by omega
            rw [List.take_length] at hMO
            rw [hyes]
            exact ⟨_, _, rfl, hMO.up hKs, hS⟩

end Go.Proofs.YtcnlooajjnghaaaGreat
