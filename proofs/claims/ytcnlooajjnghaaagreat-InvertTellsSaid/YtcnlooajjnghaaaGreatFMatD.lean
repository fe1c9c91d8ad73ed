/- The walk of package matrix: Mul. -/
import Derived.Test.YtcnlooajjnghaaaGreatFMatC
set_option linter.unusedVariables false
set_option linter.unusedSimpArgs false
namespace Go.Proofs.YtcnlooajjnghaaaGreat
open Go Go.Gam


namespace FxFMatD
theorem en34 : Ent Tryz.prog 34 := ent Tryz.func34 (by kernel_rfl) (by kernel_rfl)
theorem en71 : Ent Tryz.prog 71 := ent Tryz.func71 (by kernel_rfl) (by kernel_rfl)
theorem en72 : Ent Tryz.prog 72 := ent Tryz.func72 (by kernel_rfl) (by kernel_rfl)
theorem hmix : Tryz.prog.follows .mixedOrders = true := by kernel_rfl
theorem on23 : Gam.One Tryz.prog 23 := by unfold Gam.One; kernel_rfl
theorem sc23 : Scalar Tryz.prog 23 := ⟨_, Tryz.underlying23, by simp, by simp⟩
theorem sc26 : Scalar Tryz.prog 26 := ⟨_, Tryz.underlying26, by simp, by simp⟩
theorem sl22 : Sl Tryz.prog 22 23 (.slice none 0 0) 24 := sl_of Tryz.underlying22 rfl (by kernel_rfl)
theorem sl23 : Sl Tryz.prog 23 3 (.int .i64 0) 8 := sl_of Tryz.underlying23 rfl (by kernel_rfl)
theorem sl30 : Sl Tryz.prog 30 23 (.slice none 0 0) 24 := sl_of Tryz.underlying30 rfl (by kernel_rfl)
theorem zv23 : Zv Tryz.prog 23 (.slice none 0 0) := zv_of rfl (by kernel_rfl)
end FxFMatD
open FxFMatD

set_option maxRecDepth 100000 in
set_option maxHeartbeats 1000000 in
theorem MulM_ok (B M : Nat) (o : Fq) (fv : Value) (pma : Option Addr) (cma : Nat) (ma : Mtx) (pmb : Option Addr) (cmb : Nat) (mb : Mtx) (w : World) (hI : Inv FDx B w) (hM : M ≤ w.heap.size) (hf : Fo FDx B w fv o) (hAma : Mat FDx B M w pma cma ma) (hlma : ma.length ≤ maxLen) (hbma : ∀ r ∈ ma, r.length ≤ maxLen) (hAmb : Mat FDx B M w pmb cmb mb) (hlmb : mb.length ≤ maxLen) (hbmb : ∀ r ∈ mb, r.length ≤ maxLen) : Ret Tryz.prog 46 [fv, .slice pma ma.length cma, .slice pmb mb.length cmb] w fun v w' => ∃ ob u, v = .tuple #[u, .int .i64 (errV (mulM o ma mb))] ∧ MOwn FDx B w.heap.size 0 w'.heap.size w' 23 u ob ((mulM o ma mb).getD []) ∧ St FDx B w w' := by
  refine enterM2 (D := FDx) (B := B) w.heap.size 54 [(0, fv), (1, .slice pma ma.length cma), (2, .slice pmb mb.length cmb)] 6 7 Tryz.func46 rfl rfl rfl rfl rfl ?_; intro a hF
  have hS := St.refl hI
  have hl2 := hlma
  have hl3 := hlmb
  simp only [maxLen] at hl2 hl3
  have hMk := Mk.nil w.heap.size w
  refine W_sr rfl (fun K hK => ?_)
  obtain ⟨g3, hg3⟩ : ∃ g, g = w.heap.size := ⟨_, rfl⟩
  refine s_boxN (D := FDx) (B := B) hF rfl (hf.cells1) (by decide) hS.inv rfl ?_; clear hF a; intro w' a hm hI' hb3 hsz hF
  replace hf := hf.mb hm
  replace hAma := hAma.mb hm (fun _ h => by cases h)
  replace hAmb := hAmb.mb hm (fun _ h => by cases h)
  replace hMk := hMk.mb hm (fun k e => by cases e)
  replace hS := hS.mb0 hm
  clear hm hI' hsz
  rw [← hg3] at hb3 hF
  refine sv hF (v_assign rfl) rfl ?_; clear hF a; intro a hF
  refine sv hF (v_assign rfl) rfl ?_; clear hF a; intro a hF
  refine WL_nil (hK _ _ ?_)
  clear hK K
  replace hF := hF.sub _ (c_ 7 rfl (c_ 6 rfl (c_ 3 rfl (c_ 1 rfl (c_ 2 rfl (n_))))))
  refine W_seq ?_
  refine W_sr rfl (fun K hK => ?_)
  refine sv hF (v_load sc26 rfl (by first | assumption | (rw [toNat_c]; assumption) | exact KC.c (by assumption) | (rw [toNat_c]; exact KC.c (by assumption)) | exact Box.at (by assumption))) rfl ?_; clear hF a; intro a hF
  refine sv hF (v_move rfl) rfl ?_; clear hF a; intro a hF
  refine sc hF rfl rfl rfl en34 rfl (May_ok B M o fv pma cma ma _ hS.inv hf hAma hlma hbma) ?_; clear hF a; intro v w' a hv hF
  obtain ⟨rfl, hS'⟩ := hv
  replace hf := hf.st hS'
  replace hAma := hAma.st hS'
  replace hAmb := hAmb.st hS'
  replace hMk := hMk.st hS'
  replace hb3 := hb3.st hS'
  replace hS := hS.trans hS'
  clear hS'
  refine sb hF (v_not rfl) rfl ?_ ?_
  · clear hF a; intro hc1 a hF
    try simp only [decide_eq_true_eq, decide_eq_false_iff_not, Bool.not_eq_true', Bool.not_eq_false', Bool.not_true, Bool.not_false] at hc1
    refine sv hF (v_move rfl) rfl ?_; clear hF a; intro a hF
    refine svn hF rfl rfl rfl ?_; clear hF a; intro a hF
    refine svn hF rfl rfl rfl ?_; clear hF a; intro a hF
    refine svn hF rfl rfl rfl ?_; clear hF a; intro a hF
    refine svn hF rfl rfl rfl ?_; clear hF a; intro a hF
    refine sv hF (v_pickT rfl rfl) rfl ?_; clear hF a; intro a hF
    refine sv hF (v_move rfl) rfl ?_; clear hF a; intro a hF
    refine svn hF rfl rfl rfl ?_; clear hF a; intro a hF
    refine svn hF rfl rfl rfl ?_; clear hF a; intro a hF
    refine svn hF rfl rfl rfl ?_; clear hF a; intro a hF
    refine svn hF rfl rfl rfl ?_; clear hF a; intro a hF
    refine svn hF rfl rfl rfl ?_; clear hF a; intro a hF
    refine svn hF rfl rfl rfl ?_; clear hF a; intro a hF
    refine svn hF rfl rfl rfl ?_; clear hF a; intro a hF
    refine sv hF (v_pickT rfl rfl) rfl ?_; clear hF a; intro a hF
    refine WL_nil (hK _ _ ?_)
    clear hK K
    replace hF := hF.sub _ (c_ 31 rfl (c_ 7 rfl (c_ 6 rfl (c_ 3 rfl (c_ 1 rfl (c_ 2 rfl (n_)))))))
    refine W_ifT hF rfl ?_
    refine W_sr rfl (fun K hK => ?_)
    refine sv hF (v_assign rfl) rfl ?_; clear hF a; intro a hF
    refine sv hF (v_assign rfl) rfl ?_; clear hF a; intro a hF
    refine WL_nil (hK _ _ ?_)
    clear hK K
    replace hF := hF.sub _ (c_ 7 rfl (c_ 6 rfl (c_ 3 rfl (c_ 1 rfl (c_ 2 rfl (n_))))))
    refine W_ret ?_
    refine ⟨_, _, _, _, hMk, hS.inv, hF, rfl, rfl, fun w2 hX => ?_⟩
    have hno : mulM o ma mb = none := mulM_f (.inl (by simpa using hc1))
    rw [hno]
    exact ⟨none, _, rfl, MOwn.nil _ _ _ _ _ _ _ (Nat.zero_le _), hS.thenX hX (Nat.le_refl _)⟩
  · clear hF a; intro hc1 a hF
    try simp only [decide_eq_true_eq, decide_eq_false_iff_not, Bool.not_eq_true', Bool.not_eq_false', Bool.not_true, Bool.not_false] at hc1
    refine sv hF (v_move rfl) rfl ?_; clear hF a; intro a hF
    refine svg hF rfl ?_
    refine sv hF (v_load sc26 rfl (by first | assumption | (rw [toNat_c]; assumption) | exact KC.c (by assumption) | (rw [toNat_c]; exact KC.c (by assumption)) | exact Box.at (by assumption))) rfl ?_; clear hF a; intro a hF
    refine svg hF rfl ?_
    refine sv hF (v_move rfl) rfl ?_; clear hF a; intro a hF
    refine svg hF rfl ?_
    refine sc hF rfl rfl rfl en34 rfl (May_ok B M o fv pmb cmb mb _ hS.inv hf hAmb hlmb hbmb) ?_; clear hF a; intro v w' a hv hF
    obtain ⟨rfl, hS'⟩ := hv
    replace hf := hf.st hS'
    replace hAma := hAma.st hS'
    replace hAmb := hAmb.st hS'
    replace hMk := hMk.st hS'
    replace hb3 := hb3.st hS'
    replace hS := hS.trans hS'
    clear hS'
    refine svg hF rfl ?_
    refine sb hF (v_not rfl) rfl ?_ ?_
    · clear hF a; intro hc2 a hF
      try simp only [decide_eq_true_eq, decide_eq_false_iff_not, Bool.not_eq_true', Bool.not_eq_false', Bool.not_true, Bool.not_false] at hc2
      refine sv hF (v_pickF rfl rfl) rfl ?_; clear hF a; intro a hF
      refine sv hF (v_move rfl) rfl ?_; clear hF a; intro a hF
      refine svn hF rfl rfl rfl ?_; clear hF a; intro a hF
      refine svn hF rfl rfl rfl ?_; clear hF a; intro a hF
      refine svn hF rfl rfl rfl ?_; clear hF a; intro a hF
      refine svn hF rfl rfl rfl ?_; clear hF a; intro a hF
      refine svn hF rfl rfl rfl ?_; clear hF a; intro a hF
      refine svn hF rfl rfl rfl ?_; clear hF a; intro a hF
      refine svn hF rfl rfl rfl ?_; clear hF a; intro a hF
      refine sv hF (v_pickT rfl rfl) rfl ?_; clear hF a; intro a hF
      refine WL_nil (hK _ _ ?_)
      clear hK K
      replace hF := hF.sub _ (c_ 31 rfl (c_ 7 rfl (c_ 6 rfl (c_ 3 rfl (c_ 1 rfl (c_ 2 rfl (n_)))))))
      refine W_ifT hF rfl ?_
      refine W_sr rfl (fun K hK => ?_)
      refine sv hF (v_assign rfl) rfl ?_; clear hF a; intro a hF
      refine sv hF (v_assign rfl) rfl ?_; clear hF a; intro a hF
      refine WL_nil (hK _ _ ?_)
      clear hK K
      replace hF := hF.sub _ (c_ 7 rfl (c_ 6 rfl (c_ 3 rfl (c_ 1 rfl (c_ 2 rfl (n_))))))
      refine W_ret ?_
      refine ⟨_, _, _, _, hMk, hS.inv, hF, rfl, rfl, fun w2 hX => ?_⟩
      have hno : mulM o ma mb = none := mulM_f (.inr (.inl (by simpa using hc2)))
      rw [hno]
      exact ⟨none, _, rfl, MOwn.nil _ _ _ _ _ _ _ (Nat.zero_le _), hS.thenX hX (Nat.le_refl _)⟩
    · clear hF a; intro hc2 a hF
      try simp only [decide_eq_true_eq, decide_eq_false_iff_not, Bool.not_eq_true', Bool.not_eq_false', Bool.not_true, Bool.not_false] at hc2
      refine sv hF (v_pickF rfl rfl) rfl ?_; clear hF a; intro a hF
      refine sv hF (v_move rfl) rfl ?_; clear hF a; intro a hF
      refine svg hF rfl ?_
      have hm1 : mayM o ma = true := by simpa using hc1
      have hm2 : mayM o mb = true := by simpa using hc2
      have hp1 := mayM_pos hm1
      have hp2 := mayM_pos hm2
      obtain ⟨rma, hrma⟩ : ∃ r, ma[0]? = some r := ⟨_, List.getElem?_eq_getElem (by omega)⟩
      obtain ⟨gma, oma, prma, crma, hgma, hkma, hrowma, -⟩ := hAma.row hrma
      have hwma := wid_at hrma
      rw [hgma] at hF
      refine sv hF (v_move rfl) rfl ?_; clear hF a; intro a hF
      refine svg hF rfl ?_
      refine sv hF (v_ixS sl30 rfl rfl (by decide) (by omega)) rfl ?_; clear hF a; intro a hF
      refine svg hF rfl ?_
      refine sv hF (v_load sc23 rfl hkma.c) rfl ?_; clear hF a; intro a hF
      refine svg hF rfl ?_
      refine sv hF (v_lenS rfl sl23 rfl) rfl ?_; clear hF a; intro a hF
      refine svg hF rfl ?_
      refine sv hF (v_move rfl) rfl ?_; clear hF a; intro a hF
      refine svg hF rfl ?_
      refine sv hF (v_lenS rfl sl30 rfl) rfl ?_; clear hF a; intro a hF
      refine svg hF rfl ?_
      refine sv hF (v_neq rfl rfl) rfl ?_; clear hF a; intro a hF
      refine sv hF (v_pickF rfl rfl) rfl ?_; clear hF a; intro a hF
      refine WL_nil (hK _ _ ?_)
      clear hK K
      replace hF := hF.sub _ (c_ 31 rfl (c_ 7 rfl (c_ 6 rfl (c_ 3 rfl (c_ 1 rfl (c_ 2 rfl (n_)))))))
      refine W_if hF rfl (fun hc3 => ?_) (fun hc3 => ?_)
      · skip
        try simp only [decide_eq_true_eq, decide_eq_false_iff_not, Bool.not_eq_true', Bool.not_eq_false', Bool.not_true, Bool.not_false] at hc3
        refine W_sr rfl (fun K hK => ?_)
        refine sv hF (v_assign rfl) rfl ?_; clear hF a; intro a hF
        refine sv hF (v_assign rfl) rfl ?_; clear hF a; intro a hF
        refine WL_nil (hK _ _ ?_)
        clear hK K
        replace hF := hF.sub _ (c_ 7 rfl (c_ 6 rfl (c_ 3 rfl (c_ 1 rfl (c_ 2 rfl (n_))))))
        refine W_ret ?_
        refine ⟨_, _, _, _, hMk, hS.inv, hF, rfl, rfl, fun w2 hX => ?_⟩
        have hno : mulM o ma mb = none := mulM_f (.inr (.inr (by rw [hwma]; omega)))
        rw [hno]
        exact ⟨none, _, rfl, MOwn.nil _ _ _ _ _ _ _ (Nat.zero_le _), hS.thenX hX (Nat.le_refl _)⟩
      · skip
        try simp only [decide_eq_true_eq, decide_eq_false_iff_not, Bool.not_eq_true', Bool.not_eq_false', Bool.not_true, Bool.not_false] at hc3
        refine W_skip ?_
        rw [← hgma] at hF
        have hyes := mulM_t hm1 hm2 (by rw [hwma]; omega)
        refine W_sr rfl (fun K hK => ?_)
        refine sv hF (v_assign rfl) rfl ?_; clear hF a; intro a hF
        refine WL_nil (hK _ _ ?_)
        clear hK K
        replace hF := hF.sub _ (c_ 8 rfl (c_ 7 rfl (c_ 6 rfl (c_ 3 rfl (c_ 1 rfl (c_ 2 rfl (n_)))))))
        refine W_seq ?_
        refine W_sr rfl (fun K hK => ?_)
        refine sv hF (v_move rfl) rfl ?_; clear hF a; intro a hF
        refine sv hF (v_lenS rfl sl30 rfl) rfl ?_; clear hF a; intro a hF
        refine sv hF (v_move rfl) rfl ?_; clear hF a; intro a hF
        refine WL_nil (hK _ _ ?_)
        clear hK K
        replace hF := hF.sub _ (c_ 34 rfl (c_ 33 rfl (c_ 32 rfl (c_ 8 rfl (c_ 7 rfl (c_ 6 rfl (c_ 3 rfl (c_ 2 rfl (n_)))))))))
        refine W_block ?_
        refine W_loop (fun m a w1 => ∃ (i : Nat) (v8 : Value) (b8 : Option Nat) (ds : List Nat), Fr ⟨54, ds⟩ [(2, .slice pmb mb.length cmb), (3, .pointer (some ⟨g3, 0, none⟩)), (8, v8), (32, .slice pma ma.length cma), (33, .int .i64 (ma.length : Int)), (34, .int .i64 (i : Int))] a ∧ (St FDx B w w1) ∧ (Fo FDx B w1 fv o) ∧ (Mat FDx B M w1 pma cma ma) ∧ (Mat FDx B M w1 pmb cmb mb) ∧ (MOwn FDx B w.heap.size 0 w1.heap.size w1 23 v8 b8 ((ma.take i).map (mulRow o mb))) ∧ (Mk w.heap.size ds w1) ∧ (Box FDx B g3 w1 g3 26 fv) ∧ (i ≤ ma.length) ∧ (m + i = ma.length)) (ma.length) ?_ ?_
        · skip
          exact ⟨0, _, none, _, hF.sub _ (c_ 2 rfl (c_ 3 rfl (c_ 8 rfl (c_ 32 rfl (c_ 33 rfl (c_ 34 rfl (n_))))))), hS, hf, hAma, hAmb, MOwn.nil _ _ _ _ _ _ _ (Nat.zero_le _), hMk, hb3, by omega, by omega⟩
        · skip
          clear hF
          clear hS hf hAma hAmb hMk hb3
          rintro m a w1 ⟨i, v8, b8, ds, hF, hS, hf, hAma, hAmb, hMO, hMk, hb3, hi, hm⟩
          obtain ⟨KM, hKe⟩ : ∃ KM, KM = w1.heap.size := ⟨_, rfl⟩
          rw [← hKe] at hMO
          have hKs : KM ≤ w1.heap.size := by omega
          have hNK : w.heap.size ≤ KM := by have := hS.ext.size; omega
          clear hKe
          refine W_sr rfl (fun K hK => ?_)
          refine sv hF (v_lss rfl rfl) rfl ?_; clear hF a; intro a hF
          refine WL_nil (hK _ _ ?_)
          clear hK K
          refine W_seq ?_
          refine W_if hF rfl (fun hc4 => ?_) (fun hc4 => ?_)
          · skip
            try simp only [decide_eq_true_eq, decide_eq_false_iff_not, Bool.not_eq_true', Bool.not_eq_false', Bool.not_true, Bool.not_false] at hc4
            have hlt : i < ma.length := by omega
            obtain ⟨r, hr⟩ : ∃ z, ma[i]? = some z := ⟨_, List.getElem?_eq_getElem hlt⟩
            obtain ⟨gx, ox, pr, cr, hgx, hkc, hrow, -⟩ := hAma.row hr
            have hrl := (hp1.2.2.2.2 r (List.mem_of_getElem? hr)).1
            have hrz : (zints r).length = r.length := zints_length r
            refine W_skip ?_
            refine W_seq ?_
            refine W_block ?_
            have hg3l : g3 < w1.heap.size := heap_lt hb3.blk
            rw [hgx] at hF
            refine W_sr rfl (fun K hK => ?_)
            refine sv hF (v_ixS sl30 rfl rfl (by omega) (by omega)) rfl ?_; clear hF a; intro a hF
            rw [← hgx] at hF
            refine sv hF (v_load sc23 rfl (by rw [toNat_c]; exact hkc.c)) rfl ?_; clear hF a; intro a hF
            obtain ⟨g10, hg10⟩ : ∃ g, g = w1.heap.size := ⟨_, rfl⟩
            have hn10 : b8 ≠ some g10 := fun e => by have := (hMO.lt _ e).2; omega
            have hKg : KM ≤ g10 := by omega
            clear hkc
            refine s_alloc (D := FDx) (B := B) hF zv23 (by decide) hS.inv rfl ?_; clear hF a; intro w' a hm hI' hb10 hsz hF
            replace hf := hf.mb hm
            replace hAma := hAma.mb hm (fun _ h => by cases h)
            replace hAmb := hAmb.mb hm (fun _ h => by cases h)
            replace hMO := hMO.mb0 hm
            replace hMk := hMk.mb hm (fun k e => by cases e)
            replace hb3 := hb3.mb hm (by simp)
            replace hKs := Nat.le_trans hKs hm.size
            replace hrow := hrow.mb hm (fun _ h => by cases h)
            replace hS := hS.mb0 hm
            clear hm hI' hsz
            rw [← hg10] at hb10 hF
            refine s_stb (D := FDx) (B := B) hF on23 rfl rfl (rfl) hb10 hS.inv ?_; intro w' hm hI' hbx'
            replace hf := hf.mb hm
            replace hAma := hAma.mb hm (fun k h => by cases h; exact Nat.le_trans (by omega) hb10.low)
            replace hAmb := hAmb.mb hm (fun k h => by cases h; exact Nat.le_trans (by omega) hb10.low)
            replace hMO := hMO.mbx hm (by assumption) (by omega) (by omega)
            replace hMk := hMk.mb hm (fun k e => by cases e; exact ⟨_, _, _, hb10.blk⟩)
            replace hb3 := hb3.mb hm (by simp; omega)
            replace hKs := Nat.le_trans hKs hm.size
            replace hrow := hrow.mb hm (fun k h => by cases h; exact Nat.le_trans (by omega) hb10.low)
            replace hS := hS.mb hm (fun k h => by cases h; omega)
            replace hb10 := hbx'
            clear hm hI' hbx'
            have hl10 := heap_lt hb10.blk
            refine WL_nil (hK _ _ ?_)
            clear hK K
            replace hF := hF.sub _ (c_ 10 rfl (c_ 2 rfl (c_ 3 rfl (c_ 8 rfl (c_ 32 rfl (c_ 33 rfl (c_ 34 rfl (n_))))))))
            refine W_sr rfl (fun K hK => ?_)
            obtain ⟨g11, hg11⟩ : ∃ g, g = w'.heap.size := ⟨_, rfl⟩
            have hn11 : b8 ≠ some g11 := fun e => by have := (hMO.lt _ e).2; omega
            refine s_alloc (D := FDx) (B := B) hF zv23 (by decide) hS.inv rfl ?_; clear hF a; intro w' a hm hI' hb11 hsz hF
            replace hf := hf.mb hm
            replace hAma := hAma.mb hm (fun _ h => by cases h)
            replace hAmb := hAmb.mb hm (fun _ h => by cases h)
            replace hMO := hMO.mb0 hm
            replace hMk := hMk.mb hm (fun k e => by cases e)
            replace hb3 := hb3.mb hm (by simp)
            replace hKs := Nat.le_trans hKs hm.size
            replace hrow := hrow.mb hm (fun _ h => by cases h)
            replace hb10 := hb10.mb hm (by simp)
            replace hS := hS.mb0 hm
            clear hm hI' hsz
            rw [← hg11] at hb11 hF
            have hl11 := heap_lt hb11.blk
            refine WL_nil (hK _ _ ?_)
            clear hK K
            refine W_seq ?_
            refine W_sr rfl (fun K hK => ?_)
            refine sv hF (v_move rfl) rfl ?_; clear hF a; intro a hF
            refine sc hF rfl rfl rfl en71 rfl (columns_ok B pmb cmb mb _ hS.inv) ?_; clear hF a; intro v w' a hv hF
            obtain ⟨pb, rfl, hpb, hkb, hS'⟩ := hv
            replace hf := hf.st hS'
            replace hAma := hAma.st hS'
            replace hAmb := hAmb.st hS'
            replace hMO := hMO.st (by decide) hS'
            replace hMk := hMk.st hS'
            replace hb3 := hb3.st hS'
            replace hKs := Nat.le_trans hKs hS'.ext.size
            replace hrow := hrow.st hS'
            replace hb10 := hb10.st hS'
            replace hb11 := hb11.st hS'
            replace hS := hS.trans hS'
            clear hS'
            refine WL_nil (hK _ _ ?_)
            clear hK K
            replace hF := hF.sub _ (c_ 39 rfl (c_ 11 rfl (c_ 10 rfl (c_ 2 rfl (c_ 3 rfl (c_ 8 rfl (c_ 32 rfl (c_ 33 rfl (c_ 34 rfl (n_))))))))))
            obtain ⟨nr, hnr⟩ : ∃ n, n = w'.heap.size := ⟨_, rfl⟩
            have hsw := hS.ext.size
            have hds : ∀ d ∈ ds, d < w'.heap.size := fun d hd => heap_lt (hMk.2 d hd).2
            have hpl := hkb.2.1
            have hpl2 : pb < w'.heap.size := hpl
            refine W_block ?_
            refine W_rf (D := FDx) (B := B) (fun k A => ∃ v11 b11, Box FDx B g11 A g11 23 v11 ∧ Gam.Own FDx B nr A FDx.E v11 b11 (zints ((mulRow o mb r).take k)) ∧ St FDx B w A ∧ Mk w.heap.size ds A ∧ Box FDx B g3 A g3 26 fv ∧ Box FDx B g10 A g10 23 (.slice pr r.length cr) ∧ Fo FDx B A fv o ∧ Row FDx B M A (.slice pr r.length cr) (zints r) ∧ Mat FDx B M A pma cma ma ∧ Mat FDx B M A pmb cmb mb ∧ MOwn FDx B w.heap.size 0 KM A 23 v8 b8 ((ma.take i).map (mulRow o mb))) (fun _ => False) (fun v a2 _ => Fr ⟨54, []⟩ [(3, .pointer (some ⟨g3, 0, none⟩)), (10, .pointer (some ⟨g10, 0, none⟩)), (11, .pointer (some ⟨g11, 0, none⟩)), (12, v)] a2) hF rfl rfl (ent Tryz.func85 (by kernel_rfl) (by kernel_rfl)) hS.inv (columns_seq B M pb _ cmb mb (fun k => k = g11 ∨ w'.heap.size ≤ k) _ hkb hAmb (by rintro (h | h) <;> omega) (by rintro k h (h2 | h2) <;> omega) (fun k h => .inr h) (by omega) (fun r hr => (hp2.2.2.2.2 r hr).1) (by omega) (by omega)) (fun k h => .inr h) ?_ ?_ ?_ ?_ (⟨_, none, hb11, Gam.Own.nil _ _ _ _ _, hS, hMk, hb3, hb10, hf, hrow, hAma, hAmb, hMO⟩) ?_ ?_ ?_ ?_
            · rintro k A C ⟨v11, b11, h1, h2, h3, h4, h5, h6, h7, h8, h9, h10, h11⟩ hX
              exact ⟨v11, b11, h1.xt hX, h2.xt (by decide) hX, h3.thenX hX hsw, h4.xt hX hds, h5.xt hX, h6.xt hX, h7.xt hX, h8.xt hX, h9.xt hX, h10.xt hX, h11.xt (by decide) hX⟩
            · exact fun _ _ h _ => h
            · exact fun _ _ _ _ h _ => h
            · exact fun x v A C h hX => h.xt hX
            · skip
              clear hF hS
              intro l i x v A a hx hJ hIA he hF
              have hS := St.refl hIA
              refine Rd.W_reg rfl rfl (fun K hK => ?_)
              refine sv hF (v_assign rfl) rfl ?_; clear hF a; intro a hF
              refine WL_nil (hK _ _ ?_)
              clear hK K
              replace hF := hF.sub _ (c_ 12 rfl (c_ 11 rfl (c_ 10 rfl (c_ 3 rfl (n_)))))
              exact ⟨hS, hF.sub _ (c_ 3 rfl (c_ 10 rfl (c_ 11 rfl (c_ 12 rfl (n_)))))⟩
            · skip
              clear hF hS hMk hb3 hb10 hb11 hf hrow hAma hAmb hMO
              rintro l k x v A a hx ⟨v11, b11, hb11, hO, hSw, hMk, hb3, hb10, hf, hrow, hAma, hAmb, hMO⟩ hz0 he hF
              obtain ⟨hk, rfl⟩ := cols_get hx
              obtain ⟨bc, hC⟩ := he
              obtain ⟨pc, cc, rfl⟩ := hC.shape
              have hc := hC.row (by decide)
              clear hC
              have hcl : (zints (colAt mb k)).length = (colAt mb k).length := zints_length _
              have hcl2 := colAt_length mb k
              have hml := mulRow_length o mb r
              have hnA : nr ≤ A.heap.size := by have := hz0.ext.size; omega
              have hS : StZ FDx B (fun k => k = g11 ∨ w'.heap.size ≤ k) A A := StZ.refl hSw.inv
              rw [hcl] at hc hF
              refine Rd.W_block ?_
              refine Rd.W_dS (fun w2 => w2.cell? ⟨g3, 0, none⟩ = some fv ∧ w2.cell? ⟨g10, 0, none⟩ = some (.slice pr r.length cr)) (m := 8) rfl hmix rfl (fun K hK => ?_)
              have hS' := St.drew hS.inv
              replace hb11 := hb11.st hS'
              replace hO := hO.st (by decide) hS'
              replace hSw := hSw.trans hS'
              replace hMk := hMk.st hS'
              replace hb3 := hb3.st hS'
              replace hb10 := hb10.st hS'
              replace hf := hf.st hS'
              replace hrow := hrow.st hS'
              replace hAma := hAma.st hS'
              replace hAmb := hAmb.st hS'
              replace hMO := hMO.st (by decide) hS'
              replace hc := (hc.st hS').mono hS'.ext.size
              replace hnA := Nat.le_trans hnA hS'.ext.size
              replace hS := hS.trans hS'
              clear hS'
              have hSS := And.intro hb3.at hb10.at
              refine b_v (i := 1) rfl (by kernel_rfl) hF (fun w2 hx => v_load sc26 rfl hx.1) rfl hSS ?_; clear hF a; intro a hF
              refine b_v (i := 2) rfl (by kernel_rfl) hF (fun w2 hx => v_load sc23 rfl hx.2) rfl hSS ?_; clear hF a; intro a hF
              refine b_v (i := 3) rfl (by kernel_rfl) hF (fun w2 hx => v_move rfl) rfl hSS ?_; clear hF a; intro a hF
              refine b_e2 (i := 0) (i' := 4) (by kernel_rfl) rfl rfl ?_ ?_
              · skip
                refine sv hF (v_load sc23 rfl hb11.at) rfl ?_; clear hF a; intro a hF
                refine WL_nil ⟨hSS, ?_⟩
                refine b_e (i := 4) (by kernel_rfl) rfl ?_
                refine sc hF rfl rfl rfl en72 rfl (dot_ok B M _ o fv pr cr r pc cc (colAt mb k) _ hS.inv hf hrow hc (by omega) (by omega)) ?_; clear hF a; intro v w' a hv hF
                obtain ⟨rfl, hS'⟩ := hv
                replace hb11 := hb11.st hS'
                replace hO := hO.st (by decide) hS'
                replace hSw := hSw.trans hS'
                replace hMk := hMk.st hS'
                replace hb3 := hb3.st hS'
                replace hb10 := hb10.st hS'
                replace hf := hf.st hS'
                replace hrow := hrow.st hS'
                replace hAma := hAma.st hS'
                replace hAmb := hAmb.st hS'
                replace hMO := hMO.st (by decide) hS'
                replace hc := (hc.st hS').mono hS'.ext.size
                replace hnA := Nat.le_trans hnA hS'.ext.size
                replace hS := hS.trans hS'
                clear hS'
                clear hSS
                have hSS := And.intro hb3.at hb10.at
                refine WL_nil ⟨hSS, ?_⟩
                refine b_e (i := 5) (by kernel_rfl) rfl ?_
                refine s_bs (D := FDx) (B := B) hF sl23 rfl rfl (by decide) (by simp [Value.cells]) (by decide) hS.inv rfl ?_; clear hF a; intro w' a hm hI' hL hF
                replace hb11 := hb11.mb hm (by simp)
                replace hO := hO.mb hm (fun _ _ => by simp)
                replace hSw := hSw.mb0 hm
                replace hMk := hMk.mb hm (fun k e => by cases e)
                replace hb3 := hb3.mb hm (by simp)
                replace hb10 := hb10.mb hm (by simp)
                replace hf := hf.mb hm
                replace hrow := hrow.mb hm (fun _ h => by cases h)
                replace hAma := hAma.mb hm (fun _ h => by cases h)
                replace hAmb := hAmb.mb hm (fun _ h => by cases h)
                replace hMO := hMO.mb0 hm
                replace hnA := Nat.le_trans hnA hm.size
                replace hS := hS.mb0 hm
                clear hm hI'
                clear hSS
                have hSS := And.intro hb3.at hb10.at
                refine WL_nil ⟨hSS, ?_⟩
                refine b_e (i := 6) (by kernel_rfl) rfl ?_
                refine s_app (D := FDx) (B := B) hF rfl sl23 rfl rfl hO (hL.row (by decide)) (by simp [Value.oneCell']) (by simp; omega) (by simp [maxLen]; omega) (hnA) (by decide) hS.inv rfl ?_; clear hF a; intro v' b' w' a ho' hm hI' hb' hF
                replace hb11 := hb11.mb hm (hb11.ne_own hO (by decide))
                replace hSw := hSw.mb hm (fun k h => Nat.le_trans (by omega) (hO.lt k h).1)
                replace hMk := hMk.mb hm hO.isrow
                replace hb3 := hb3.mb hm (hb3.ne_own hO (by decide))
                replace hb10 := hb10.mb hm (hb10.ne_own hO (by decide))
                replace hf := hf.mb hm
                replace hrow := hrow.mb hm (fun k h => Nat.le_trans (by omega) (hO.lt k h).1)
                replace hAma := hAma.mb hm (fun k h => Nat.le_trans (by omega) (hO.lt k h).1)
                replace hAmb := hAmb.mb hm (fun k h => Nat.le_trans (by omega) (hO.lt k h).1)
                replace hMO := hMO.mbo hm hO (by decide) (by omega) (Nat.zero_le _)
                replace hnA := Nat.le_trans hnA hm.size
                replace hS := hS.mb hm (fun k h => ⟨.inr (by have := (hO.lt k h).1; omega), hO.isrow k h⟩)
                replace hO := ho'
                clear hm hI' ho'
                clear hSS
                have hSS := And.intro hb3.at hb10.at
                refine WL_nil ⟨hSS, ?_⟩
                refine b_e (i := 7) (by kernel_rfl) rfl ?_
                refine s_stb (D := FDx) (B := B) hF on23 rfl rfl (by obtain ⟨_, _, rfl⟩ := hO.shape; rfl) hb11 hS.inv ?_; intro w' hm hI' hbx'
                replace hO := hO.mb hm ((fun k e e2 => hb11.ne_own hO (by decide) (e.trans e2.symm)))
                replace hSw := hSw.mb hm (fun k h => by cases h; omega)
                replace hMk := hMk.mb hm (fun k e => by cases e; exact ⟨_, _, _, hb11.blk⟩)
                replace hb3 := hb3.mb hm (by simp; omega)
                replace hb10 := hb10.mb hm (by simp; omega)
                replace hf := hf.mb hm
                replace hrow := hrow.mb hm (fun k h => by cases h; exact Nat.le_trans (by omega) hb11.low)
                replace hAma := hAma.mb hm (fun k h => by cases h; exact Nat.le_trans (by omega) hb11.low)
                replace hAmb := hAmb.mb hm (fun k h => by cases h; exact Nat.le_trans (by omega) hb11.low)
                replace hMO := hMO.mbx hm (by assumption) (by omega) (by omega)
                replace hnA := Nat.le_trans hnA hm.size
                replace hS := hS.mb hm (fun k h => ⟨.inl (by cases h; rfl), by cases h; exact ⟨_, _, _, hb11.blk⟩⟩)
                replace hb11 := hbx'
                clear hm hI' hbx'
                clear hSS
                have hSS := And.intro hb3.at hb10.at
                refine WL_nil ⟨hSS, ?_⟩
                refine b_done (by kernel_rfl) (hK _ _ ?_)
                clear hK K
                replace hF := hF.sub _ (n_)
                exact ⟨⟨_, _, hb11, hO.cast (by rw [mulRow_snoc hk]; simp [zints]), hSw, hMk, hb3, hb10, hf, hrow, hAma, hAmb, hMO⟩, hS⟩
              · skip
                refine sc hF rfl rfl rfl en72 rfl (dot_ok B M _ o fv pr cr r pc cc (colAt mb k) _ hS.inv hf hrow hc (by omega) (by omega)) ?_; clear hF a; intro v w' a hv hF
                obtain ⟨rfl, hS'⟩ := hv
                replace hb11 := hb11.st hS'
                replace hO := hO.st (by decide) hS'
                replace hSw := hSw.trans hS'
                replace hMk := hMk.st hS'
                replace hb3 := hb3.st hS'
                replace hb10 := hb10.st hS'
                replace hf := hf.st hS'
                replace hrow := hrow.st hS'
                replace hAma := hAma.st hS'
                replace hAmb := hAmb.st hS'
                replace hMO := hMO.st (by decide) hS'
                replace hc := (hc.st hS').mono hS'.ext.size
                replace hnA := Nat.le_trans hnA hS'.ext.size
                replace hS := hS.trans hS'
                clear hS'
                clear hSS
                have hSS := And.intro hb3.at hb10.at
                refine WL_nil ⟨hSS, ?_⟩
                refine b_e2 (i := 0) (i' := 5) (by kernel_rfl) rfl rfl ?_ ?_
                · skip
                  refine sv hF (v_load sc23 rfl hb11.at) rfl ?_; clear hF a; intro a hF
                  refine WL_nil ⟨hSS, ?_⟩
                  refine b_e (i := 5) (by kernel_rfl) rfl ?_
                  refine s_bs (D := FDx) (B := B) hF sl23 rfl rfl (by decide) (by simp [Value.cells]) (by decide) hS.inv rfl ?_; clear hF a; intro w' a hm hI' hL hF
                  replace hb11 := hb11.mb hm (by simp)
                  replace hO := hO.mb hm (fun _ _ => by simp)
                  replace hSw := hSw.mb0 hm
                  replace hMk := hMk.mb hm (fun k e => by cases e)
                  replace hb3 := hb3.mb hm (by simp)
                  replace hb10 := hb10.mb hm (by simp)
                  replace hf := hf.mb hm
                  replace hrow := hrow.mb hm (fun _ h => by cases h)
                  replace hAma := hAma.mb hm (fun _ h => by cases h)
                  replace hAmb := hAmb.mb hm (fun _ h => by cases h)
                  replace hMO := hMO.mb0 hm
                  replace hnA := Nat.le_trans hnA hm.size
                  replace hS := hS.mb0 hm
                  clear hm hI'
                  clear hSS
                  have hSS := And.intro hb3.at hb10.at
                  refine WL_nil ⟨hSS, ?_⟩
                  refine b_e (i := 6) (by kernel_rfl) rfl ?_
                  refine s_app (D := FDx) (B := B) hF rfl sl23 rfl rfl hO (hL.row (by decide)) (by simp [Value.oneCell']) (by simp; omega) (by simp [maxLen]; omega) (hnA) (by decide) hS.inv rfl ?_; clear hF a; intro v' b' w' a ho' hm hI' hb' hF
                  replace hb11 := hb11.mb hm (hb11.ne_own hO (by decide))
                  replace hSw := hSw.mb hm (fun k h => Nat.le_trans (by omega) (hO.lt k h).1)
                  replace hMk := hMk.mb hm hO.isrow
                  replace hb3 := hb3.mb hm (hb3.ne_own hO (by decide))
                  replace hb10 := hb10.mb hm (hb10.ne_own hO (by decide))
                  replace hf := hf.mb hm
                  replace hrow := hrow.mb hm (fun k h => Nat.le_trans (by omega) (hO.lt k h).1)
                  replace hAma := hAma.mb hm (fun k h => Nat.le_trans (by omega) (hO.lt k h).1)
                  replace hAmb := hAmb.mb hm (fun k h => Nat.le_trans (by omega) (hO.lt k h).1)
                  replace hMO := hMO.mbo hm hO (by decide) (by omega) (Nat.zero_le _)
                  replace hnA := Nat.le_trans hnA hm.size
                  replace hS := hS.mb hm (fun k h => ⟨.inr (by have := (hO.lt k h).1; omega), hO.isrow k h⟩)
                  replace hO := ho'
                  clear hm hI' ho'
                  clear hSS
                  have hSS := And.intro hb3.at hb10.at
                  refine WL_nil ⟨hSS, ?_⟩
                  refine b_e (i := 7) (by kernel_rfl) rfl ?_
                  refine s_stb (D := FDx) (B := B) hF on23 rfl rfl (by obtain ⟨_, _, rfl⟩ := hO.shape; rfl) hb11 hS.inv ?_; intro w' hm hI' hbx'
                  replace hO := hO.mb hm ((fun k e e2 => hb11.ne_own hO (by decide) (e.trans e2.symm)))
                  replace hSw := hSw.mb hm (fun k h => by cases h; omega)
                  replace hMk := hMk.mb hm (fun k e => by cases e; exact ⟨_, _, _, hb11.blk⟩)
                  replace hb3 := hb3.mb hm (by simp; omega)
                  replace hb10 := hb10.mb hm (by simp; omega)
                  replace hf := hf.mb hm
                  replace hrow := hrow.mb hm (fun k h => by cases h; exact Nat.le_trans (by omega) hb11.low)
                  replace hAma := hAma.mb hm (fun k h => by cases h; exact Nat.le_trans (by omega) hb11.low)
                  replace hAmb := hAmb.mb hm (fun k h => by cases h; exact Nat.le_trans (by omega) hb11.low)
                  replace hMO := hMO.mbx hm (by assumption) (by omega) (by omega)
                  replace hnA := Nat.le_trans hnA hm.size
                  replace hS := hS.mb hm (fun k h => ⟨.inl (by cases h; rfl), by cases h; exact ⟨_, _, _, hb11.blk⟩⟩)
                  replace hb11 := hbx'
                  clear hm hI' hbx'
                  clear hSS
                  have hSS := And.intro hb3.at hb10.at
                  refine WL_nil ⟨hSS, ?_⟩
                  refine b_done (by kernel_rfl) (hK _ _ ?_)
                  clear hK K
                  replace hF := hF.sub _ (n_)
                  exact ⟨⟨_, _, hb11, hO.cast (by rw [mulRow_snoc hk]; simp [zints]), hSw, hMk, hb3, hb10, hf, hrow, hAma, hAmb, hMO⟩, hS⟩
                · skip
                  refine s_bs (D := FDx) (B := B) hF sl23 rfl rfl (by decide) (by simp [Value.cells]) (by decide) hS.inv rfl ?_; clear hF a; intro w' a hm hI' hL hF
                  replace hb11 := hb11.mb hm (by simp)
                  replace hO := hO.mb hm (fun _ _ => by simp)
                  replace hSw := hSw.mb0 hm
                  replace hMk := hMk.mb hm (fun k e => by cases e)
                  replace hb3 := hb3.mb hm (by simp)
                  replace hb10 := hb10.mb hm (by simp)
                  replace hf := hf.mb hm
                  replace hrow := hrow.mb hm (fun _ h => by cases h)
                  replace hAma := hAma.mb hm (fun _ h => by cases h)
                  replace hAmb := hAmb.mb hm (fun _ h => by cases h)
                  replace hMO := hMO.mb0 hm
                  replace hnA := Nat.le_trans hnA hm.size
                  replace hS := hS.mb0 hm
                  clear hm hI'
                  clear hSS
                  have hSS := And.intro hb3.at hb10.at
                  refine WL_nil ⟨hSS, ?_⟩
                  refine b_e (i := 0) (by kernel_rfl) rfl ?_
                  refine sv hF (v_load sc23 rfl hb11.at) rfl ?_; clear hF a; intro a hF
                  refine WL_nil ⟨hSS, ?_⟩
                  refine b_e (i := 6) (by kernel_rfl) rfl ?_
                  refine s_app (D := FDx) (B := B) hF rfl sl23 rfl rfl hO (hL.row (by decide)) (by simp [Value.oneCell']) (by simp; omega) (by simp [maxLen]; omega) (hnA) (by decide) hS.inv rfl ?_; clear hF a; intro v' b' w' a ho' hm hI' hb' hF
                  replace hb11 := hb11.mb hm (hb11.ne_own hO (by decide))
                  replace hSw := hSw.mb hm (fun k h => Nat.le_trans (by omega) (hO.lt k h).1)
                  replace hMk := hMk.mb hm hO.isrow
                  replace hb3 := hb3.mb hm (hb3.ne_own hO (by decide))
                  replace hb10 := hb10.mb hm (hb10.ne_own hO (by decide))
                  replace hf := hf.mb hm
                  replace hrow := hrow.mb hm (fun k h => Nat.le_trans (by omega) (hO.lt k h).1)
                  replace hAma := hAma.mb hm (fun k h => Nat.le_trans (by omega) (hO.lt k h).1)
                  replace hAmb := hAmb.mb hm (fun k h => Nat.le_trans (by omega) (hO.lt k h).1)
                  replace hMO := hMO.mbo hm hO (by decide) (by omega) (Nat.zero_le _)
                  replace hnA := Nat.le_trans hnA hm.size
                  replace hS := hS.mb hm (fun k h => ⟨.inr (by have := (hO.lt k h).1; omega), hO.isrow k h⟩)
                  replace hO := ho'
                  clear hm hI' ho'
                  clear hSS
                  have hSS := And.intro hb3.at hb10.at
                  refine WL_nil ⟨hSS, ?_⟩
                  refine b_e (i := 7) (by kernel_rfl) rfl ?_
                  refine s_stb (D := FDx) (B := B) hF on23 rfl rfl (by obtain ⟨_, _, rfl⟩ := hO.shape; rfl) hb11 hS.inv ?_; intro w' hm hI' hbx'
                  replace hO := hO.mb hm ((fun k e e2 => hb11.ne_own hO (by decide) (e.trans e2.symm)))
                  replace hSw := hSw.mb hm (fun k h => by cases h; omega)
                  replace hMk := hMk.mb hm (fun k e => by cases e; exact ⟨_, _, _, hb11.blk⟩)
                  replace hb3 := hb3.mb hm (by simp; omega)
                  replace hb10 := hb10.mb hm (by simp; omega)
                  replace hf := hf.mb hm
                  replace hrow := hrow.mb hm (fun k h => by cases h; exact Nat.le_trans (by omega) hb11.low)
                  replace hAma := hAma.mb hm (fun k h => by cases h; exact Nat.le_trans (by omega) hb11.low)
                  replace hAmb := hAmb.mb hm (fun k h => by cases h; exact Nat.le_trans (by omega) hb11.low)
                  replace hMO := hMO.mbx hm (by assumption) (by omega) (by omega)
                  replace hnA := Nat.le_trans hnA hm.size
                  replace hS := hS.mb hm (fun k h => ⟨.inl (by cases h; rfl), by cases h; exact ⟨_, _, _, hb11.blk⟩⟩)
                  replace hb11 := hbx'
                  clear hm hI' hbx'
                  clear hSS
                  have hSS := And.intro hb3.at hb10.at
                  refine WL_nil ⟨hSS, ?_⟩
                  refine b_done (by kernel_rfl) (hK _ _ ?_)
                  clear hK K
                  replace hF := hF.sub _ (n_)
                  exact ⟨⟨_, _, hb11, hO.cast (by rw [mulRow_snoc hk]; simp [zints]), hSw, hMk, hb3, hb10, hf, hrow, hAma, hAmb, hMO⟩, hS⟩
            · skip
              clear hF hS hb3 hb10 hb11 hf hrow hAma hAmb hMO
              rintro a W hF hD ⟨v11, b11, hb11, hO, hS, hMk2, hb3, hb10, hf, hrow, hAma, hAmb, hMO⟩ hz0
              replace hMk := Mk.cons (D := FDx) (B := B) hMk (Nat.le_refl _) hsw hMk2 hD
              clear hMk2 hD
              replace hO := hO.cast (show zints ((mulRow o mb r).take _) = zints (mulRow o mb r) by rw [List.length_map, List.length_range, List.take_of_length_le (by rw [mulRow_length]; omega)])
              replace hKs := Nat.le_trans hKs hz0.ext.size
              clear hz0
              refine W_reg rfl (fun K hK => ?_)
              refine sv hF (v_move rfl) rfl ?_; clear hF a; intro a hF
              refine sv hF (v_load sc23 rfl (by first | assumption | (rw [toNat_c]; assumption) | exact KC.c (by assumption) | (rw [toNat_c]; exact KC.c (by assumption)) | exact Box.at (by assumption))) rfl ?_; clear hF a; intro a hF
              obtain ⟨a_, c_r, rfl⟩ := hO.shape
              refine s_bs (D := FDx) (B := B) hF sl30 rfl rfl (by decide) (by simp [Value.cells]) (by decide) hS.inv rfl ?_; clear hF a; intro w' a hm hI' hL hF
              replace hb11 := hb11.mb hm (by simp)
              replace hO := hO.mb hm (fun _ _ => by simp)
              replace hMk := hMk.mb hm (fun k e => by cases e)
              replace hb3 := hb3.mb hm (by simp)
              replace hf := hf.mb hm
              replace hAma := hAma.mb hm (fun _ h => by cases h)
              replace hAmb := hAmb.mb hm (fun _ h => by cases h)
              replace hMO := hMO.mb0 hm
              replace hKs := Nat.le_trans hKs hm.size
              replace hS := hS.mb0 hm
              clear hm hI'
              replace hMO := hMO.up hKs
              clear hKs
              refine s_appM (D := FDx) (B := B) hF rfl sl30 rfl rfl hMO hL (.of hO (Nat.zero_le _)) rfl rfl (by simp; omega) (hS.ext.size) (by decide) (by decide) hS.inv rfl ?_; clear hF a; intro v' b' w' a ho' hm hI' hF
              replace hMk := hMk.mb hm hMO.isrow
              replace hb3 := hb3.mb hm (by obtain ⟨_, _, hO2, _⟩ := hMO.ex; exact hb3.ne_own hO2 (by decide))
              replace hf := hf.mb hm
              replace hAma := hAma.mb hm (fun k h => Nat.le_trans (by omega) (hMO.lt k h).1)
              replace hAmb := hAmb.mb hm (fun k h => Nat.le_trans (by omega) (hMO.lt k h).1)
              replace hS := hS.mb hm (fun k h => Nat.le_trans (Nat.le_refl _) (hMO.lt k h).1)
              have hKm := hm.size
              replace hMO := ho'
              clear hm hI' ho' hL
              refine sv hF (v_assign rfl) rfl ?_; clear hF a; intro a hF
              refine WL_nil (hK _ _ ?_)
              clear hK K
              replace hF := hF.sub _ (c_ 8 rfl (c_ 51 rfl (c_ 50 rfl (c_ 49 rfl (c_ 48 rfl (c_ 11 rfl (c_ 2 rfl (c_ 3 rfl (c_ 32 rfl (c_ 33 rfl (c_ 34 rfl (n_))))))))))))
              refine W_reg rfl (fun K hK => ?_)
              refine sv hF (v_addI rfl rfl (by omega)) rfl ?_; clear hF a; intro a hF
              refine sv hF (v_move rfl) rfl ?_; clear hF a; intro a hF
              refine WL_nil (hK _ _ ?_)
              clear hK K
              exact ⟨m - 1, by omega, i + 1, _, _, _, hF.sub _ (c_ 2 rfl (c_ 3 rfl (c_ 8 rfl (c_ 32 rfl (c_ 33 rfl (c_ 34 rfl (n_))))))), hS, hf, hAma, hAmb, (hMO.up hKm).cast (map_snoc hr).symm, hMk, hb3, by omega, by omega⟩
            · intro a1 w1 hF hD hj; exact hj.elim
          · skip
            try simp only [decide_eq_true_eq, decide_eq_false_iff_not, Bool.not_eq_true', Bool.not_eq_false', Bool.not_true, Bool.not_false] at hc4
            refine W_exit rfl ?_
            refine W_sr rfl (fun K hK => ?_)
            refine sv hF (v_move rfl) rfl ?_; clear hF a; intro a hF
            refine sv hF (v_assign rfl) rfl ?_; clear hF a; intro a hF
            refine sv hF (v_assign rfl) rfl ?_; clear hF a; intro a hF
            refine WL_nil (hK _ _ ?_)
            clear hK K
            replace hF := hF.sub _ (c_ 7 rfl (c_ 6 rfl (c_ 53 rfl (c_ 2 rfl (c_ 3 rfl (c_ 8 rfl (c_ 32 rfl (c_ 33 rfl (c_ 34 rfl (n_))))))))))
            refine W_ret ?_
            refine ⟨_, _, _, _, hMk, hS.inv, hF, rfl, rfl, fun w2 hX => ?_⟩
            obtain rfl : i = ma.length := by omega
            rw [List.take_length] at hMO
            rw [hyes]
            exact ⟨_, _, rfl, (hMO.xt (by decide) hX).up (Nat.le_trans hKs hX.size), hS.thenX hX (Nat.le_refl _)⟩

end Go.Proofs.YtcnlooajjnghaaaGreat
