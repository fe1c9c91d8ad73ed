/- Texts of the claim VanderTells (part 8), put together in the order of their imports. -/
import Derived.Test.YtcnlooajjnghaaaGreatKVanderTells7
/- The walk of package matrix: Mul. -/
set_option linter.unusedVariables false
set_option linter.unusedSimpArgs false
namespace Go.Proofs.YtcnlooajjnghaaaGreat
open Go Go.Gam


namespace FxFMatD
theorem en34 : Ent Tryz.prog 34 := ent Tryz.func34 (by kernel_rfl) (by kernel_rfl)
theorem en71 : Ent Tryz.prog 71 := ent Tryz.func71 (by kernel_rfl) (by kernel_rfl)
theorem en72 : Ent Tryz.prog 72 := ent Tryz.func72 (by kernel_rfl) (by kernel_rfl)
theorem hmix : Tryz.prog.follows .mixedOrders = true := by kernel_rfl
theorem on23 : Gam.One Tryz.prog 23 := by unfold Gam.One; kernel_rfl
theorem sc23 : Scalar Tryz.prog 23 := ⟨_, Tryz.underlying23, by simp, by simp⟩
theorem sc26 : Scalar Tryz.prog 26 := ⟨_, Tryz.underlying26, by simp, by simp⟩
theorem sl22 : Sl Tryz.prog 22 23 (.slice none 0 0) 24 := sl_of Tryz.underlying22 rfl (by kernel_rfl)
theorem sl23 : Sl Tryz.prog 23 3 (.int .i64 0) 8 := sl_of Tryz.underlying23 rfl (by kernel_rfl)
theorem sl30 : Sl Tryz.prog 30 23 (.slice none 0 0) 24 := sl_of Tryz.underlying30 rfl (by kernel_rfl)
theorem zv23 : Zv Tryz.prog 23 (.slice none 0 0) := zv_of rfl (by kernel_rfl)
end FxFMatD
open FxFMatD

set_option maxRecDepth 100000 in
set_option maxHeartbeats 1000000 in
theorem MulM_ok (B M : Nat) (o : Fq) (fv : Value) (pma : Option Addr) (cma : Nat) (ma : Mtx) (pmb : Option Addr) (cmb : Nat) (mb : Mtx) (w : World) (hI : Inv FDx B w) (hM : M ≤ w.heap.size) (hf : Fo FDx B w fv o) (hAma : Mat FDx B M w pma cma ma) (hlma : ma.length ≤ maxLen) (hbma : ∀ r ∈ ma, r.length ≤ maxLen) (hAmb : Mat FDx B M w pmb cmb mb) (hlmb : mb.length ≤ maxLen) (hbmb : ∀ r ∈ mb, r.length ≤ maxLen) : Ret Tryz.prog 46 [fv, .slice pma ma.length cma, .slice pmb mb.length cmb] w fun v w' => ∃ ob u, v = .tuple #[u, .int .i64 (errV (mulM o ma mb))] ∧ MOwn FDx B w.heap.size 0 w'.heap.size w' 23 u ob ((mulM o ma mb).getD []) ∧ St FDx B w w' := by
  refine enterM2 (D := FDx) (B := B) w.heap.size 54 [(0, fv), (1, .slice pma ma.length cma), (2, .slice pmb mb.length cmb)] 6 7 Tryz.func46 rfl rfl rfl rfl rfl ?_; intro a hF
  have hS := St.refl hI
  have hl2 := hlma
  have hl3 := hlmb
  simp only [maxLen] at hl2 hl3
  have hMk := Mk.nil w.heap.size w
  refine W_sr rfl (fun K hK => ?_)
  obtain ⟨g3, hg3⟩ : ∃ g, g = w.heap.size := ⟨_, rfl⟩
  refine s_boxN (D := FDx) (B := B) hF rfl (hf.cells1) (by decide) hS.inv rfl ?_; clear hF a; intro w' a hm hI' hb3 hsz hF
  replace hf := hf.mb hm
  replace hAma := hAma.mb hm (fun _ h => by cases h)
  replace hAmb := hAmb.mb hm (fun _ h => by cases h)
  replace hMk := hMk.mb hm (fun k e => by cases e)
  replace hS := hS.mb0 hm
  clear hm hI' hsz
  rw [← hg3] at hb3 hF
  refine sv hF (v_assign rfl) rfl ?_; clear hF a; intro a hF
  refine sv hF (v_assign rfl) rfl ?_; clear hF a; intro a hF
  refine WL_nil (hK _ _ ?_)
  clear hK K
  replace hF := hF.sub _ (c_ 7 rfl (c_ 6 rfl (c_ 3 rfl (c_ 1 rfl (c_ 2 rfl (n_))))))
  refine W_seq ?_
  refine W_sr rfl (fun K hK => ?_)
  refine sv hF (v_load sc26 rfl (by first | assumption | (rw [toNat_c]; assumption) | exact KC.c (by assumption) | (rw [toNat_c]; exact KC.c (by assumption)) | exact Box.at (by assumption))) rfl ?_; clear hF a; intro a hF
  refine sv hF (v_move rfl) rfl ?_; clear hF a; intro a hF
  refine sc hF rfl rfl rfl en34 rfl (May_ok B M o fv pma cma ma _ hS.inv hf hAma hlma hbma) ?_; clear hF a; intro v w' a hv hF
  obtain ⟨rfl, hS'⟩ := hv
  replace hf := hf.st hS'
  replace hAma := hAma.st hS'
  replace hAmb := hAmb.st hS'
  replace hMk := hMk.st hS'
  replace hb3 := hb3.st hS'
  replace hS := hS.trans hS'
  clear hS'
  refine sb hF (v_not rfl) rfl ?_ ?_
  · clear hF a; intro hc1 a hF
    try simp only [decide_eq_true_eq, decide_eq_false_iff_not, Bool.not_eq_true', Bool.not_eq_false', Bool.not_true, Bool.not_false] at hc1
    refine sv hF (v_move rfl) rfl ?_; clear hF a; intro a hF
    refine svn hF rfl rfl rfl ?_; clear hF a; intro a hF
    refine svn hF rfl rfl rfl ?_; clear hF a; intro a hF
    refine svn hF rfl rfl rfl ?_; clear hF a; intro a hF
    refine svn hF rfl rfl rfl ?_; clear hF a; intro a hF
    refine sv hF (v_pickT rfl rfl) rfl ?_; clear hF a; intro a hF
    refine sv hF (v_move rfl) rfl ?_; clear hF a; intro a hF
    refine svn hF rfl rfl rfl ?_; clear hF a; intro a hF
    refine svn hF rfl rfl rfl ?_; clear hF a; intro a hF
    refine svn hF rfl rfl rfl ?_; clear hF a; intro a hF
    refine svn hF rfl rfl rfl ?_; clear hF a; intro a hF
    refine svn hF rfl rfl rfl ?_; clear hF a; intro a hF
    refine svn hF rfl rfl rfl ?_; clear hF a; intro a hF
    refine svn hF rfl rfl rfl ?_; clear hF a; intro a hF
    refine sv hF (v_pickT rfl rfl) rfl ?_; clear hF a; intro a hF
    refine WL_nil (hK _ _ ?_)
    clear hK K
    replace hF := hF.sub _ (c_ 31 rfl (c_ 7 rfl (c_ 6 rfl (c_ 3 rfl (c_ 1 rfl (c_ 2 rfl (n_)))))))
    refine W_ifT hF rfl ?_
    refine W_sr rfl (fun K hK => ?_)
    refine sv hF (v_assign rfl) rfl ?_; clear hF a; intro a hF
    refine sv hF (v_assign rfl) rfl ?_; clear hF a; intro a hF
    refine WL_nil (hK _ _ ?_)
    clear hK K
    replace hF := hF.sub _ (c_ 7 rfl (c_ 6 rfl (c_ 3 rfl (c_ 1 rfl (c_ 2 rfl (n_))))))
    refine W_ret ?_
    refine ⟨_, _, _, _, hMk, hS.inv, hF, rfl, rfl, fun w2 hX => ?_⟩
    have hno : mulM o ma mb = none := mulM_f (.inl (by simpa using hc1))
    rw [hno]
    exact ⟨none, _, rfl, MOwn.nil _ _ _ _ _ _ _ (Nat.zero_le _), hS.thenX hX (Nat.le_refl _)⟩
  · clear hF a; intro hc1 a hF
    try simp only [decide_eq_true_eq, decide_eq_false_iff_not, Bool.not_eq_true', Bool.not_eq_false', Bool.not_true, Bool.not_false] at hc1
    refine sv hF (v_move rfl) rfl ?_; clear hF a; intro a hF
    refine svg hF rfl ?_
    refine sv hF (v_load sc26 rfl (by first | assumption | (rw [toNat_c]; assumption) | exact KC.c (by assumption) | (rw [toNat_c]; exact KC.c (by assumption)) | exact Box.at (by assumption))) rfl ?_; clear hF a; intro a hF
    refine svg hF rfl ?_
    refine sv hF (v_move rfl) rfl ?_; clear hF a; intro a hF
    refine svg hF rfl ?_
    refine sc hF rfl rfl rfl en34 rfl (May_ok B M o fv pmb cmb mb _ hS.inv hf hAmb hlmb hbmb) ?_; clear hF a; intro v w' a hv hF
    obtain ⟨rfl, hS'⟩ := hv
    replace hf := hf.st hS'
    replace hAma := hAma.st hS'
    replace hAmb := hAmb.st hS'
    replace hMk := hMk.st hS'
    replace hb3 := hb3.st hS'
    replace hS := hS.trans hS'
    clear hS'
    refine svg hF rfl ?_
    refine sb hF (v_not rfl) rfl ?_ ?_
    · clear hF a; intro hc2 a hF
      try simp only [decide_eq_true_eq, decide_eq_false_iff_not, Bool.not_eq_true', Bool.not_eq_false', Bool.not_true, Bool.not_false] at hc2
      refine sv hF (v_pickF rfl rfl) rfl ?_; clear hF a; intro a hF
      refine sv hF (v_move rfl) rfl ?_; clear hF a; intro a hF
      refine svn hF rfl rfl rfl ?_; clear hF a; intro a hF
      refine svn hF rfl rfl rfl ?_; clear hF a; intro a hF
      refine svn hF rfl rfl rfl ?_; clear hF a; intro a hF
      refine svn hF rfl rfl rfl ?_; clear hF a; intro a hF
      refine svn hF rfl rfl rfl ?_; clear hF a; intro a hF
      refine svn hF rfl rfl rfl ?_; clear hF a; intro a hF
      refine svn hF rfl rfl rfl ?_; clear hF a; intro a hF
      refine sv hF (v_pickT rfl rfl) rfl ?_; clear hF a; intro a hF
      refine WL_nil (hK _ _ ?_)
      clear hK K
      replace hF := hF.sub _ (c_ 31 rfl (c_ 7 rfl (c_ 6 rfl (c_ 3 rfl (c_ 1 rfl (c_ 2 rfl (n_)))))))
      refine W_ifT hF rfl ?_
      refine W_sr rfl (fun K hK => ?_)
      refine sv hF (v_assign rfl) rfl ?_; clear hF a; intro a hF
      refine sv hF (v_assign rfl) rfl ?_; clear hF a; intro a hF
      refine WL_nil (hK _ _ ?_)
      clear hK K
      replace hF := hF.sub _ (c_ 7 rfl (c_ 6 rfl (c_ 3 rfl (c_ 1 rfl (c_ 2 rfl (n_))))))
      refine W_ret ?_
      refine ⟨_, _, _, _, hMk, hS.inv, hF, rfl, rfl, fun w2 hX => ?_⟩
      have hno : mulM o ma mb = none := mulM_f (.inr (.inl (by simpa using hc2)))
      rw [hno]
      exact ⟨none, _, rfl, MOwn.nil _ _ _ _ _ _ _ (Nat.zero_le _), hS.thenX hX (Nat.le_refl _)⟩
    · clear hF a; intro hc2 a hF
      try simp only [decide_eq_true_eq, decide_eq_false_iff_not, Bool.not_eq_true', Bool.not_eq_false', Bool.not_true, Bool.not_false] at hc2
      refine sv hF (v_pickF rfl rfl) rfl ?_; clear hF a; intro a hF
      refine sv hF (v_move rfl) rfl ?_; clear hF a; intro a hF
      refine svg hF rfl ?_
      have hm1 : mayM o ma = true := by simpa using hc1
      have hm2 : mayM o mb = true := by simpa using hc2
      have hp1 := mayM_pos hm1
      have hp2 := mayM_pos hm2
      obtain ⟨rma, hrma⟩ : ∃ r, ma[0]? = some r := ⟨_, List.getElem?_eq_getElem (by omega)⟩
      obtain ⟨gma, oma, prma, crma, hgma, hkma, hrowma, -⟩ := hAma.row hrma
      have hwma := wid_at hrma
      rw [hgma] at hF
      refine sv hF (v_move rfl) rfl ?_; clear hF a; intro a hF
      refine svg hF rfl ?_
      refine sv hF (v_ixS sl30 rfl rfl (by decide) (by omega)) rfl ?_; clear hF a; intro a hF
      refine svg hF rfl ?_
      refine sv hF (v_load sc23 rfl hkma.c) rfl ?_; clear hF a; intro a hF
      refine svg hF rfl ?_
      refine sv hF (v_lenS rfl sl23 rfl) rfl ?_; clear hF a; intro a hF
      refine svg hF rfl ?_
      refine sv hF (v_move rfl) rfl ?_; clear hF a; intro a hF
      refine svg hF rfl ?_
      refine sv hF (v_lenS rfl sl30 rfl) rfl ?_; clear hF a; intro a hF
      refine svg hF rfl ?_
      refine sv hF (v_neq rfl rfl) rfl ?_; clear hF a; intro a hF
      refine sv hF (v_pickF rfl rfl) rfl ?_; clear hF a; intro a hF
      refine WL_nil (hK _ _ ?_)
      clear hK K
      replace hF := hF.sub _ (c_ 31 rfl (c_ 7 rfl (c_ 6 rfl (c_ 3 rfl (c_ 1 rfl (c_ 2 rfl (n_)))))))
      refine W_if hF rfl (fun hc3 => ?_) (fun hc3 => ?_)
      · skip
        try simp only [decide_eq_true_eq, decide_eq_false_iff_not, Bool.not_eq_true', Bool.not_eq_false', Bool.not_true, Bool.not_false] at hc3
        refine W_sr rfl (fun K hK => ?_)
        refine sv hF (v_assign rfl) rfl ?_; clear hF a; intro a hF
        refine sv hF (v_assign rfl) rfl ?_; clear hF a; intro a hF
        refine WL_nil (hK _ _ ?_)
        clear hK K
        replace hF := hF.sub _ (c_ 7 rfl (c_ 6 rfl (c_ 3 rfl (c_ 1 rfl (c_ 2 rfl (n_))))))
        refine W_ret ?_
        refine ⟨_, _, _, _, hMk, hS.inv, hF, rfl, rfl, fun w2 hX => ?_⟩
        have hno : mulM o ma mb = none := mulM_f (.inr (.inr (by rw [hwma]; omega)))
        rw [hno]
        exact ⟨none, _, rfl, MOwn.nil _ _ _ _ _ _ _ (Nat.zero_le _), hS.thenX hX (Nat.le_refl _)⟩
      · skip
        try simp only [decide_eq_true_eq, decide_eq_false_iff_not, Bool.not_eq_true', Bool.not_eq_false', Bool.not_true, Bool.not_false] at hc3
        refine W_skip ?_
        rw [← hgma] at hF
        have hyes := mulM_t hm1 hm2 (by rw [hwma]; omega)
        refine W_sr rfl (fun K hK => ?_)
        refine sv hF (v_assign rfl) rfl ?_; clear hF a; intro a hF
        refine WL_nil (hK _ _ ?_)
        clear hK K
        replace hF := hF.sub _ (c_ 8 rfl (c_ 7 rfl (c_ 6 rfl (c_ 3 rfl (c_ 1 rfl (c_ 2 rfl (n_)))))))
        refine W_seq ?_
        refine W_sr rfl (fun K hK => ?_)
        refine sv hF (v_move rfl) rfl ?_; clear hF a; intro a hF
        refine sv hF (v_lenS rfl sl30 rfl) rfl ?_; clear hF a; intro a hF
        refine sv hF (v_move rfl) rfl ?_; clear hF a; intro a hF
        refine WL_nil (hK _ _ ?_)
        clear hK K
        replace hF := hF.sub _ (c_ 34 rfl (c_ 33 rfl (c_ 32 rfl (c_ 8 rfl (c_ 7 rfl (c_ 6 rfl (c_ 3 rfl (c_ 2 rfl (n_)))))))))
        refine W_block ?_
        refine W_loop (fun m a w1 => ∃ (i : Nat) (v8 : Value) (b8 : Option Nat) (ds : List Nat), Fr ⟨54, ds⟩ [(2, .slice pmb mb.length cmb), (3, .pointer (some ⟨g3, 0, none⟩)), (8, v8), (32, .slice pma ma.length cma), (33, .int .i64 (ma.length : Int)), (34, .int .i64 (i : Int))] a ∧ (St FDx B w w1) ∧ (Fo FDx B w1 fv o) ∧ (Mat FDx B M w1 pma cma ma) ∧ (Mat FDx B M w1 pmb cmb mb) ∧ (MOwn FDx B w.heap.size 0 w1.heap.size w1 23 v8 b8 ((ma.take i).map (mulRow o mb))) ∧ (Mk w.heap.size ds w1) ∧ (Box FDx B g3 w1 g3 26 fv) ∧ (i ≤ ma.length) ∧ (m + i = ma.length)) (ma.length) ?_ ?_
        · skip
          exact ⟨0, _, none, _, hF.sub _ (c_ 2 rfl (c_ 3 rfl (c_ 8 rfl (c_ 32 rfl (c_ 33 rfl (c_ 34 rfl (n_))))))), hS, hf, hAma, hAmb, MOwn.nil _ _ _ _ _ _ _ (Nat.zero_le _), hMk, hb3, by omega, by omega⟩
        · skip
          clear hF
          clear hS hf hAma hAmb hMk hb3
          rintro m a w1 ⟨i, v8, b8, ds, hF, hS, hf, hAma, hAmb, hMO, hMk, hb3, hi, hm⟩
          obtain ⟨KM, hKe⟩ : ∃ KM, KM = w1.heap.size := ⟨_, rfl⟩
          rw [← hKe] at hMO
          have hKs : KM ≤ w1.heap.size := by omega
          have hNK : w.heap.size ≤ KM := by have := hS.ext.size; omega
          clear hKe
          refine W_sr rfl (fun K hK => ?_)
          refine sv hF (v_lss rfl rfl) rfl ?_; clear hF a; intro a hF
          refine WL_nil (hK _ _ ?_)
          clear hK K
          refine W_seq ?_
          refine W_if hF rfl (fun hc4 => ?_) (fun hc4 => ?_)
          · skip
            try simp only [decide_eq_true_eq, decide_eq_false_iff_not, Bool.not_eq_true', Bool.not_eq_false', Bool.not_true, Bool.not_false] at hc4
            have hlt : i < ma.length := by omega
            obtain ⟨r, hr⟩ : ∃ z, ma[i]? = some z := ⟨_, List.getElem?_eq_getElem hlt⟩
            obtain ⟨gx, ox, pr, cr, hgx, hkc, hrow, -⟩ := hAma.row hr
            have hrl := (hp1.2.2.2.2 r (List.mem_of_getElem? hr)).1
            have hrz : (zints r).length = r.length := zints_length r
            refine W_skip ?_
            refine W_seq ?_
            refine W_block ?_
            have hg3l : g3 < w1.heap.size := heap_lt hb3.blk
            rw [hgx] at hF
            refine W_sr rfl (fun K hK => ?_)
            refine sv hF (v_ixS sl30 rfl rfl (by omega) (by omega)) rfl ?_; clear hF a; intro a hF
            rw [← hgx] at hF
            refine sv hF (v_load sc23 rfl (by rw [toNat_c]; exact hkc.c)) rfl ?_; clear hF a; intro a hF
            obtain ⟨g10, hg10⟩ : ∃ g, g = w1.heap.size := ⟨_, rfl⟩
            have hn10 : b8 ≠ some g10 := fun e => by have := (hMO.lt _ e).2; omega
            have hKg : KM ≤ g10 := by omega
            clear hkc
            refine s_alloc (D := FDx) (B := B) hF zv23 (by decide) hS.inv rfl ?_; clear hF a; intro w' a hm hI' hb10 hsz hF
            replace hf := hf.mb hm
            replace hAma := hAma.mb hm (fun _ h => by cases h)
            replace hAmb := hAmb.mb hm (fun _ h => by cases h)
            replace hMO := hMO.mb0 hm
            replace hMk := hMk.mb hm (fun k e => by cases e)
            replace hb3 := hb3.mb hm (by simp)
            replace hKs := Nat.le_trans hKs hm.size
            replace hrow := hrow.mb hm (fun _ h => by cases h)
            replace hS := hS.mb0 hm
            clear hm hI' hsz
            rw [← hg10] at hb10 hF
            refine s_stb (D := FDx) (B := B) hF on23 rfl rfl (rfl) hb10 hS.inv ?_; intro w' hm hI' hbx'
            replace hf := hf.mb hm
            replace hAma := hAma.mb hm (fun k h => by cases h; exact Nat.le_trans (by omega) hb10.low)
            replace hAmb := hAmb.mb hm (fun k h => by cases h; exact Nat.le_trans (by omega) hb10.low)
            replace hMO := hMO.mbx hm (by assumption) (by omega) (by omega)
            replace hMk := hMk.mb hm (fun k e => by cases e; exact ⟨_, _, _, hb10.blk⟩)
            replace hb3 := hb3.mb hm (by simp; omega)
            replace hKs := Nat.le_trans hKs hm.size
            replace hrow := hrow.mb hm (fun k h => by cases h; exact Nat.le_trans (by omega) hb10.low)
            replace hS := hS.mb hm (fun k h => by cases h; omega)
            replace hb10 := hbx'
            clear hm hI' hbx'
            have hl10 := heap_lt hb10.blk
            refine WL_nil (hK _ _ ?_)
            clear hK K
            replace hF := hF.sub _ (c_ 10 rfl (c_ 2 rfl (c_ 3 rfl (c_ 8 rfl (c_ 32 rfl (c_ 33 rfl (c_ 34 rfl (n_))))))))
            refine W_sr rfl (fun K hK => ?_)
            obtain ⟨g11, hg11⟩ : ∃ g, g = w'.heap.size := ⟨_, rfl⟩
            have hn11 : b8 ≠ some g11 := fun e => by have := (hMO.lt _ e).2; omega
            refine s_alloc (D := FDx) (B := B) hF zv23 (by decide) hS.inv rfl ?_; clear hF a; intro w' a hm hI' hb11 hsz hF
            replace hf := hf.mb hm
            replace hAma := hAma.mb hm (fun _ h => by cases h)
            replace hAmb := hAmb.mb hm (fun _ h => by cases h)
            replace hMO := hMO.mb0 hm
            replace hMk := hMk.mb hm (fun k e => by cases e)
            replace hb3 := hb3.mb hm (by simp)
            replace hKs := Nat.le_trans hKs hm.size
            replace hrow := hrow.mb hm (fun _ h => by cases h)
            replace hb10 := hb10.mb hm (by simp)
            replace hS := hS.mb0 hm
            clear hm hI' hsz
            rw [← hg11] at hb11 hF
            have hl11 := heap_lt hb11.blk
            refine WL_nil (hK _ _ ?_)
            clear hK K
            refine W_seq ?_
            refine W_sr rfl (fun K hK => ?_)
            refine sv hF (v_move rfl) rfl ?_; clear hF a; intro a hF
            refine sc hF rfl rfl rfl en71 rfl (columns_ok B pmb cmb mb _ hS.inv) ?_; clear hF a; intro v w' a hv hF
            obtain ⟨pb, rfl, hpb, hkb, hS'⟩ := hv
            replace hf := hf.st hS'
            replace hAma := hAma.st hS'
            replace hAmb := hAmb.st hS'
            replace hMO := hMO.st (by decide) hS'
            replace hMk := hMk.st hS'
            replace hb3 := hb3.st hS'
            replace hKs := Nat.le_trans hKs hS'.ext.size
            replace hrow := hrow.st hS'
            replace hb10 := hb10.st hS'
            replace hb11 := hb11.st hS'
            replace hS := hS.trans hS'
            clear hS'
            refine WL_nil (hK _ _ ?_)
            clear hK K
            replace hF := hF.sub _ (c_ 39 rfl (c_ 11 rfl (c_ 10 rfl (c_ 2 rfl (c_ 3 rfl (c_ 8 rfl (c_ 32 rfl (c_ 33 rfl (c_ 34 rfl (n_))))))))))
            obtain ⟨nr, hnr⟩ : ∃ n, n = w'.heap.size := ⟨_, rfl⟩
            have hsw := hS.ext.size
            have hds : ∀ d ∈ ds, d < w'.heap.size := fun d hd => heap_lt (hMk.2 d hd).2
            have hpl := hkb.2.1
            have hpl2 : pb < w'.heap.size := hpl
            refine W_block ?_
            refine W_rf (D := FDx) (B := B) (fun k A => ∃ v11 b11, Box FDx B g11 A g11 23 v11 ∧ Gam.Own FDx B nr A FDx.E v11 b11 (zints ((mulRow o mb r).take k)) ∧ St FDx B w A ∧ Mk w.heap.size ds A ∧ Box FDx B g3 A g3 26 fv ∧ Box FDx B g10 A g10 23 (.slice pr r.length cr) ∧ Fo FDx B A fv o ∧ Row FDx B M A (.slice pr r.length cr) (zints r) ∧ Mat FDx B M A pma cma ma ∧ Mat FDx B M A pmb cmb mb ∧ MOwn FDx B w.heap.size 0 KM A 23 v8 b8 ((ma.take i).map (mulRow o mb))) (fun _ => False) (fun v a2 _ => Fr ⟨54, []⟩ [(3, .pointer (some ⟨g3, 0, none⟩)), (10, .pointer (some ⟨g10, 0, none⟩)), (11, .pointer (some ⟨g11, 0, none⟩)), (12, v)] a2) hF rfl rfl (ent Tryz.func85 (by kernel_rfl) (by kernel_rfl)) hS.inv (columns_seq B M pb _ cmb mb (fun k => k = g11 ∨ w'.heap.size ≤ k) _ hkb hAmb (by rintro (h | h) <;> omega) (by rintro k h (h2 | h2) <;> omega) (fun k h => .inr h) (by omega) (fun r hr => (hp2.2.2.2.2 r hr).1) (by omega) (by omega)) (fun k h => .inr h) ?_ ?_ ?_ ?_ (⟨_, none, hb11, Gam.Own.nil _ _ _ _ _, hS, hMk, hb3, hb10, hf, hrow, hAma, hAmb, hMO⟩) ?_ ?_ ?_ ?_
            · rintro k A C ⟨v11, b11, h1, h2, h3, h4, h5, h6, h7, h8, h9, h10, h11⟩ hX
              exact ⟨v11, b11, h1.xt hX, h2.xt (by decide) hX, h3.thenX hX hsw, h4.xt hX hds, h5.xt hX, h6.xt hX, h7.xt hX, h8.xt hX, h9.xt hX, h10.xt hX, h11.xt (by decide) hX⟩
            · exact fun _ _ h _ => h
            · exact fun _ _ _ _ h _ => h
            · exact fun x v A C h hX => h.xt hX
            · skip
              clear hF hS
              intro l i x v A a hx hJ hIA he hF
              have hS := St.refl hIA
              refine Rd.W_reg rfl rfl (fun K hK => ?_)
              refine sv hF (v_assign rfl) rfl ?_; clear hF a; intro a hF
              refine WL_nil (hK _ _ ?_)
              clear hK K
              replace hF := hF.sub _ (c_ 12 rfl (c_ 11 rfl (c_ 10 rfl (c_ 3 rfl (n_)))))
              exact ⟨hS, hF.sub _ (c_ 3 rfl (c_ 10 rfl (c_ 11 rfl (c_ 12 rfl (n_)))))⟩
            · skip
              clear hF hS hMk hb3 hb10 hb11 hf hrow hAma hAmb hMO
              rintro l k x v A a hx ⟨v11, b11, hb11, hO, hSw, hMk, hb3, hb10, hf, hrow, hAma, hAmb, hMO⟩ hz0 he hF
              obtain ⟨hk, rfl⟩ := cols_get hx
              obtain ⟨bc, hC⟩ := he
              obtain ⟨pc, cc, rfl⟩ := hC.shape
              have hc := hC.row (by decide)
              clear hC
              have hcl : (zints (colAt mb k)).length = (colAt mb k).length := zints_length _
              have hcl2 := colAt_length mb k
              have hml := mulRow_length o mb r
              have hnA : nr ≤ A.heap.size := by have := hz0.ext.size; omega
              have hS : StZ FDx B (fun k => k = g11 ∨ w'.heap.size ≤ k) A A := StZ.refl hSw.inv
              rw [hcl] at hc hF
              refine Rd.W_block ?_
              refine Rd.W_dS (fun w2 => w2.cell? ⟨g3, 0, none⟩ = some fv ∧ w2.cell? ⟨g10, 0, none⟩ = some (.slice pr r.length cr)) (m := 8) rfl hmix rfl (fun K hK => ?_)
              have hS' := St.drew hS.inv
              replace hb11 := hb11.st hS'
              replace hO := hO.st (by decide) hS'
              replace hSw := hSw.trans hS'
              replace hMk := hMk.st hS'
              replace hb3 := hb3.st hS'
              replace hb10 := hb10.st hS'
              replace hf := hf.st hS'
              replace hrow := hrow.st hS'
              replace hAma := hAma.st hS'
              replace hAmb := hAmb.st hS'
              replace hMO := hMO.st (by decide) hS'
              replace hc := (hc.st hS').mono hS'.ext.size
              replace hnA := Nat.le_trans hnA hS'.ext.size
              replace hS := hS.trans hS'
              clear hS'
              have hSS := And.intro hb3.at hb10.at
              refine b_v (i := 1) rfl (by kernel_rfl) hF (fun w2 hx => v_load sc26 rfl hx.1) rfl hSS ?_; clear hF a; intro a hF
              refine b_v (i := 2) rfl (by kernel_rfl) hF (fun w2 hx => v_load sc23 rfl hx.2) rfl hSS ?_; clear hF a; intro a hF
              refine b_v (i := 3) rfl (by kernel_rfl) hF (fun w2 hx => v_move rfl) rfl hSS ?_; clear hF a; intro a hF
              refine b_e2 (i := 0) (i' := 4) (by kernel_rfl) rfl rfl ?_ ?_
              · skip
                refine sv hF (v_load sc23 rfl hb11.at) rfl ?_; clear hF a; intro a hF
                refine WL_nil ⟨hSS, ?_⟩
                refine b_e (i := 4) (by kernel_rfl) rfl ?_
                refine sc hF rfl rfl rfl en72 rfl (dot_ok B M _ o fv pr cr r pc cc (colAt mb k) _ hS.inv hf hrow hc (by omega) (by omega)) ?_; clear hF a; intro v w' a hv hF
                obtain ⟨rfl, hS'⟩ := hv
                replace hb11 := hb11.st hS'
                replace hO := hO.st (by decide) hS'
                replace hSw := hSw.trans hS'
                replace hMk := hMk.st hS'
                replace hb3 := hb3.st hS'
                replace hb10 := hb10.st hS'
                replace hf := hf.st hS'
                replace hrow := hrow.st hS'
                replace hAma := hAma.st hS'
                replace hAmb := hAmb.st hS'
                replace hMO := hMO.st (by decide) hS'
                replace hc := (hc.st hS').mono hS'.ext.size
                replace hnA := Nat.le_trans hnA hS'.ext.size
                replace hS := hS.trans hS'
                clear hS'
                clear hSS
                have hSS := And.intro hb3.at hb10.at
                refine WL_nil ⟨hSS, ?_⟩
                refine b_e (i := 5) (by kernel_rfl) rfl ?_
                refine s_bs (D := FDx) (B := B) hF sl23 rfl rfl (by decide) (by simp [Value.cells]) (by decide) hS.inv rfl ?_; clear hF a; intro w' a hm hI' hL hF
                replace hb11 := hb11.mb hm (by simp)
                replace hO := hO.mb hm (fun _ _ => by simp)
                replace hSw := hSw.mb0 hm
                replace hMk := hMk.mb hm (fun k e => by cases e)
                replace hb3 := hb3.mb hm (by simp)
                replace hb10 := hb10.mb hm (by simp)
                replace hf := hf.mb hm
                replace hrow := hrow.mb hm (fun _ h => by cases h)
                replace hAma := hAma.mb hm (fun _ h => by cases h)
                replace hAmb := hAmb.mb hm (fun _ h => by cases h)
                replace hMO := hMO.mb0 hm
                replace hnA := Nat.le_trans hnA hm.size
                replace hS := hS.mb0 hm
                clear hm hI'
                clear hSS
                have hSS := And.intro hb3.at hb10.at
                refine WL_nil ⟨hSS, ?_⟩
                refine b_e (i := 6) (by kernel_rfl) rfl ?_
                refine s_app (D := FDx) (B := B) hF rfl sl23 rfl rfl hO (hL.row (by decide)) (by simp [Value.oneCell']) (by simp; omega) (by simp [maxLen]; omega) (hnA) (by decide) hS.inv rfl ?_; clear hF a; intro v' b' w' a ho' hm hI' hb' hF
                replace hb11 := hb11.mb hm (hb11.ne_own hO (by decide))
                replace hSw := hSw.mb hm (fun k h => Nat.le_trans (by omega) (hO.lt k h).1)
                replace hMk := hMk.mb hm hO.isrow
                replace hb3 := hb3.mb hm (hb3.ne_own hO (by decide))
                replace hb10 := hb10.mb hm (hb10.ne_own hO (by decide))
                replace hf := hf.mb hm
                replace hrow := hrow.mb hm (fun k h => Nat.le_trans (by omega) (hO.lt k h).1)
                replace hAma := hAma.mb hm (fun k h => Nat.le_trans (by omega) (hO.lt k h).1)
                replace hAmb := hAmb.mb hm (fun k h => Nat.le_trans (by omega) (hO.lt k h).1)
                replace hMO := hMO.mbo hm hO (by decide) (by omega) (Nat.zero_le _)
                replace hnA := Nat.le_trans hnA hm.size
                replace hS := hS.mb hm (fun k h => ⟨.inr (by have := (hO.lt k h).1; omega), hO.isrow k h⟩)
                replace hO := ho'
                clear hm hI' ho'
                clear hSS
                have hSS := And.intro hb3.at hb10.at
                refine WL_nil ⟨hSS, ?_⟩
                refine b_e (i := 7) (by kernel_rfl) rfl ?_
                refine s_stb (D := FDx) (B := B) hF on23 rfl rfl (by obtain ⟨_, _, rfl⟩ := hO.shape; rfl) hb11 hS.inv ?_; intro w' hm hI' hbx'
                replace hO := hO.mb hm ((fun k e e2 => hb11.ne_own hO (by decide) (e.trans e2.symm)))
                replace hSw := hSw.mb hm (fun k h => by cases h; omega)
                replace hMk := hMk.mb hm (fun k e => by cases e; exact ⟨_, _, _, hb11.blk⟩)
                replace hb3 := hb3.mb hm (by simp; omega)
                replace hb10 := hb10.mb hm (by simp; omega)
                replace hf := hf.mb hm
                replace hrow := hrow.mb hm (fun k h => by cases h; exact Nat.le_trans (by omega) hb11.low)
                replace hAma := hAma.mb hm (fun k h => by cases h; exact Nat.le_trans (by omega) hb11.low)
                replace hAmb := hAmb.mb hm (fun k h => by cases h; exact Nat.le_trans (by omega) hb11.low)
                replace hMO := hMO.mbx hm (by assumption) (by omega) (by omega)
                replace hnA := Nat.le_trans hnA hm.size
                replace hS := hS.mb hm (fun k h => ⟨.inl (by cases h; rfl), by cases h; exact ⟨_, _, _, hb11.blk⟩⟩)
                replace hb11 := hbx'
                clear hm hI' hbx'
                clear hSS
                have hSS := And.intro hb3.at hb10.at
                refine WL_nil ⟨hSS, ?_⟩
                refine b_done (by kernel_rfl) (hK _ _ ?_)
                clear hK K
                replace hF := hF.sub _ (n_)
                exact ⟨⟨_, _, hb11, hO.cast (by rw [mulRow_snoc hk]; simp [zints]), hSw, hMk, hb3, hb10, hf, hrow, hAma, hAmb, hMO⟩, hS⟩
              · skip
                refine sc hF rfl rfl rfl en72 rfl (dot_ok B M _ o fv pr cr r pc cc (colAt mb k) _ hS.inv hf hrow hc (by omega) (by omega)) ?_; clear hF a; intro v w' a hv hF
                obtain ⟨rfl, hS'⟩ := hv
                replace hb11 := hb11.st hS'
                replace hO := hO.st (by decide) hS'
                replace hSw := hSw.trans hS'
                replace hMk := hMk.st hS'
                replace hb3 := hb3.st hS'
                replace hb10 := hb10.st hS'
                replace hf := hf.st hS'
                replace hrow := hrow.st hS'
                replace hAma := hAma.st hS'
                replace hAmb := hAmb.st hS'
                replace hMO := hMO.st (by decide) hS'
                replace hc := (hc.st hS').mono hS'.ext.size
                replace hnA := Nat.le_trans hnA hS'.ext.size
                replace hS := hS.trans hS'
                clear hS'
                clear hSS
                have hSS := And.intro hb3.at hb10.at
                refine WL_nil ⟨hSS, ?_⟩
                refine b_e2 (i := 0) (i' := 5) (by kernel_rfl) rfl rfl ?_ ?_
                · skip
                  refine sv hF (v_load sc23 rfl hb11.at) rfl ?_; clear hF a; intro a hF
                  refine WL_nil ⟨hSS, ?_⟩
                  refine b_e (i := 5) (by kernel_rfl) rfl ?_
                  refine s_bs (D := FDx) (B := B) hF sl23 rfl rfl (by decide) (by simp [Value.cells]) (by decide) hS.inv rfl ?_; clear hF a; intro w' a hm hI' hL hF
                  replace hb11 := hb11.mb hm (by simp)
                  replace hO := hO.mb hm (fun _ _ => by simp)
                  replace hSw := hSw.mb0 hm
                  replace hMk := hMk.mb hm (fun k e => by cases e)
                  replace hb3 := hb3.mb hm (by simp)
                  replace hb10 := hb10.mb hm (by simp)
                  replace hf := hf.mb hm
                  replace hrow := hrow.mb hm (fun _ h => by cases h)
                  replace hAma := hAma.mb hm (fun _ h => by cases h)
                  replace hAmb := hAmb.mb hm (fun _ h => by cases h)
                  replace hMO := hMO.mb0 hm
                  replace hnA := Nat.le_trans hnA hm.size
                  replace hS := hS.mb0 hm
                  clear hm hI'
                  clear hSS
                  have hSS := And.intro hb3.at hb10.at
                  refine WL_nil ⟨hSS, ?_⟩
                  refine b_e (i := 6) (by kernel_rfl) rfl ?_
                  refine s_app (D := FDx) (B := B) hF rfl sl23 rfl rfl hO (hL.row (by decide)) (by simp [Value.oneCell']) (by simp; omega) (by simp [maxLen]; omega) (hnA) (by decide) hS.inv rfl ?_; clear hF a; intro v' b' w' a ho' hm hI' hb' hF
                  replace hb11 := hb11.mb hm (hb11.ne_own hO (by decide))
                  replace hSw := hSw.mb hm (fun k h => Nat.le_trans (by omega) (hO.lt k h).1)
                  replace hMk := hMk.mb hm hO.isrow
                  replace hb3 := hb3.mb hm (hb3.ne_own hO (by decide))
                  replace hb10 := hb10.mb hm (hb10.ne_own hO (by decide))
                  replace hf := hf.mb hm
                  replace hrow := hrow.mb hm (fun k h => Nat.le_trans (by omega) (hO.lt k h).1)
                  replace hAma := hAma.mb hm (fun k h => Nat.le_trans (by omega) (hO.lt k h).1)
                  replace hAmb := hAmb.mb hm (fun k h => Nat.le_trans (by omega) (hO.lt k h).1)
                  replace hMO := hMO.mbo hm hO (by decide) (by omega) (Nat.zero_le _)
                  replace hnA := Nat.le_trans hnA hm.size
                  replace hS := hS.mb hm (fun k h => ⟨.inr (by have := (hO.lt k h).1; omega), hO.isrow k h⟩)
                  replace hO := ho'
                  clear hm hI' ho'
                  clear hSS
                  have hSS := And.intro hb3.at hb10.at
                  refine WL_nil ⟨hSS, ?_⟩
                  refine b_e (i := 7) (by kernel_rfl) rfl ?_
                  refine s_stb (D := FDx) (B := B) hF on23 rfl rfl (by obtain ⟨_, _, rfl⟩ := hO.shape; rfl) hb11 hS.inv ?_; intro w' hm hI' hbx'
                  replace hO := hO.mb hm ((fun k e e2 => hb11.ne_own hO (by decide) (e.trans e2.symm)))
                  replace hSw := hSw.mb hm (fun k h => by cases h; omega)
                  replace hMk := hMk.mb hm (fun k e => by cases e; exact ⟨_, _, _, hb11.blk⟩)
                  replace hb3 := hb3.mb hm (by simp; omega)
                  replace hb10 := hb10.mb hm (by simp; omega)
                  replace hf := hf.mb hm
                  replace hrow := hrow.mb hm (fun k h => by cases h; exact Nat.le_trans (by omega) hb11.low)
                  replace hAma := hAma.mb hm (fun k h => by cases h; exact Nat.le_trans (by omega) hb11.low)
                  replace hAmb := hAmb.mb hm (fun k h => by cases h; exact Nat.le_trans (by omega) hb11.low)
                  replace hMO := hMO.mbx hm (by assumption) (by omega) (by omega)
                  replace hnA := Nat.le_trans hnA hm.size
                  replace hS := hS.mb hm (fun k h => ⟨.inl (by cases h; rfl), by cases h; exact ⟨_, _, _, hb11.blk⟩⟩)
                  replace hb11 := hbx'
                  clear hm hI' hbx'
                  clear hSS
                  have hSS := And.intro hb3.at hb10.at
                  refine WL_nil ⟨hSS, ?_⟩
                  refine b_done (by kernel_rfl) (hK _ _ ?_)
                  clear hK K
                  replace hF := hF.sub _ (n_)
                  exact ⟨⟨_, _, hb11, hO.cast (by rw [mulRow_snoc hk]; simp [zints]), hSw, hMk, hb3, hb10, hf, hrow, hAma, hAmb, hMO⟩, hS⟩
                · skip
                  refine s_bs (D := FDx) (B := B) hF sl23 rfl rfl (by decide) (by simp [Value.cells]) (by decide) hS.inv rfl ?_; clear hF a; intro w' a hm hI' hL hF
                  replace hb11 := hb11.mb hm (by simp)
                  replace hO := hO.mb hm (fun _ _ => by simp)
                  replace hSw := hSw.mb0 hm
                  replace hMk := hMk.mb hm (fun k e => by cases e)
                  replace hb3 := hb3.mb hm (by simp)
                  replace hb10 := hb10.mb hm (by simp)
                  replace hf := hf.mb hm
                  replace hrow := hrow.mb hm (fun _ h => by cases h)
                  replace hAma := hAma.mb hm (fun _ h => by cases h)
                  replace hAmb := hAmb.mb hm (fun _ h => by cases h)
                  replace hMO := hMO.mb0 hm
                  replace hnA := Nat.le_trans hnA hm.size
                  replace hS := hS.mb0 hm
                  clear hm hI'
                  clear hSS
                  have hSS := And.intro hb3.at hb10.at
                  refine WL_nil ⟨hSS, ?_⟩
                  refine b_e (i := 0) (by kernel_rfl) rfl ?_
                  refine sv hF (v_load sc23 rfl hb11.at) rfl ?_; clear hF a; intro a hF
                  refine WL_nil ⟨hSS, ?_⟩
                  refine b_e (i := 6) (by kernel_rfl) rfl ?_
                  refine s_app (D := FDx) (B := B) hF rfl sl23 rfl rfl hO (hL.row (by decide)) (by simp [Value.oneCell']) (by simp; omega) (by simp [maxLen]; omega) (hnA) (by decide) hS.inv rfl ?_; clear hF a; intro v' b' w' a ho' hm hI' hb' hF
                  replace hb11 := hb11.mb hm (hb11.ne_own hO (by decide))
                  replace hSw := hSw.mb hm (fun k h => Nat.le_trans (by omega) (hO.lt k h).1)
                  replace hMk := hMk.mb hm hO.isrow
                  replace hb3 := hb3.mb hm (hb3.ne_own hO (by decide))
                  replace hb10 := hb10.mb hm (hb10.ne_own hO (by decide))
                  replace hf := hf.mb hm
                  replace hrow := hrow.mb hm (fun k h => Nat.le_trans (by omega) (hO.lt k h).1)
                  replace hAma := hAma.mb hm (fun k h => Nat.le_trans (by omega) (hO.lt k h).1)
                  replace hAmb := hAmb.mb hm (fun k h => Nat.le_trans (by omega) (hO.lt k h).1)
                  replace hMO := hMO.mbo hm hO (by decide) (by omega) (Nat.zero_le _)
                  replace hnA := Nat.le_trans hnA hm.size
                  replace hS := hS.mb hm (fun k h => ⟨.inr (by have := (hO.lt k h).1; omega), hO.isrow k h⟩)
                  replace hO := ho'
                  clear hm hI' ho'
                  clear hSS
                  have hSS := And.intro hb3.at hb10.at
                  refine WL_nil ⟨hSS, ?_⟩
                  refine b_e (i := 7) (by kernel_rfl) rfl ?_
                  refine s_stb (D := FDx) (B := B) hF on23 rfl rfl (by obtain ⟨_, _, rfl⟩ := hO.shape; rfl) hb11 hS.inv ?_; intro w' hm hI' hbx'
                  replace hO := hO.mb hm ((fun k e e2 => hb11.ne_own hO (by decide) (e.trans e2.symm)))
                  replace hSw := hSw.mb hm (fun k h => by cases h; omega)
                  replace hMk := hMk.mb hm (fun k e => by cases e; exact ⟨_, _, _, hb11.blk⟩)
                  replace hb3 := hb3.mb hm (by simp; omega)
                  replace hb10 := hb10.mb hm (by simp; omega)
                  replace hf := hf.mb hm
                  replace hrow := hrow.mb hm (fun k h => by cases h; exact Nat.le_trans (by omega) hb11.low)
                  replace hAma := hAma.mb hm (fun k h => by cases h; exact Nat.le_trans (by omega) hb11.low)
                  replace hAmb := hAmb.mb hm (fun k h => by cases h; exact Nat.le_trans (by omega) hb11.low)
                  replace hMO := hMO.mbx hm (by assumption) (by omega) (by omega)
                  replace hnA := Nat.le_trans hnA hm.size
                  replace hS := hS.mb hm (fun k h => ⟨.inl (by cases h; rfl), by cases h; exact ⟨_, _, _, hb11.blk⟩⟩)
                  replace hb11 := hbx'
                  clear hm hI' hbx'
                  clear hSS
                  have hSS := And.intro hb3.at hb10.at
                  refine WL_nil ⟨hSS, ?_⟩
                  refine b_done (by kernel_rfl) (hK _ _ ?_)
                  clear hK K
                  replace hF := hF.sub _ (n_)
                  exact ⟨⟨_, _, hb11, hO.cast (by rw [mulRow_snoc hk]; simp [zints]), hSw, hMk, hb3, hb10, hf, hrow, hAma, hAmb, hMO⟩, hS⟩
            · skip
              clear hF hS hb3 hb10 hb11 hf hrow hAma hAmb hMO
              rintro a W hF hD ⟨v11, b11, hb11, hO, hS, hMk2, hb3, hb10, hf, hrow, hAma, hAmb, hMO⟩ hz0
              replace hMk := Mk.cons (D := FDx) (B := B) hMk (Nat.le_refl _) hsw hMk2 hD
              clear hMk2 hD
              replace hO := hO.cast (show zints ((mulRow o mb r).take _) = zints (mulRow o mb r) by rw [List.length_map, List.length_range, List.take_of_length_le (by rw [mulRow_length]; omega)])
              replace hKs := Nat.le_trans hKs hz0.ext.size
              clear hz0
              refine W_reg rfl (fun K hK => ?_)
              refine sv hF (v_move rfl) rfl ?_; clear hF a; intro a hF
              refine sv hF (v_load sc23 rfl (by first | assumption | (rw [toNat_c]; assumption) | exact KC.c (by assumption) | (rw [toNat_c]; exact KC.c (by assumption)) | exact Box.at (by assumption))) rfl ?_; clear hF a; intro a hF
              obtain ⟨a_, c_r, rfl⟩ := hO.shape
              refine s_bs (D := FDx) (B := B) hF sl30 rfl rfl (by decide) (by simp [Value.cells]) (by decide) hS.inv rfl ?_; clear hF a; intro w' a hm hI' hL hF
              replace hb11 := hb11.mb hm (by simp)
              replace hO := hO.mb hm (fun _ _ => by simp)
              replace hMk := hMk.mb hm (fun k e => by cases e)
              replace hb3 := hb3.mb hm (by simp)
              replace hf := hf.mb hm
              replace hAma := hAma.mb hm (fun _ h => by cases h)
              replace hAmb := hAmb.mb hm (fun _ h => by cases h)
              replace hMO := hMO.mb0 hm
              replace hKs := Nat.le_trans hKs hm.size
              replace hS := hS.mb0 hm
              clear hm hI'
              replace hMO := hMO.up hKs
              clear hKs
              refine s_appM (D := FDx) (B := B) hF rfl sl30 rfl rfl hMO hL (.of hO (Nat.zero_le _)) rfl rfl (by simp; omega) (hS.ext.size) (by decide) (by decide) hS.inv rfl ?_; clear hF a; intro v' b' w' a ho' hm hI' hF
              replace hMk := hMk.mb hm hMO.isrow
              replace hb3 := hb3.mb hm (by obtain ⟨_, _, hO2, _⟩ := hMO.ex; exact hb3.ne_own hO2 (by decide))
              replace hf := hf.mb hm
              replace hAma := hAma.mb hm (fun k h => Nat.le_trans (by omega) (hMO.lt k h).1)
              replace hAmb := hAmb.mb hm (fun k h => Nat.le_trans (by omega) (hMO.lt k h).1)
              replace hS := hS.mb hm (fun k h => Nat.le_trans (Nat.le_refl _) (hMO.lt k h).1)
              have hKm := hm.size
              replace hMO := ho'
              clear hm hI' ho' hL
              refine sv hF (v_assign rfl) rfl ?_; clear hF a; intro a hF
              refine WL_nil (hK _ _ ?_)
              clear hK K
              replace hF := hF.sub _ (c_ 8 rfl (c_ 51 rfl (c_ 50 rfl (c_ 49 rfl (c_ 48 rfl (c_ 11 rfl (c_ 2 rfl (c_ 3 rfl (c_ 32 rfl (c_ 33 rfl (c_ 34 rfl (n_))))))))))))
              refine W_reg rfl (fun K hK => ?_)
              refine sv hF (v_addI rfl rfl (by omega)) rfl ?_; clear hF a; intro a hF
              refine sv hF (v_move rfl) rfl ?_; clear hF a; intro a hF
              refine WL_nil (hK _ _ ?_)
              clear hK K
              exact ⟨m - 1, by omega, i + 1, _, _, _, hF.sub _ (c_ 2 rfl (c_ 3 rfl (c_ 8 rfl (c_ 32 rfl (c_ 33 rfl (c_ 34 rfl (n_))))))), hS, hf, hAma, hAmb, (hMO.up hKm).cast (map_snoc hr).symm, hMk, hb3, by omega, by omega⟩
            · intro a1 w1 hF hD hj; exact hj.elim
          · skip
            try simp only [decide_eq_true_eq, decide_eq_false_iff_not, Bool.not_eq_true', Bool.not_eq_false', Bool.not_true, Bool.not_false] at hc4
            refine W_exit rfl ?_
            refine W_sr rfl (fun K hK => ?_)
            refine sv hF (v_move rfl) rfl ?_; clear hF a; intro a hF
            refine sv hF (v_assign rfl) rfl ?_; clear hF a; intro a hF
            refine sv hF (v_assign rfl) rfl ?_; clear hF a; intro a hF
            refine WL_nil (hK _ _ ?_)
            clear hK K
            replace hF := hF.sub _ (c_ 7 rfl (c_ 6 rfl (c_ 53 rfl (c_ 2 rfl (c_ 3 rfl (c_ 8 rfl (c_ 32 rfl (c_ 33 rfl (c_ 34 rfl (n_))))))))))
            refine W_ret ?_
            refine ⟨_, _, _, _, hMk, hS.inv, hF, rfl, rfl, fun w2 hX => ?_⟩
            obtain rfl : i = ma.length := by omega
            rw [List.take_length] at hMO
            rw [hyes]
            exact ⟨_, _, rfl, (hMO.xt (by decide) hX).up (Nat.le_trans hKs hX.size), hS.thenX hX (Nat.le_refl _)⟩

end Go.Proofs.YtcnlooajjnghaaaGreat

/- The walk of package matrix: Apply. -/
set_option linter.unusedVariables false
set_option linter.unusedSimpArgs false
namespace Go.Proofs.YtcnlooajjnghaaaGreat
open Go Go.Gam


namespace FxFMatE
theorem en46 : Ent Tryz.prog 46 := ent Tryz.func46 (by kernel_rfl) (by kernel_rfl)
theorem sc23 : Scalar Tryz.prog 23 := ⟨_, Tryz.underlying23, by simp, by simp⟩
theorem sc3 : Scalar Tryz.prog 3 := ⟨_, Tryz.underlying3, by simp, by simp⟩
theorem sl22 : Sl Tryz.prog 22 23 (.slice none 0 0) 24 := sl_of Tryz.underlying22 rfl (by kernel_rfl)
theorem sl23 : Sl Tryz.prog 23 3 (.int .i64 0) 8 := sl_of Tryz.underlying23 rfl (by kernel_rfl)
theorem sl30 : Sl Tryz.prog 30 23 (.slice none 0 0) 24 := sl_of Tryz.underlying30 rfl (by kernel_rfl)
end FxFMatE
open FxFMatE

set_option maxRecDepth 100000 in
set_option maxHeartbeats 1000000 in
theorem Apply_ok (B M : Nat) (o : Fq) (fv : Value) (pma : Option Addr) (cma : Nat) (ma : Mtx) (pl : Option Addr) (cl : Nat) (l : List Int) (w : World) (hI : Inv FDx B w) (hM : M ≤ w.heap.size) (hf : Fo FDx B w fv o) (hAma : Mat FDx B M w pma cma ma) (hlma : ma.length ≤ 1000) (hbma : ∀ r ∈ ma, r.length ≤ 1000) (hx : Row FDx B M w (.slice pl l.length cl) (zints l)) (hxl : l.length ≤ 1000) : Ret Tryz.prog 38 [fv, .slice pma ma.length cma, .slice pl l.length cl] w fun v w' => ∃ ob u, v = .tuple #[u, .int .i64 (errV (applyM o ma l))] ∧ Gam.Own FDx B w.heap.size w' FDx.E u ob (zints ((applyM o ma l).getD [])) ∧ St FDx B w w' := by
  refine enter2 52 [(0, fv), (1, .slice pma ma.length cma), (2, .slice pl l.length cl)] 6 7 Tryz.func38 rfl rfl rfl rfl rfl ?_; intro a hF
  have hS := St.refl hI
  refine W_sr rfl (fun K hK => ?_)
  refine sv hF (v_assign rfl) rfl ?_; clear hF a; intro a hF
  refine sv hF (v_assign rfl) rfl ?_; clear hF a; intro a hF
  refine WL_nil (hK _ _ ?_)
  clear hK K
  refine W_sr rfl (fun K hK => ?_)
  refine sv hF (v_assign rfl) rfl ?_; clear hF a; intro a hF
  refine WL_nil (hK _ _ ?_)
  clear hK K
  refine W_seq ?_
  refine W_sr rfl (fun K hK => ?_)
  refine sv hF (v_move rfl) rfl ?_; clear hF a; intro a hF
  refine sv hF (v_lenS rfl sl23 rfl) rfl ?_; clear hF a; intro a hF
  refine sv hF (v_move rfl) rfl ?_; clear hF a; intro a hF
  refine WL_nil (hK _ _ ?_)
  clear hK K
  replace hF := hF.sub _ (c_ 18 rfl (c_ 17 rfl (c_ 16 rfl (c_ 8 rfl (c_ 7 rfl (c_ 6 rfl (c_ 0 rfl (c_ 1 rfl (n_)))))))))
  refine W_block ?_
  refine W_loop (fun m a w1 => ∃ (i : Nat) (v8 : Value) (b8 : Option Nat), Fr 52 [(0, fv), (1, .slice pma ma.length cma), (8, v8), (16, .slice pl l.length cl), (17, .int .i64 (l.length : Int)), (18, .int .i64 (i : Int))] a ∧ (St FDx B w w1) ∧ (Fo FDx B w1 fv o) ∧ (Mat FDx B M w1 pma cma ma) ∧ (Row FDx B M w1 (.slice pl l.length cl) (zints l)) ∧ (MOwn FDx B w.heap.size 0 w1.heap.size w1 23 v8 b8 (colM (l.take i))) ∧ (i ≤ l.length) ∧ (m + i = l.length)) (l.length) ?_ ?_
  · skip
    exact ⟨0, _, none, hF.sub _ (c_ 0 rfl (c_ 1 rfl (c_ 8 rfl (c_ 16 rfl (c_ 17 rfl (c_ 18 rfl (n_))))))), hS, hf, hAma, hx, MOwn.nil _ _ _ _ _ _ _ (Nat.zero_le _), by omega, by omega⟩
  · skip
    clear hF
    clear hS hf hAma hx
    rintro m a w1 ⟨i, v8, b8, hF, hS, hf, hAma, hx, hMO, hi, hm⟩
    obtain ⟨KM, hKe⟩ : ∃ KM, KM = w1.heap.size := ⟨_, rfl⟩
    rw [← hKe] at hMO
    have hKs : KM ≤ w1.heap.size := by omega
    have hNK : w.heap.size ≤ KM := by have := hS.ext.size; omega
    clear hKe
    refine W_sr rfl (fun K hK => ?_)
    refine sv hF (v_lss rfl rfl) rfl ?_; clear hF a; intro a hF
    refine WL_nil (hK _ _ ?_)
    clear hK K
    refine W_seq ?_
    refine W_if hF rfl (fun hc1 => ?_) (fun hc1 => ?_)
    · skip
      try simp only [decide_eq_true_eq, decide_eq_false_iff_not, Bool.not_eq_true', Bool.not_eq_false', Bool.not_true, Bool.not_false] at hc1
      refine W_skip ?_
      refine W_seq ?_
      refine W_block ?_
      refine W_sr rfl (fun K hK => ?_)
      obtain ⟨x, hxx⟩ : ∃ z, l[i]? = some z := ⟨_, List.getElem?_eq_getElem (by omega)⟩
      obtain ⟨gx, ox, hgx, hkx, -⟩ := hx.kat (zints_at hxx)
      subst hgx
      refine sv hF (v_ixS sl23 rfl rfl (by omega) (by omega)) rfl ?_; clear hF a; intro a hF
      refine sv hF (v_load sc3 rfl (by rw [toNat_c]; exact hkx.c)) rfl ?_; clear hF a; intro a hF
      refine sv hF (v_assign rfl) rfl ?_; clear hF a; intro a hF
      refine WL_nil (hK _ _ ?_)
      clear hK K
      replace hF := hF.sub _ (c_ 10 rfl (c_ 0 rfl (c_ 1 rfl (c_ 8 rfl (c_ 16 rfl (c_ 17 rfl (c_ 18 rfl (n_))))))))
      refine W_reg rfl (fun K hK => ?_)
      refine sv hF (v_move rfl) rfl ?_; clear hF a; intro a hF
      refine sv hF (v_move rfl) rfl ?_; clear hF a; intro a hF
      refine s_bs (D := FDx) (B := B) hF sl23 rfl rfl (by decide) (by simp [Value.cells]) (by decide) hS.inv rfl ?_; clear hF a; intro w' a hm hI' hO hF
      replace hf := hf.mb hm
      replace hAma := hAma.mb hm (fun _ h => by cases h)
      replace hx := hx.mb hm (fun _ h => by cases h)
      replace hMO := hMO.mb0 hm
      replace hKs := Nat.le_trans hKs hm.size
      replace hS := hS.mb0 hm
      clear hm hI'
      refine s_bs (D := FDx) (B := B) hF sl30 rfl rfl (by decide) (by simp [Value.cells]) (by decide) hS.inv rfl ?_; clear hF a; intro w' a hm hI' hL hF
      replace hf := hf.mb hm
      replace hAma := hAma.mb hm (fun _ h => by cases h)
      replace hx := hx.mb hm (fun _ h => by cases h)
      replace hMO := hMO.mb0 hm
      replace hKs := Nat.le_trans hKs hm.size
      replace hO := hO.mb hm (fun _ _ => by simp)
      replace hS := hS.mb0 hm
      clear hm hI'
      replace hMO := hMO.up hKs
      clear hKs
      refine s_appM (D := FDx) (B := B) hF rfl sl30 rfl rfl hMO hL (.of (r := [x]) hO (Nat.zero_le _)) rfl rfl (by rw [colM_length]; simp; omega) (hS.ext.size) (by decide) (by decide) hS.inv rfl ?_; clear hF a; intro v' b' w' a ho' hm hI' hF
      replace hf := hf.mb hm
      replace hAma := hAma.mb hm (fun k h => Nat.le_trans (by omega) (hMO.lt k h).1)
      replace hx := hx.mb hm (fun k h => Nat.le_trans (by omega) (hMO.lt k h).1)
      replace hS := hS.mb hm (fun k h => (hMO.lt k h).1)
      have hKm := hm.size
      replace hMO := ho'
      clear hm hI' ho' hL
      refine sv hF (v_assign rfl) rfl ?_; clear hF a; intro a hF
      refine WL_nil (hK _ _ ?_)
      clear hK K
      replace hF := hF.sub _ (c_ 8 rfl (c_ 0 rfl (c_ 1 rfl (c_ 16 rfl (c_ 17 rfl (c_ 18 rfl (n_)))))))
      refine W_reg rfl (fun K hK => ?_)
      refine sv hF (v_addI rfl rfl (by omega)) rfl ?_; clear hF a; intro a hF
      refine sv hF (v_move rfl) rfl ?_; clear hF a; intro a hF
      refine WL_nil (hK _ _ ?_)
      clear hK K
      exact ⟨m - 1, by omega, i + 1, _, _, hF.sub _ (c_ 0 rfl (c_ 1 rfl (c_ 8 rfl (c_ 16 rfl (c_ 17 rfl (c_ 18 rfl (n_))))))), hS, hf, hAma, hx, (hMO.up hKm).cast (colM_snoc hxx).symm, by omega, by omega⟩
    · skip
      try simp only [decide_eq_true_eq, decide_eq_false_iff_not, Bool.not_eq_true', Bool.not_eq_false', Bool.not_true, Bool.not_false] at hc1
      obtain rfl : i = l.length := by omega
      rw [List.take_length] at hMO
      obtain ⟨sC, cC, rfl, hAC⟩ := hMO.mat (by decide) (Nat.zero_le _)
      clear hMO
      have hcl := colM_length l
      have h1000 : (1000 : Nat) ≤ maxLen := by decide
      refine W_exit rfl ?_
      refine W_sr rfl (fun K hK => ?_)
      refine sv hF (v_move rfl) rfl ?_; clear hF a; intro a hF
      refine sv hF (v_move rfl) rfl ?_; clear hF a; intro a hF
      refine sv hF (v_move rfl) rfl ?_; clear hF a; intro a hF
      refine sc hF rfl rfl rfl en46 rfl (MulM_ok B _ o fv _ cma ma _ cC (colM l) _ hS.inv (Nat.le_refl _) hf (hAma.mono (by have := hS.ext.size; omega)) (Nat.le_trans hlma (by decide)) (fun r hr => Nat.le_trans (hbma r hr) (by decide)) hAC (Nat.le_trans (by omega) h1000) (fun r hr => Nat.le_trans (show r.length ≤ 1000 by have := colM_one r hr; omega) h1000)) ?_; clear hF a; intro v w' a hv hF
      obtain ⟨ob, u, rfl, hMP, hS'⟩ := hv
      replace hS := hS.trans hS'
      clear hS'
      refine sv hF (v_move rfl) rfl ?_; clear hF a; intro a hF
      refine sv hF (v_ext rfl rfl) rfl ?_; clear hF a; intro a hF
      refine sv hF (v_ext rfl rfl) rfl ?_; clear hF a; intro a hF
      refine sv hF (v_assign rfl) rfl ?_; clear hF a; intro a hF
      refine sv hF (v_assign rfl) rfl ?_; clear hF a; intro a hF
      refine WL_nil (hK _ _ ?_)
      clear hK K
      replace hF := hF.sub _ (c_ 12 rfl (c_ 11 rfl (c_ 34 rfl (c_ 33 rfl (c_ 28 rfl (c_ 32 rfl (c_ 31 rfl (c_ 30 rfl (c_ 29 rfl (c_ 0 rfl (c_ 1 rfl (c_ 8 rfl (c_ 16 rfl (c_ 17 rfl (c_ 18 rfl (n_))))))))))))))))
      refine W_seq ?_
      refine W_sr rfl (fun K hK => ?_)
      refine sv hF (v_move rfl) rfl ?_; clear hF a; intro a hF
      refine sv hF (v_neq rfl rfl) rfl ?_; clear hF a; intro a hF
      refine WL_nil (hK _ _ ?_)
      clear hK K
      refine W_if hF rfl (fun hc2 => ?_) (fun hc2 => ?_)
      · skip
        try simp only [decide_eq_true_eq, decide_eq_false_iff_not, Bool.not_eq_true', Bool.not_eq_false', Bool.not_true, Bool.not_false] at hc2
        refine W_sr rfl (fun K hK => ?_)
        refine sv hF (v_move rfl) rfl ?_; clear hF a; intro a hF
        refine sv hF (v_assign rfl) rfl ?_; clear hF a; intro a hF
        refine sv hF (v_assign rfl) rfl ?_; clear hF a; intro a hF
        refine WL_nil (hK _ _ ?_)
        clear hK K
        refine W_ret ?_
        refine ⟨_, _, _, hF, rfl, rfl, ?_⟩
        have hno : applyM o ma l = none := by rw [applyM_eq, errV_ne hc2]; rfl
        rw [errV_ne hc2, hno]
        exact ⟨none, _, rfl, Gam.Own.nil _ _ _ _ _, hS⟩
      · skip
        try simp only [decide_eq_true_eq, decide_eq_false_iff_not, Bool.not_eq_true', Bool.not_eq_false', Bool.not_true, Bool.not_false] at hc2
        refine W_skip ?_
        obtain ⟨sm, cm, rfl, hAm⟩ := hMP.mat (by decide) (Nat.zero_le _)
        clear hMP
        obtain ⟨MM, hMMe⟩ : ∃ n, n = w'.heap.size := ⟨_, rfl⟩
        rw [← hMMe] at hAm
        have hMM : MM ≤ w'.heap.size := by omega
        have hNM : w.heap.size ≤ MM := by have := hS.ext.size; omega
        clear hMMe
        have hone := mulM_one' (o := o) (a := ma) (l := l)
        refine W_sr rfl (fun K hK => ?_)
        refine sv hF (v_assign rfl) rfl ?_; clear hF a; intro a hF
        refine WL_nil (hK _ _ ?_)
        clear hK K
        refine W_seq ?_
        refine W_sr rfl (fun K hK => ?_)
        refine sv hF (v_move rfl) rfl ?_; clear hF a; intro a hF
        refine sv hF (v_lenS rfl sl30 rfl) rfl ?_; clear hF a; intro a hF
        refine sv hF (v_move rfl) rfl ?_; clear hF a; intro a hF
        refine WL_nil (hK _ _ ?_)
        clear hK K
        refine W_block ?_
        refine W_loop (fun m2 a w2 => ∃ (j : Nat) (v14 : Value) (b14 : Option Nat), Fr 52 [(13, v14), (38, .slice sm ((mulM o ma (colM l)).getD []).length cm), (39, .int .i64 (((mulM o ma (colM l)).getD []).length : Int)), (40, .int .i64 (j : Int))] a ∧ (St FDx B w w2) ∧ (Mat FDx B MM w2 sm cm ((mulM o ma (colM l)).getD [])) ∧ (MM ≤ w2.heap.size) ∧ (Gam.Own FDx B MM w2 FDx.E v14 b14 (zints ((((mulM o ma (colM l)).getD []).take j).map fun r => r.getD 0 0))) ∧ (j ≤ ((mulM o ma (colM l)).getD []).length) ∧ (m2 + j = ((mulM o ma (colM l)).getD []).length)) (((mulM o ma (colM l)).getD []).length) ?_ ?_
        · skip
          exact ⟨0, _, none, hF.sub _ (c_ 13 rfl (c_ 38 rfl (c_ 39 rfl (c_ 40 rfl (n_))))), hS, hAm, hMM, Gam.Own.nil _ _ _ _ _, by omega, by omega⟩
        · skip
          clear hF
          clear hS hAm hMM
          rintro m2 a w2 ⟨j, v14, b14, hF, hS, hAm, hMM, hQ, hj, hm2⟩
          refine W_sr rfl (fun K hK => ?_)
          refine sv hF (v_lss rfl rfl) rfl ?_; clear hF a; intro a hF
          refine WL_nil (hK _ _ ?_)
          clear hK K
          refine W_seq ?_
          refine W_if hF rfl (fun hc3 => ?_) (fun hc3 => ?_)
          · skip
            try simp only [decide_eq_true_eq, decide_eq_false_iff_not, Bool.not_eq_true', Bool.not_eq_false', Bool.not_true, Bool.not_false] at hc3
            refine W_skip ?_
            refine W_seq ?_
            refine W_block ?_
            obtain ⟨s, hs⟩ : ∃ z, ((mulM o ma (colM l)).getD [])[j]? = some z := ⟨_, List.getElem?_eq_getElem (by omega)⟩
            obtain ⟨gm, om, ps, cs, hgm, hks, hrows, -⟩ := hAm.row hs
            subst hgm
            have hsl := hone.2 s (List.mem_of_getElem? hs)
            obtain ⟨y, hy⟩ : ∃ z, s[0]? = some z := ⟨_, List.getElem?_eq_getElem (by omega)⟩
            obtain ⟨gy, oy, hgy, hky, -⟩ := hrows.kat (zints_at hy)
            subst hgy
            refine W_sr rfl (fun K hK => ?_)
            refine sv hF (v_ixS sl30 rfl rfl (by omega) (by omega)) rfl ?_; clear hF a; intro a hF
            refine sv hF (v_load sc23 rfl (by rw [toNat_c]; exact hks.c)) rfl ?_; clear hF a; intro a hF
            refine sv hF (v_assign rfl) rfl ?_; clear hF a; intro a hF
            refine WL_nil (hK _ _ ?_)
            clear hK K
            refine W_reg rfl (fun K hK => ?_)
            refine sv hF (v_move rfl) rfl ?_; clear hF a; intro a hF
            refine sv hF (v_move rfl) rfl ?_; clear hF a; intro a hF
            refine sv hF (v_ixS sl23 rfl rfl (by decide) (by omega)) rfl ?_; clear hF a; intro a hF
            refine sv hF (v_load sc3 rfl (by exact hky.c)) rfl ?_; clear hF a; intro a hF
            refine s_bs (D := FDx) (B := B) hF sl23 rfl rfl (by decide) (by simp [Value.cells]) (by decide) hS.inv rfl ?_; clear hF a; intro w' a hm hI' hL hF
            replace hAm := hAm.mb hm (fun _ h => by cases h)
            replace hMM := Nat.le_trans hMM hm.size
            replace hQ := hQ.mb hm (fun _ _ => by simp)
            replace hS := hS.mb0 hm
            clear hm hI'
            refine s_app (D := FDx) (B := B) hF rfl sl23 rfl rfl hQ (hL.row (by decide)) (by simp [Value.oneCell']) (by simp; omega) (by simp [maxLen]; omega) (hMM) (by decide) hS.inv rfl ?_; clear hF a; intro v' b' w' a ho' hm hI' hb' hF
            replace hAm := hAm.mb hm (fun k h => Nat.le_trans (by omega) (hQ.lt k h).1)
            replace hMM := Nat.le_trans hMM hm.size
            replace hS := hS.mb hm (fun k h => Nat.le_trans (hNM) (hQ.lt k h).1)
            replace hQ := ho'
            clear hm hI' ho'
            refine sv hF (v_assign rfl) rfl ?_; clear hF a; intro a hF
            refine WL_nil (hK _ _ ?_)
            clear hK K
            refine W_reg rfl (fun K hK => ?_)
            refine sv hF (v_addI rfl rfl (by omega)) rfl ?_; clear hF a; intro a hF
            refine sv hF (v_move rfl) rfl ?_; clear hF a; intro a hF
            refine WL_nil (hK _ _ ?_)
            clear hK K
            exact ⟨m2 - 1, by omega, j + 1, _, _, hF.sub _ (c_ 13 rfl (c_ 38 rfl (c_ 39 rfl (c_ 40 rfl (n_))))), hS, hAm, hMM, hQ.cast (by rw [map_snoc hs, getD_at hy]; simp [zints]), by omega, by omega⟩
          · skip
            try simp only [decide_eq_true_eq, decide_eq_false_iff_not, Bool.not_eq_true', Bool.not_eq_false', Bool.not_true, Bool.not_false] at hc3
            refine W_exit rfl ?_
            refine W_sr rfl (fun K hK => ?_)
            refine sv hF (v_move rfl) rfl ?_; clear hF a; intro a hF
            refine sv hF (v_assign rfl) rfl ?_; clear hF a; intro a hF
            refine sv hF (v_assign rfl) rfl ?_; clear hF a; intro a hF
            refine WL_nil (hK _ _ ?_)
            clear hK K
            refine W_ret ?_
            refine ⟨_, _, _, hF, rfl, rfl, ?_⟩
            obtain rfl : j = ((mulM o ma (colM l)).getD []).length := by omega
            rw [List.take_length] at hQ
            obtain ⟨mu, hmu⟩ := errV_eq (Decidable.of_not_not hc2)
            have hye : errV (applyM o ma l) = 0 := by rw [applyM_eq, hmu]; rfl
            rw [hye]
            exact ⟨_, _, rfl, (hQ.le hNM).cast (by rw [applyM_getD]), hS⟩

end Go.Proofs.YtcnlooajjnghaaaGreat

/- The walks of package invert: Inverse, Rank, Solve. -/
set_option linter.unusedVariables false
set_option linter.unusedSimpArgs false
namespace Go.Proofs.YtcnlooajjnghaaaGreat
open Go Go.Gam


namespace FxFInvD
theorem en8 : Ent Tryz.prog 8 := ent Tryz.func8 (by kernel_rfl) (by kernel_rfl)
theorem en26 : Ent Tryz.prog 26 := ent Tryz.func26 (by kernel_rfl) (by kernel_rfl)
theorem en27 : Ent Tryz.prog 27 := ent Tryz.func27 (by kernel_rfl) (by kernel_rfl)
theorem en28 : Ent Tryz.prog 28 := ent Tryz.func28 (by kernel_rfl) (by kernel_rfl)
theorem en29 : Ent Tryz.prog 29 := ent Tryz.func29 (by kernel_rfl) (by kernel_rfl)
theorem en30 : Ent Tryz.prog 30 := ent Tryz.func30 (by kernel_rfl) (by kernel_rfl)
theorem en34 : Ent Tryz.prog 34 := ent Tryz.func34 (by kernel_rfl) (by kernel_rfl)
theorem en35 : Ent Tryz.prog 35 := ent Tryz.func35 (by kernel_rfl) (by kernel_rfl)
theorem en37 : Ent Tryz.prog 37 := ent Tryz.func37 (by kernel_rfl) (by kernel_rfl)
theorem en38 : Ent Tryz.prog 38 := ent Tryz.func38 (by kernel_rfl) (by kernel_rfl)
theorem sc23 : Scalar Tryz.prog 23 := ⟨_, Tryz.underlying23, by simp, by simp⟩
theorem sc26 : Scalar Tryz.prog 26 := ⟨_, Tryz.underlying26, by simp, by simp⟩
theorem sl22 : Sl Tryz.prog 22 23 (.slice none 0 0) 24 := sl_of Tryz.underlying22 rfl (by kernel_rfl)
theorem sl23 : Sl Tryz.prog 23 3 (.int .i64 0) 8 := sl_of Tryz.underlying23 rfl (by kernel_rfl)
theorem sl30 : Sl Tryz.prog 30 23 (.slice none 0 0) 24 := sl_of Tryz.underlying30 rfl (by kernel_rfl)
end FxFInvD
open FxFInvD

set_option maxRecDepth 100000 in
set_option maxHeartbeats 1000000 in
theorem square_ok (B M : Nat) (o : Fq) (fv : Value) (pmt : Option Addr) (cmt : Nat) (mt : Mtx) (w : World) (hI : Inv FDx B w) (hf : Fo FDx B w fv o) (hAmt : Mat FDx B M w pmt cmt mt) (hlmt : mt.length ≤ maxLen) (hbmt : ∀ r ∈ mt, r.length ≤ maxLen) : Ret Tryz.prog 26 [fv, .slice pmt mt.length cmt] w fun v w' => v = .bool (sqM o mt) ∧ St FDx B w w' := by
  refine enter 17 [(0, fv), (1, .slice pmt mt.length cmt)] 4 Tryz.func26 rfl rfl rfl rfl rfl ?_; intro a hF
  have hS := St.refl hI
  refine W_sr rfl (fun K hK => ?_)
  refine sv hF (v_assign rfl) rfl ?_; clear hF a; intro a hF
  refine WL_nil (hK _ _ ?_)
  clear hK K
  refine W_sr rfl (fun K hK => ?_)
  refine sv hF (v_move rfl) rfl ?_; clear hF a; intro a hF
  refine sv hF (v_move rfl) rfl ?_; clear hF a; intro a hF
  refine sc hF rfl rfl rfl en34 rfl (May_ok B M o fv pmt cmt mt _ hS.inv hf hAmt hlmt hbmt) ?_; clear hF a; intro v w' a hv hF
  obtain ⟨rfl, hS'⟩ := hv
  replace hAmt := hAmt.st hS'
  replace hS := hS.trans hS'
  clear hS'
  obtain hc1 | hc1 : (mayM o mt) = true ∨ (mayM o mt) = false := by cases (mayM o mt) <;> simp
  · rw [hc1] at hF
    have hmay : mayM o mt = true := hc1
    have hmp := mayM_pos hmay
    obtain ⟨r0, h0⟩ : ∃ r, mt[0]? = some r := ⟨_, List.getElem?_eq_getElem (by omega)⟩
    obtain ⟨g0, o0, pr0, cr0, hg0, hk0, hrow0, -⟩ := hAmt.row h0
    have hw0 := wid_at h0
    subst hg0
    refine sv hF (v_move rfl) rfl ?_; clear hF a; intro a hF
    refine svg hF rfl ?_
    refine sv hF (v_move rfl) rfl ?_; clear hF a; intro a hF
    refine svg hF rfl ?_
    refine sv hF (v_lenS rfl sl30 rfl) rfl ?_; clear hF a; intro a hF
    refine svg hF rfl ?_
    refine sv hF (v_move rfl) rfl ?_; clear hF a; intro a hF
    refine svg hF rfl ?_
    refine sv hF (v_ixS sl30 rfl rfl (by decide) (by omega)) rfl ?_; clear hF a; intro a hF
    refine svg hF rfl ?_
    refine sv hF (v_load sc23 rfl hk0.c) rfl ?_; clear hF a; intro a hF
    refine svg hF rfl ?_
    refine sv hF (v_lenS rfl sl23 rfl) rfl ?_; clear hF a; intro a hF
    refine svg hF rfl ?_
    refine sv hF (v_eql rfl rfl) rfl ?_; clear hF a; intro a hF
    refine sv hF (v_pickT rfl rfl) rfl ?_; clear hF a; intro a hF
    refine sv hF (v_assign rfl) rfl ?_; clear hF a; intro a hF
    refine WL_nil (hK _ _ ?_)
    clear hK K
    replace hF := hF.sub _ (c_ 4 rfl (n_))
    refine W_ret ?_
    refine ⟨_, _, hF, rfl, ?_⟩
    exact ⟨by congr 1; unfold sqM; rw [hmay, hw0]; simp only [Bool.true_and]; rw [decide_eq_decide]; omega, hS⟩
  · rw [hc1] at hF
    refine sv hF (v_move rfl) rfl ?_; clear hF a; intro a hF
    refine svn hF rfl rfl rfl ?_; clear hF a; intro a hF
    refine svn hF rfl rfl rfl ?_; clear hF a; intro a hF
    refine svn hF rfl rfl rfl ?_; clear hF a; intro a hF
    refine svn hF rfl rfl rfl ?_; clear hF a; intro a hF
    refine svn hF rfl rfl rfl ?_; clear hF a; intro a hF
    refine svn hF rfl rfl rfl ?_; clear hF a; intro a hF
    refine svn hF rfl rfl rfl ?_; clear hF a; intro a hF
    refine sv hF (v_pickF rfl rfl) rfl ?_; clear hF a; intro a hF
    refine sv hF (v_assign rfl) rfl ?_; clear hF a; intro a hF
    refine WL_nil (hK _ _ ?_)
    clear hK K
    replace hF := hF.sub _ (c_ 4 rfl (n_))
    refine W_ret ?_
    refine ⟨_, _, hF, rfl, ?_⟩
    exact ⟨by congr 1; unfold sqM; rw [show mayM o mt = false by simpa using hc1]; rfl, hS⟩

set_option maxRecDepth 100000 in
set_option maxHeartbeats 1000000 in
theorem Inverse_ok (B M wb p : Nat) (hp : Prm wb p) (fv : Value) (pmt : Option Addr) (cmt : Nat) (mt : Mtx) (w : World) (hI : Inv FDx B w) (hM : M ≤ w.heap.size) (hf : Fo FDx B w fv (some (wb, p))) (hAmt : Mat FDx B M w pmt cmt mt) (hlmt : mt.length ≤ maxLen) (hbmt : ∀ r ∈ mt, r.length ≤ maxLen) : Ret Tryz.prog 8 [fv, .slice pmt mt.length cmt] w fun v w' => ∃ ob u, v = .tuple #[u, .int .i64 (invR hp mt).1] ∧ MOwn FDx B w.heap.size 0 w'.heap.size w' 23 u ob (invR hp mt).2 ∧ St FDx B w w' := by
  refine enter2 42 [(0, fv), (1, .slice pmt mt.length cmt)] 4 5 Tryz.func8 rfl rfl rfl rfl rfl ?_; intro a hF
  have hS := St.refl hI
  refine W_sr rfl (fun K hK => ?_)
  refine sv hF (v_assign rfl) rfl ?_; clear hF a; intro a hF
  refine sv hF (v_assign rfl) rfl ?_; clear hF a; intro a hF
  refine WL_nil (hK _ _ ?_)
  clear hK K
  refine W_seq ?_
  refine W_sr rfl (fun K hK => ?_)
  refine sv hF (v_move rfl) rfl ?_; clear hF a; intro a hF
  refine sv hF (v_move rfl) rfl ?_; clear hF a; intro a hF
  refine sc hF rfl rfl rfl en26 rfl (square_ok B M (some (wb, p)) fv pmt cmt mt _ hS.inv hf hAmt hlmt hbmt) ?_; clear hF a; intro v w' a hv hF
  obtain ⟨rfl, hS'⟩ := hv
  replace hf := hf.st hS'
  replace hAmt := hAmt.st hS'
  replace hS := hS.trans hS'
  clear hS'
  refine sv hF (v_not rfl) rfl ?_; clear hF a; intro a hF
  refine WL_nil (hK _ _ ?_)
  clear hK K
  replace hF := hF.sub _ (c_ 14 rfl (c_ 5 rfl (c_ 4 rfl (c_ 0 rfl (c_ 1 rfl (n_))))))
  refine W_if hF rfl (fun hc1 => ?_) (fun hc1 => ?_)
  · skip
    try simp only [decide_eq_true_eq, decide_eq_false_iff_not, Bool.not_eq_true', Bool.not_eq_false', Bool.not_true, Bool.not_false] at hc1
    refine W_sr rfl (fun K hK => ?_)
    refine sv hF (v_assign rfl) rfl ?_; clear hF a; intro a hF
    refine sv hF (v_assign rfl) rfl ?_; clear hF a; intro a hF
    refine WL_nil (hK _ _ ?_)
    clear hK K
    replace hF := hF.sub _ (c_ 5 rfl (c_ 4 rfl (c_ 0 rfl (c_ 1 rfl (n_)))))
    refine W_ret ?_
    refine ⟨_, _, _, hF, rfl, rfl, ?_⟩
    rw [invR_bad hp (by simpa using hc1)]
    exact ⟨none, _, rfl, MOwn.nil _ _ _ _ _ _ _ (Nat.zero_le _), hS⟩
  · skip
    try simp only [decide_eq_true_eq, decide_eq_false_iff_not, Bool.not_eq_true', Bool.not_eq_false', Bool.not_true, Bool.not_false] at hc1
    refine W_skip ?_
    have hsq : sqM (some (wb, p)) mt = true := by simpa using hc1
    obtain ⟨hmx, hn1, hn20, -⟩ := sqM_Mx hsq
    obtain ⟨n, hn⟩ : ∃ n, n = mt.length := ⟨_, rfl⟩
    rw [← hn] at hmx hn1 hn20 hF
    have hbd := hmx.bd hp
    have htab := hmx.eq_tab
    have hid : identM (n : Int) = tab n n I1 := by rw [identM_of ⟨hn1, hn20⟩, idM_tab]; rfl
    refine W_sr rfl (fun K hK => ?_)
    refine sv hF (v_move rfl) rfl ?_; clear hF a; intro a hF
    refine sv hF (v_lenS rfl sl30 rfl) rfl ?_; clear hF a; intro a hF
    refine sv hF (v_assign rfl) rfl ?_; clear hF a; intro a hF
    refine WL_nil (hK _ _ ?_)
    clear hK K
    replace hF := hF.sub _ (c_ 6 rfl (c_ 5 rfl (c_ 4 rfl (c_ 0 rfl (c_ 1 rfl (n_))))))
    refine W_sr rfl (fun K hK => ?_)
    refine sv hF (v_move rfl) rfl ?_; clear hF a; intro a hF
    refine sv hF (v_move rfl) rfl ?_; clear hF a; intro a hF
    refine sc hF rfl rfl rfl en28 rfl (Identity_ok B (n : Int) _ hS.inv (by omega)) ?_; clear hF a; intro v w' a hv hF
    obtain ⟨ob, ho, hS'⟩ := hv
    rw [hid] at ho
    obtain ⟨sI, cI, rfl, hId⟩ := ho.mat (by decide) (Nat.zero_le _)
    rw [tab_length] at hF
    clear ho
    replace hf := hf.st hS'
    replace hAmt := hAmt.st hS'
    replace hS := hS.trans hS'
    clear hS'
    refine sc hF rfl rfl rfl en27 rfl (beside_ok B _ n n n pmt sI cmt cI (en mt) I1 _ hS.inv (Nat.le_refl _) (htab ▸ hAmt.mono (Nat.le_trans hM hS.ext.size)) hId ⟨hn1, hn20⟩ ⟨hn1, hn20⟩ hn20) ?_; clear hF a; intro v w' a hv hF
    obtain ⟨gv, cap, bs, rc, rfl, hO, hW, hS'⟩ := hv
    replace hO := hO.le hS.ext.size
    replace hW := hW.le hS.ext.size
    clear hId hAmt
    replace hf := hf.st hS'
    replace hS := hS.trans hS'
    clear hS'
    refine sv hF (v_assign rfl) rfl ?_; clear hF a; intro a hF
    refine WL_nil (hK _ _ ?_)
    clear hK K
    replace hF := hF.sub _ (c_ 7 rfl (c_ 6 rfl (c_ 5 rfl (c_ 4 rfl (c_ 0 rfl (n_))))))
    refine W_seq ?_
    refine W_sr rfl (fun K hK => ?_)
    refine sv hF (v_move rfl) rfl ?_; clear hF a; intro a hF
    refine sv hF (v_move rfl) rfl ?_; clear hF a; intro a hF
    refine sv hF (v_move rfl) rfl ?_; clear hF a; intro a hF
    refine sc hF rfl rfl rfl en29 rfl (reduce_ok B w.heap.size wb p hp fv gv cap n (n + n) n bs rc _ _ hS.inv hf hO hW hS.ext.size (Fld.bes_bd hp.fld hbd hp.fld.I1_bd) (by omega) ⟨by omega, by omega⟩) ?_; clear hF a; intro v w' a hv hF
    clear hO hW bs rc
    obtain ⟨rfl, ⟨bs, rc, hO, hW⟩, hz⟩ := hv
    replace hW := hW
    replace hS := hS.thenZ hz (fun k hk => Nat.not_le.2 hk)
    clear hz hf
    refine sv hF (v_move rfl) rfl ?_; clear hF a; intro a hF
    refine sv hF (v_lss rfl rfl) rfl ?_; clear hF a; intro a hF
    refine WL_nil (hK _ _ ?_)
    clear hK K
    replace hF := hF.sub _ (c_ 26 rfl (c_ 7 rfl (c_ 6 rfl (c_ 5 rfl (c_ 4 rfl (n_))))))
    refine W_if hF rfl (fun hc2 => ?_) (fun hc2 => ?_)
    · skip
      try simp only [decide_eq_true_eq, decide_eq_false_iff_not, Bool.not_eq_true', Bool.not_eq_false', Bool.not_true, Bool.not_false] at hc2
      refine W_sr rfl (fun K hK => ?_)
      refine sv hF (v_assign rfl) rfl ?_; clear hF a; intro a hF
      refine sv hF (v_assign rfl) rfl ?_; clear hF a; intro a hF
      refine WL_nil (hK _ _ ?_)
      clear hK K
      replace hF := hF.sub _ (c_ 5 rfl (c_ 4 rfl (c_ 7 rfl (c_ 6 rfl (n_)))))
      refine W_ret ?_
      refine ⟨_, _, _, hF, rfl, rfl, ?_⟩
      rw [invR_none hp hsq (by rw [← hn]; exact iv_lt hp (by omega))]
      exact ⟨none, _, rfl, MOwn.nil _ _ _ _ _ _ _ (Nat.zero_le _), hS⟩
    · skip
      try simp only [decide_eq_true_eq, decide_eq_false_iff_not, Bool.not_eq_true', Bool.not_eq_false', Bool.not_true, Bool.not_false] at hc2
      refine W_skip ?_
      have hiv := iv_ge hp (n := n) (f := en mt) (by omega)
      have hinv := invR_some hp hsq (by rw [← hn]; exact hiv)
      rw [← hn] at hinv
      obtain ⟨K0, hK0⟩ : ∃ k, k = w'.heap.size := ⟨_, rfl⟩
      have hWd := hW.mat (gb := gv) hO (by decide)
      rw [← hK0] at hWd
      have hwK : w.heap.size ≤ K0 := by have := hS.ext.size; omega
      clear hO hW
      refine W_sr rfl (fun K hK => ?_)
      refine sv hF (v_assign rfl) rfl ?_; clear hF a; intro a hF
      refine WL_nil (hK _ _ ?_)
      clear hK K
      replace hF := hF.sub _ (c_ 8 rfl (c_ 7 rfl (c_ 6 rfl (c_ 5 rfl (c_ 4 rfl (n_))))))
      refine W_seq ?_
      refine W_sr rfl (fun K hK => ?_)
      refine sv hF (v_move rfl) rfl ?_; clear hF a; intro a hF
      refine sv hF (v_lenS rfl sl30 rfl) rfl ?_; clear hF a; intro a hF
      refine sv hF (v_move rfl) rfl ?_; clear hF a; intro a hF
      refine WL_nil (hK _ _ ?_)
      clear hK K
      replace hF := hF.sub _ (c_ 29 rfl (c_ 28 rfl (c_ 27 rfl (c_ 8 rfl (c_ 6 rfl (c_ 5 rfl (c_ 4 rfl (n_))))))))
      refine W_block ?_
      refine W_loop (fun m a w1 => ∃ (i : Nat) (v8 : Value) (b8 : Option Nat), Fr 42 [(6, .int .i64 (n : Int)), (8, v8), (27, .slice (some ⟨gv, 0, none⟩) n cap), (28, .int .i64 (n : Int)), (29, .int .i64 (i : Int))] a ∧ (St FDx B w w1) ∧ (Mat FDx B K0 w1 (some ⟨gv, 0, none⟩) cap (tab n (n + n) (hp.fld.red n (Fld.bes n (en mt) I1) n).1)) ∧ (MOwn FDx B K0 0 w1.heap.size w1 23 v8 b8 ((List.range i).map (trow n (half hp n (en mt))))) ∧ (K0 ≤ w1.heap.size) ∧ (i ≤ n) ∧ (m + i = n)) (n) ?_ ?_
      · skip
        exact ⟨0, _, none, hF.sub _ (c_ 6 rfl (c_ 8 rfl (c_ 27 rfl (c_ 28 rfl (c_ 29 rfl (n_)))))), hS, hWd, MOwn.nil _ _ _ _ _ _ _ (Nat.zero_le _), by omega, by omega, by omega⟩
      · skip
        clear hF
        clear hS hWd
        rintro m a w1 ⟨i, v8, b8, hF, hS, hWd, hMO, hKz, hi, hm⟩
        obtain ⟨KM, hKe⟩ : ∃ K, K = w1.heap.size := ⟨_, rfl⟩
        rw [← hKe] at hMO
        have hKs : KM ≤ w1.heap.size := by omega
        clear hKe
        refine W_sr rfl (fun K hK => ?_)
        refine sv hF (v_lss rfl rfl) rfl ?_; clear hF a; intro a hF
        refine WL_nil (hK _ _ ?_)
        clear hK K
        refine W_seq ?_
        refine W_if hF rfl (fun hc3 => ?_) (fun hc3 => ?_)
        · skip
          try simp only [decide_eq_true_eq, decide_eq_false_iff_not, Bool.not_eq_true', Bool.not_eq_false', Bool.not_true, Bool.not_false] at hc3
          have hlt : i < n := by omega
          obtain ⟨gw, ow, pr, cr, hgw, hkw, hrw, -⟩ := hWd.row (tab_at (f := (hp.fld.red n (Fld.bes n (en mt) I1) n).1) (m := n + n) hlt)
          cases hgw
          have hrl : ((List.range (n + n)).map fun j => (((hp.fld.red n (Fld.bes n (en mt) I1) n).1 i j : Nat) : Int)).length = n + n := by simp
          rw [hrl] at hrw hkw
          have hcr := hrw.capd
          have hpart := hrw.part (lo := n) (hi := n + n) (by omega) (by simp)
          have hhr := half_row hp n (en mt) i
          have hxs : (List.take (n + n) (zints ((List.range (n + n)).map fun j => (((hp.fld.red n (Fld.bes n (en mt) I1) n).1 i j : Nat) : Int)))).drop n = zints (trow n (half hp n (en mt)) i) := by
            rw [List.take_of_length_le (by simp), ← hhr]; simp [zints, trow]
          rw [hxs] at hpart
          rw [show n + n - n = (trow n (half hp n (en mt)) i).length by simp] at hpart
          clear hxs hhr
          refine W_skip ?_
          refine W_seq ?_
          refine W_block ?_
          refine W_sr rfl (fun K hK => ?_)
          refine sv hF (v_ixS sl30 rfl rfl (by omega) (by omega)) rfl ?_; clear hF a; intro a hF
          refine sv hF (v_load sc23 rfl (by rw [toNat_c]; exact hkw.c)) rfl ?_; clear hF a; intro a hF
          refine sv hF (v_assign rfl) rfl ?_; clear hF a; intro a hF
          refine WL_nil (hK _ _ ?_)
          clear hK K
          replace hF := hF.sub _ (c_ 10 rfl (c_ 6 rfl (c_ 8 rfl (c_ 27 rfl (c_ 28 rfl (c_ 29 rfl (n_)))))))
          refine W_reg rfl (fun K hK => ?_)
          refine sv hF (v_move rfl) rfl ?_; clear hF a; intro a hF
          refine sv hF (v_move rfl) rfl ?_; clear hF a; intro a hF
          refine sv hF (v_move rfl) rfl ?_; clear hF a; intro a hF
          refine sv hF (v_slLo sl23 rfl rfl (by omega) (by omega)) rfl ?_; clear hF a; intro a hF
          rw [show n + n - n = (trow n (half hp n (en mt)) i).length by simp] at hF
          refine sc hF rfl rfl rfl en30 rfl (Clone_ok B _ _ _ _ _ hS.inv hpart hKz (by simp; omega)) ?_; clear hF a; intro v w' a hv hF
          obtain ⟨ob, hC, hS'⟩ := hv
          replace hC := hC.le hKz
          replace hWd := hWd.st hS'
          replace hMO := hMO.st (by decide) hS'
          replace hKz := Nat.le_trans hKz hS'.ext.size
          replace hKs := Nat.le_trans hKs hS'.ext.size
          replace hS := hS.trans hS'
          clear hS'
          obtain ⟨a_, c_r, rfl⟩ := hC.shape
          refine s_bs (D := FDx) (B := B) hF sl30 rfl rfl (by decide) (by simp [Value.cells]) (by decide) hS.inv rfl ?_; clear hF a; intro w' a hm hI' hL hF
          replace hWd := hWd.mb hm (fun _ h => by cases h)
          replace hMO := hMO.mb0 hm
          replace hKz := Nat.le_trans hKz hm.size
          replace hKs := Nat.le_trans hKs hm.size
          replace hC := hC.mb hm (fun _ _ => by simp)
          replace hS := hS.mb0 hm
          clear hm hI'
          replace hMO := hMO.up hKs
          clear hKs
          refine s_appM (D := FDx) (B := B) hF rfl sl30 rfl rfl hMO hL (.of hC (Nat.zero_le _)) rfl rfl (by simp; omega) (hKz) (by decide) (by decide) hS.inv rfl ?_; clear hF a; intro v' b' w' a ho' hm hI' hF
          replace hWd := hWd.mb hm (fun k h => Nat.le_trans ((Nat.le_refl _)) (hMO.lt k h).1)
          replace hKz := Nat.le_trans hKz hm.size
          replace hS := hS.mb hm (fun k h => Nat.le_trans hwK (hMO.lt k h).1)
          have hKm := hm.size
          replace hMO := ho'
          clear hm hI' ho' hL
          refine sv hF (v_assign rfl) rfl ?_; clear hF a; intro a hF
          refine WL_nil (hK _ _ ?_)
          clear hK K
          replace hF := hF.sub _ (c_ 8 rfl (c_ 6 rfl (c_ 27 rfl (c_ 28 rfl (c_ 29 rfl (n_))))))
          refine W_reg rfl (fun K hK => ?_)
          refine sv hF (v_addI rfl rfl (by omega)) rfl ?_; clear hF a; intro a hF
          refine sv hF (v_move rfl) rfl ?_; clear hF a; intro a hF
          refine WL_nil (hK _ _ ?_)
          clear hK K
          exact ⟨m - 1, by omega, i + 1, _, _, hF.sub _ (c_ 6 rfl (c_ 8 rfl (c_ 27 rfl (c_ 28 rfl (c_ 29 rfl (n_)))))), hS, hWd, (hMO.up hKm).cast (by rw [List.range_succ, List.map_append]; rfl), hKz, by omega, by omega⟩
        · skip
          try simp only [decide_eq_true_eq, decide_eq_false_iff_not, Bool.not_eq_true', Bool.not_eq_false', Bool.not_true, Bool.not_false] at hc3
          refine W_exit rfl ?_
          refine W_sr rfl (fun K hK => ?_)
          refine sv hF (v_move rfl) rfl ?_; clear hF a; intro a hF
          refine sv hF (v_assign rfl) rfl ?_; clear hF a; intro a hF
          refine sv hF (v_assign rfl) rfl ?_; clear hF a; intro a hF
          refine WL_nil (hK _ _ ?_)
          clear hK K
          replace hF := hF.sub _ (c_ 5 rfl (c_ 4 rfl (c_ 41 rfl (c_ 6 rfl (c_ 8 rfl (c_ 27 rfl (c_ 28 rfl (c_ 29 rfl (n_)))))))))
          refine W_ret ?_
          refine ⟨_, _, _, hF, rfl, rfl, ?_⟩
          obtain rfl : i = n := by omega
          rw [hinv]
          exact ⟨_, _, rfl, (hMO.up hKs).le hwK (Nat.zero_le _), hS⟩

set_option maxRecDepth 100000 in
set_option maxHeartbeats 1000000 in
theorem Rank_ok (B M wb p : Nat) (hp : Prm wb p) (fv : Value) (pmt : Option Addr) (cmt : Nat) (mt : Mtx) (w : World) (hI : Inv FDx B w) (hM : M ≤ w.heap.size) (hf : Fo FDx B w fv (some (wb, p))) (hAmt : Mat FDx B M w pmt cmt mt) (hlmt : mt.length ≤ maxLen) (hbmt : ∀ r ∈ mt, r.length ≤ maxLen) : Ret Tryz.prog 10 [fv, .slice pmt mt.length cmt] w fun v w' => v = .tuple #[.int .i64 (rankR hp mt).1, .int .i64 (rankR hp mt).2] ∧ St FDx B w w' := by
  refine enter2 32 [(0, fv), (1, .slice pmt mt.length cmt)] 4 5 Tryz.func10 rfl rfl rfl rfl rfl ?_; intro a hF
  have hS := St.refl hI
  refine W_sr rfl (fun K hK => ?_)
  refine sv hF (v_assign rfl) rfl ?_; clear hF a; intro a hF
  refine sv hF (v_assign rfl) rfl ?_; clear hF a; intro a hF
  refine WL_nil (hK _ _ ?_)
  clear hK K
  refine W_seq ?_
  refine W_sr rfl (fun K hK => ?_)
  refine sv hF (v_move rfl) rfl ?_; clear hF a; intro a hF
  refine sv hF (v_move rfl) rfl ?_; clear hF a; intro a hF
  refine sc hF rfl rfl rfl en34 rfl (May_ok B M (some (wb, p)) fv pmt cmt mt _ hS.inv hf hAmt hlmt hbmt) ?_; clear hF a; intro v w' a hv hF
  obtain ⟨rfl, hS'⟩ := hv
  replace hf := hf.st hS'
  replace hAmt := hAmt.st hS'
  replace hS := hS.trans hS'
  clear hS'
  refine sv hF (v_not rfl) rfl ?_; clear hF a; intro a hF
  refine WL_nil (hK _ _ ?_)
  clear hK K
  replace hF := hF.sub _ (c_ 12 rfl (c_ 5 rfl (c_ 4 rfl (c_ 0 rfl (c_ 1 rfl (n_))))))
  refine W_if hF rfl (fun hc1 => ?_) (fun hc1 => ?_)
  · skip
    try simp only [decide_eq_true_eq, decide_eq_false_iff_not, Bool.not_eq_true', Bool.not_eq_false', Bool.not_true, Bool.not_false] at hc1
    refine W_sr rfl (fun K hK => ?_)
    refine sv hF (v_assign rfl) rfl ?_; clear hF a; intro a hF
    refine sv hF (v_assign rfl) rfl ?_; clear hF a; intro a hF
    refine WL_nil (hK _ _ ?_)
    clear hK K
    replace hF := hF.sub _ (c_ 5 rfl (c_ 4 rfl (c_ 0 rfl (c_ 1 rfl (n_)))))
    refine W_ret ?_
    refine ⟨_, _, _, hF, rfl, rfl, ?_⟩
    unfold rankR
    rw [if_neg (by simpa using hc1)]
    exact ⟨rfl, hS⟩
  · skip
    try simp only [decide_eq_true_eq, decide_eq_false_iff_not, Bool.not_eq_true', Bool.not_eq_false', Bool.not_true, Bool.not_false] at hc1
    refine W_skip ?_
    have hmay : mayM (some (wb, p)) mt = true := by simpa using hc1
    obtain ⟨hmx, hn1, hn20, hm1, hm20⟩ := mayM_Mx hmay
    obtain ⟨n, hn⟩ : ∃ n, n = mt.length := ⟨_, rfl⟩
    obtain ⟨m, hm⟩ : ∃ n, n = wid mt := ⟨_, rfl⟩
    rw [← hn] at hmx hn1 hn20 hF
    rw [← hm] at hmx hm1 hm20
    have hbd := hmx.bd hp
    have htab := hmx.eq_tab
    rw [htab] at hAmt
    have hmw := hm
    clear hm
    refine W_sr rfl (fun K hK => ?_)
    refine sv hF (v_assign rfl) rfl ?_; clear hF a; intro a hF
    refine WL_nil (hK _ _ ?_)
    clear hK K
    replace hF := hF.sub _ (c_ 6 rfl (c_ 5 rfl (c_ 4 rfl (c_ 0 rfl (c_ 1 rfl (n_))))))
    refine W_seq ?_
    refine W_sr rfl (fun K hK => ?_)
    refine sv hF (v_move rfl) rfl ?_; clear hF a; intro a hF
    refine sv hF (v_lenS rfl sl30 rfl) rfl ?_; clear hF a; intro a hF
    refine sv hF (v_move rfl) rfl ?_; clear hF a; intro a hF
    refine WL_nil (hK _ _ ?_)
    clear hK K
    refine W_block ?_
    refine W_loop (fun q a w1 => ∃ (i : Nat) (v6 : Value) (b6 : Option Nat) (bs rc : Nat → Nat), Fr 32 [(0, fv), (1, .slice pmt n cmt), (6, v6), (13, .slice pmt n cmt), (14, .int .i64 (n : Int)), (15, .int .i64 (i : Int))] a ∧ (St FDx B w w1) ∧ (Fo FDx B w1 fv (some (wb, p))) ∧ (Mat FDx B M w1 pmt cmt (tab n m (en mt))) ∧ (Gam.Own FDx B w.heap.size w1 23 v6 b6 (vls i m bs rc)) ∧ (Wr FDx B w.heap.size w1.heap.size w1 i m bs rc (en mt)) ∧ (i ≤ n) ∧ (q + i = n)) (n) ?_ ?_
    · skip
      exact ⟨0, _, none, id, id, hF.sub _ (c_ 0 rfl (c_ 1 rfl (c_ 6 rfl (c_ 13 rfl (c_ 14 rfl (c_ 15 rfl (n_))))))), hS, hf, hAmt, Gam.Own.nil _ _ _ _ _, Wr.nil, by omega, by omega⟩
    · skip
      clear hF
      clear hS hf hAmt
      rintro q a w1 ⟨i, v6, b6, bs, rc, hF, hS, hf, hAmt, hO, hW, hi, hq⟩
      obtain ⟨K, hKe⟩ : ∃ K, K = w1.heap.size := ⟨_, rfl⟩
      rw [← hKe] at hW
      have hKs : K ≤ w1.heap.size := by omega
      have hNK : w.heap.size ≤ K := by have := hS.ext.size; omega
      clear hKe
      refine W_sr rfl (fun K hK => ?_)
      refine sv hF (v_lss rfl rfl) rfl ?_; clear hF a; intro a hF
      refine WL_nil (hK _ _ ?_)
      clear hK K
      refine W_seq ?_
      refine W_if hF rfl (fun hc2 => ?_) (fun hc2 => ?_)
      · skip
        try simp only [decide_eq_true_eq, decide_eq_false_iff_not, Bool.not_eq_true', Bool.not_eq_false', Bool.not_true, Bool.not_false] at hc2
        have hlt : i < n := by omega
        obtain ⟨ga, oa, pa, ca, hga, hka, hra, -⟩ := hAmt.row (tab_at (f := en mt) (m := m) hlt)
        subst hga
        have hla : ((List.range m).map fun j => (en mt i j : Int)).length = m := by simp
        have hvl := vls_length i m bs rc
        refine W_skip ?_
        refine W_seq ?_
        refine W_block ?_
        refine W_sr rfl (fun K hK => ?_)
        refine sv hF (v_ixS sl30 rfl rfl (by omega) (by omega)) rfl ?_; clear hF a; intro a hF
        refine sv hF (v_load sc23 rfl (by rw [toNat_c]; exact hka.c)) rfl ?_; clear hF a; intro a hF
        refine sv hF (v_assign rfl) rfl ?_; clear hF a; intro a hF
        refine WL_nil (hK _ _ ?_)
        clear hK K
        replace hF := hF.sub _ (c_ 8 rfl (c_ 0 rfl (c_ 1 rfl (c_ 6 rfl (c_ 13 rfl (c_ 14 rfl (c_ 15 rfl (n_))))))))
        refine W_reg rfl (fun K hK => ?_)
        refine sv hF (v_move rfl) rfl ?_; clear hF a; intro a hF
        refine sv hF (v_move rfl) rfl ?_; clear hF a; intro a hF
        refine sc hF rfl rfl rfl en30 rfl (Clone_ok B M _ _ (trow m (en mt) i) _ hS.inv hra (Nat.le_trans hM hS.ext.size) (by simp; omega)) ?_; clear hF a; intro v w' a hv hF
        obtain ⟨ob, hC, hS'⟩ := hv
        replace hC := hC.le hKs
        obtain ⟨gx, cx, rfl, rfl⟩ := hC.ptr (by simp; omega)
        rw [zints_length, trow_length] at hC hF
        replace hf := hf.st hS'
        replace hAmt := hAmt.st hS'
        replace hO := hO.st (by decide) hS'
        replace hW := hW.st hS'
        replace hKs := Nat.le_trans hKs hS'.ext.size
        replace hS := hS.trans hS'
        clear hS'
        refine s_bs (D := FDx) (B := B) hF sl30 rfl rfl (by decide) (by simp [Value.cells]) (by decide) hS.inv rfl ?_; clear hF a; intro w' a hm hI' hL hF
        replace hf := hf.mb hm
        replace hAmt := hAmt.mb hm (fun _ h => by cases h)
        replace hO := hO.mb hm (fun _ _ => by simp)
        replace hW := hW.mb0 hm
        replace hKs := Nat.le_trans hKs hm.size
        replace hC := hC.mb hm (fun _ _ => by simp)
        replace hS := hS.mb0 hm
        clear hm hI'
        refine s_app (D := FDx) (B := B) hF rfl sl30 rfl rfl hO (hL.row (by decide)) (by simp [Value.oneCell']) (by simp; omega) (by simp [maxLen]; omega) (hS.ext.size) (by decide) hS.inv rfl ?_; clear hF a; intro v' b' w' a ho' hm hI' hb' hF
        replace hf := hf.mb hm
        replace hAmt := hAmt.mb hm (fun k h => Nat.le_trans (hM) (hO.lt k h).1)
        replace hW := hW.mbo hm hO (by decide)
        replace hKs := Nat.le_trans hKs hm.size
        replace hC := hC.mb hm (hC.ne_type hO (by decide))
        replace hS := hS.mb hm (fun k h => Nat.le_trans (Nat.le_refl _) (hO.lt k h).1)
        replace hO := ho'
        clear hm hI' ho'
        refine sv hF (v_assign rfl) rfl ?_; clear hF a; intro a hF
        refine WL_nil (hK _ _ ?_)
        clear hK K
        replace hF := hF.sub _ (c_ 6 rfl (c_ 0 rfl (c_ 1 rfl (c_ 13 rfl (c_ 14 rfl (c_ 15 rfl (n_)))))))
        refine W_reg rfl (fun K hK => ?_)
        refine sv hF (v_addI rfl rfl (by omega)) rfl ?_; clear hF a; intro a hF
        refine sv hF (v_move rfl) rfl ?_; clear hF a; intro a hF
        refine WL_nil (hK _ _ ?_)
        clear hK K
        exact ⟨q - 1, by omega, i + 1, _, _, _, _, hF.sub _ (c_ 0 rfl (c_ 1 rfl (c_ 6 rfl (c_ 13 rfl (c_ 14 rfl (c_ 15 rfl (n_))))))), hS, hf, hAmt, hO.cast vls_snoc.symm, hW.snoc (hC.le hNK) ((hC.lt _ rfl).1), by omega, by omega⟩
      · skip
        try simp only [decide_eq_true_eq, decide_eq_false_iff_not, Bool.not_eq_true', Bool.not_eq_false', Bool.not_true, Bool.not_false] at hc2
        refine W_exit rfl ?_
        obtain rfl : i = n := by omega
        obtain ⟨gv, cap, rfl, rfl⟩ := hO.ptr (by simp; omega)
        rw [vls_length] at hO hF
        obtain ⟨ga, oa, pa, ca, hga, hka, hra, -⟩ := hAmt.row (tab_at (f := en mt) (n := i) (m := m) (i := 0) (by omega))
        subst hga
        refine W_sr rfl (fun K hK => ?_)
        refine sv hF (v_move rfl) rfl ?_; clear hF a; intro a hF
        refine sv hF (v_move rfl) rfl ?_; clear hF a; intro a hF
        refine sv hF (v_move rfl) rfl ?_; clear hF a; intro a hF
        refine sv hF (v_ixS sl30 rfl rfl (by decide) (by omega)) rfl ?_; clear hF a; intro a hF
        refine sv hF (v_load sc23 rfl (by exact hka.c)) rfl ?_; clear hF a; intro a hF
        refine sv hF (v_lenS rfl sl23 rfl) rfl ?_; clear hF a; intro a hF
        rw [show ((List.range m).map fun j => (en mt 0 j : Int)).length = m by simp] at hF
        refine sc hF rfl rfl rfl en29 rfl (reduce_ok B w.heap.size wb p hp fv gv cap i m m bs rc _ _ hS.inv hf hO (hW.up hKs) hS.ext.size hbd (Nat.le_refl _) ⟨by omega, by omega⟩) ?_; clear hF a; intro v w' a hv hF
        obtain ⟨rfl, -, hz⟩ := hv
        replace hS := hS.thenZ hz (fun k hk => Nat.not_le.2 hk)
        refine sv hF (v_assign rfl) rfl ?_; clear hF a; intro a hF
        refine sv hF (v_assign rfl) rfl ?_; clear hF a; intro a hF
        refine WL_nil (hK _ _ ?_)
        clear hK K
        replace hF := hF.sub _ (c_ 5 rfl (c_ 4 rfl (c_ 31 rfl (c_ 30 rfl (c_ 29 rfl (c_ 28 rfl (c_ 27 rfl (c_ 26 rfl (c_ 25 rfl (c_ 0 rfl (c_ 1 rfl (c_ 6 rfl (c_ 13 rfl (c_ 14 rfl (c_ 15 rfl (n_))))))))))))))))
        refine W_ret ?_
        refine ⟨_, _, _, hF, rfl, rfl, ?_⟩
        unfold rankR
        rw [if_pos hmay, ← hn, ← hmw]
        exact ⟨rfl, hS⟩

set_option maxRecDepth 100000 in
set_option maxHeartbeats 1000000 in
theorem Solve1_ok (B : Nat) (o : Fq) (fv : Value) (pf : Nat) (x : Int) (w : World) (hI : Inv FDx B w) (hf : Fo FDx B w fv o) (hk : KC FDx B w ⟨pf, 0, none⟩ fv) : Ret Tryz.prog 36 [.int .i64 x, .pointer (some ⟨pf, 0, none⟩)] w fun v w' => v = .bool (!inF o x) ∧ St FDx B w w' := by
  refine enter 12 [(0, .int .i64 x), (1, .pointer (some ⟨pf, 0, none⟩))] 3 Tryz.func36 rfl rfl rfl rfl rfl ?_; intro a hF
  have hS := St.refl hI
  refine W_sr rfl (fun K hK => ?_)
  refine sv hF (v_assign rfl) rfl ?_; clear hF a; intro a hF
  refine WL_nil (hK _ _ ?_)
  clear hK K
  refine W_sr rfl (fun K hK => ?_)
  refine sv hF (v_move rfl) rfl ?_; clear hF a; intro a hF
  refine sb hF (v_lss rfl rfl) rfl ?_ ?_
  · clear hF a; intro hc1 a hF
    try simp only [decide_eq_true_eq, decide_eq_false_iff_not, Bool.not_eq_true', Bool.not_eq_false', Bool.not_true, Bool.not_false] at hc1
    refine sv hF (v_move rfl) rfl ?_; clear hF a; intro a hF
    refine svn hF rfl rfl rfl ?_; clear hF a; intro a hF
    refine svn hF rfl rfl rfl ?_; clear hF a; intro a hF
    refine svn hF rfl rfl rfl ?_; clear hF a; intro a hF
    refine svn hF rfl rfl rfl ?_; clear hF a; intro a hF
    refine sv hF (v_pickT rfl rfl) rfl ?_; clear hF a; intro a hF
    refine sv hF (v_assign rfl) rfl ?_; clear hF a; intro a hF
    refine WL_nil (hK _ _ ?_)
    clear hK K
    replace hF := hF.sub _ (c_ 3 rfl (n_))
    refine W_ret ?_
    refine ⟨_, _, hF, rfl, ?_⟩
    exact ⟨by congr 1; unfold inF; first | (symm; rw [Bool.not_eq_true', decide_eq_false_iff_not]; omega) | (rw [← decide_not, decide_eq_decide]; omega), hS⟩
  · clear hF a; intro hc1 a hF
    try simp only [decide_eq_true_eq, decide_eq_false_iff_not, Bool.not_eq_true', Bool.not_eq_false', Bool.not_true, Bool.not_false] at hc1
    refine sv hF (v_move rfl) rfl ?_; clear hF a; intro a hF
    refine svg hF rfl ?_
    refine sv hF (v_move rfl) rfl ?_; clear hF a; intro a hF
    refine svg hF rfl ?_
    refine sv hF (v_load sc26 rfl (by first | assumption | (rw [toNat_c]; assumption) | exact KC.c (by assumption) | (rw [toNat_c]; exact KC.c (by assumption)) | exact Box.at (by assumption))) rfl ?_; clear hF a; intro a hF
    refine svg hF rfl ?_
    refine sc hF rfl rfl rfl en37 rfl (Size_ok B o fv _ hf) ?_; clear hF a; intro v w' a hv hF
    obtain ⟨rfl, hw⟩ := hv
    obtain rfl := hw.symm
    have hS' := St.refl hS.inv
    replace hS := hS.trans hS'
    clear hS'
    refine svg hF rfl ?_
    refine sv hF (v_geq rfl rfl) rfl ?_; clear hF a; intro a hF
    refine sv hF (v_pickF rfl rfl) rfl ?_; clear hF a; intro a hF
    refine sv hF (v_assign rfl) rfl ?_; clear hF a; intro a hF
    refine WL_nil (hK _ _ ?_)
    clear hK K
    replace hF := hF.sub _ (c_ 3 rfl (n_))
    refine W_ret ?_
    refine ⟨_, _, hF, rfl, ?_⟩
    exact ⟨by congr 1; unfold inF; first | (symm; rw [Bool.not_eq_true', decide_eq_false_iff_not]; omega) | (rw [← decide_not, decide_eq_decide]; omega), hS⟩

set_option maxRecDepth 100000 in
set_option maxHeartbeats 1000000 in
theorem Solve_ok (B M wb p : Nat) (hp : Prm wb p) (fv : Value) (pmt : Option Addr) (cmt : Nat) (mt : Mtx) (pv : Option Addr) (cv : Nat) (v : List Int) (w : World) (hI : Inv FDx B w) (hM : M ≤ w.heap.size) (hf : Fo FDx B w fv (some (wb, p))) (hAmt : Mat FDx B M w pmt cmt mt) (hlmt : mt.length ≤ maxLen) (hbmt : ∀ r ∈ mt, r.length ≤ maxLen) (hvr : Row FDx B M w (.slice pv v.length cv) (zints v)) (hvl : v.length ≤ maxLen) : Ret Tryz.prog 12 [fv, .slice pmt mt.length cmt, .slice pv v.length cv] w fun u w' => ∃ ob s, u = .tuple #[s, .int .i64 (solR hp mt v).1] ∧ Gam.Own FDx B w.heap.size w' FDx.E s ob (zints (solR hp mt v).2) ∧ St FDx B w w' := by
  refine enter2 41 [(0, fv), (1, .slice pmt mt.length cmt), (2, .slice pv v.length cv)] 6 7 Tryz.func12 rfl rfl rfl rfl rfl ?_; intro a hF
  have hS := St.refl hI
  have hvl2 := hvl
  have hml2 := hlmt
  simp only [maxLen] at hvl2 hml2
  refine W_sr rfl (fun K hK => ?_)
  obtain ⟨pf, hpf⟩ : ∃ pf, pf = w.heap.size := ⟨_, rfl⟩
  refine s_boxN (D := FDx) (B := B) hF rfl (hf.cells1) (by decide) hS.inv rfl ?_; clear hF a; intro w' a hm hI' hbf hsz hF
  replace hf := hf.mb hm
  replace hAmt := hAmt.mb hm (fun _ h => by cases h)
  replace hvr := hvr.mb hm (fun _ h => by cases h)
  replace hS := hS.mb0 hm
  clear hm hI' hsz
  rw [← hpf] at hbf hF
  have hkf := hbf.kc
  clear hbf
  refine sv hF (v_assign rfl) rfl ?_; clear hF a; intro a hF
  refine sv hF (v_assign rfl) rfl ?_; clear hF a; intro a hF
  refine WL_nil (hK _ _ ?_)
  clear hK K
  replace hF := hF.sub _ (c_ 7 rfl (c_ 6 rfl (c_ 3 rfl (c_ 1 rfl (c_ 2 rfl (n_))))))
  refine W_seq ?_
  refine W_sr rfl (fun K hK => ?_)
  refine sv hF (v_load sc26 rfl hkf.c) rfl ?_; clear hF a; intro a hF
  refine sv hF (v_move rfl) rfl ?_; clear hF a; intro a hF
  refine sc hF rfl rfl rfl en26 rfl (square_ok B M (some (wb, p)) fv pmt cmt mt _ hS.inv hf hAmt hlmt hbmt) ?_; clear hF a; intro v w' a hv hF
  obtain ⟨rfl, hS'⟩ := hv
  replace hf := hf.st hS'
  replace hAmt := hAmt.st hS'
  replace hvr := hvr.st hS'
  replace hkf := hkf.st hS'
  replace hS := hS.trans hS'
  clear hS'
  refine sb hF (v_not rfl) rfl ?_ ?_
  · clear hF a; intro hc1 a hF
    try simp only [decide_eq_true_eq, decide_eq_false_iff_not, Bool.not_eq_true', Bool.not_eq_false', Bool.not_true, Bool.not_false] at hc1
    refine sv hF (v_move rfl) rfl ?_; clear hF a; intro a hF
    refine svn hF rfl rfl rfl ?_; clear hF a; intro a hF
    refine svn hF rfl rfl rfl ?_; clear hF a; intro a hF
    refine svn hF rfl rfl rfl ?_; clear hF a; intro a hF
    refine svn hF rfl rfl rfl ?_; clear hF a; intro a hF
    refine svn hF rfl rfl rfl ?_; clear hF a; intro a hF
    refine sv hF (v_pickT rfl rfl) rfl ?_; clear hF a; intro a hF
    refine sv hF (v_move rfl) rfl ?_; clear hF a; intro a hF
    refine svn hF rfl rfl rfl ?_; clear hF a; intro a hF
    refine svn hF rfl rfl rfl ?_; clear hF a; intro a hF
    refine svn hF rfl rfl rfl ?_; clear hF a; intro a hF
    refine sv hF (v_pickT rfl rfl) rfl ?_; clear hF a; intro a hF
    refine WL_nil (hK _ _ ?_)
    clear hK K
    replace hF := hF.sub _ (c_ 25 rfl (c_ 7 rfl (c_ 6 rfl (c_ 3 rfl (c_ 1 rfl (c_ 2 rfl (n_)))))))
    refine W_ifT hF rfl ?_
    refine W_sr rfl (fun K hK => ?_)
    refine sv hF (v_assign rfl) rfl ?_; clear hF a; intro a hF
    refine sv hF (v_assign rfl) rfl ?_; clear hF a; intro a hF
    refine WL_nil (hK _ _ ?_)
    clear hK K
    replace hF := hF.sub _ (c_ 7 rfl (c_ 6 rfl (c_ 3 rfl (c_ 1 rfl (c_ 2 rfl (n_))))))
    refine W_ret ?_
    refine ⟨_, _, _, hF, rfl, rfl, ?_⟩
    have hno : solR hp mt v = (1, []) := solR_bad hp (fun h => by have := h.1; simp_all)
    rw [hno]
    exact ⟨none, _, rfl, Gam.Own.nil _ _ _ _ _, hS⟩
  · clear hF a; intro hc1 a hF
    try simp only [decide_eq_true_eq, decide_eq_false_iff_not, Bool.not_eq_true', Bool.not_eq_false', Bool.not_true, Bool.not_false] at hc1
    refine sv hF (v_move rfl) rfl ?_; clear hF a; intro a hF
    refine svg hF rfl ?_
    refine sv hF (v_move rfl) rfl ?_; clear hF a; intro a hF
    refine svg hF rfl ?_
    refine sv hF (v_lenS rfl sl23 rfl) rfl ?_; clear hF a; intro a hF
    refine svg hF rfl ?_
    refine sv hF (v_move rfl) rfl ?_; clear hF a; intro a hF
    refine svg hF rfl ?_
    refine sv hF (v_lenS rfl sl30 rfl) rfl ?_; clear hF a; intro a hF
    refine svg hF rfl ?_
    refine sb hF (v_neq rfl rfl) rfl ?_ ?_
    · clear hF a; intro hc2 a hF
      try simp only [decide_eq_true_eq, decide_eq_false_iff_not, Bool.not_eq_true', Bool.not_eq_false', Bool.not_true, Bool.not_false] at hc2
      refine sv hF (v_pickF rfl rfl) rfl ?_; clear hF a; intro a hF
      refine sv hF (v_move rfl) rfl ?_; clear hF a; intro a hF
      refine svn hF rfl rfl rfl ?_; clear hF a; intro a hF
      refine svn hF rfl rfl rfl ?_; clear hF a; intro a hF
      refine svn hF rfl rfl rfl ?_; clear hF a; intro a hF
      refine sv hF (v_pickT rfl rfl) rfl ?_; clear hF a; intro a hF
      refine WL_nil (hK _ _ ?_)
      clear hK K
      replace hF := hF.sub _ (c_ 25 rfl (c_ 7 rfl (c_ 6 rfl (c_ 3 rfl (c_ 1 rfl (c_ 2 rfl (n_)))))))
      refine W_ifT hF rfl ?_
      refine W_sr rfl (fun K hK => ?_)
      refine sv hF (v_assign rfl) rfl ?_; clear hF a; intro a hF
      refine sv hF (v_assign rfl) rfl ?_; clear hF a; intro a hF
      refine WL_nil (hK _ _ ?_)
      clear hK K
      replace hF := hF.sub _ (c_ 7 rfl (c_ 6 rfl (c_ 3 rfl (c_ 1 rfl (c_ 2 rfl (n_))))))
      refine W_ret ?_
      refine ⟨_, _, _, hF, rfl, rfl, ?_⟩
      have hno : solR hp mt v = (1, []) := solR_bad hp (fun h => by have := h.2.1; omega)
      rw [hno]
      exact ⟨none, _, rfl, Gam.Own.nil _ _ _ _ _, hS⟩
    · clear hF a; intro hc2 a hF
      try simp only [decide_eq_true_eq, decide_eq_false_iff_not, Bool.not_eq_true', Bool.not_eq_false', Bool.not_true, Bool.not_false] at hc2
      refine sv hF (v_pickF rfl rfl) rfl ?_; clear hF a; intro a hF
      refine sv hF (v_move rfl) rfl ?_; clear hF a; intro a hF
      refine svg hF rfl ?_
      refine sv hF (v_move rfl) rfl ?_; clear hF a; intro a hF
      refine svg hF rfl ?_
      refine sv hF (v_mkf (cs := [.tmp 3]) (vs := [.pointer (some ⟨pf, 0, none⟩)]) rfl) rfl ?_; clear hF a; intro a hF
      refine svg hF rfl ?_
      refine sc hF rfl rfl rfl en35 rfl (AnyI_ok B M 36 [.pointer (some ⟨pf, 0, none⟩)] (fun x => !inF (some (wb, p)) x) pv cv v _ hS.inv hvr hvl (ent Tryz.func36 (by kernel_rfl) (by kernel_rfl)) (fun x _ w1 hs => Solve1_ok B (some (wb, p)) fv pf x w1 hs.inv (hf.st hs) (hkf.st hs))) ?_; clear hF a; intro v w' a hv hF
      obtain ⟨rfl, hS'⟩ := hv
      replace hf := hf.st hS'
      replace hAmt := hAmt.st hS'
      replace hvr := hvr.st hS'
      replace hkf := hkf.st hS'
      replace hS := hS.trans hS'
      clear hS'
      refine sv hF (v_pickF rfl rfl) rfl ?_; clear hF a; intro a hF
      refine WL_nil (hK _ _ ?_)
      clear hK K
      replace hF := hF.sub _ (c_ 25 rfl (c_ 7 rfl (c_ 6 rfl (c_ 3 rfl (c_ 1 rfl (c_ 2 rfl (n_)))))))
      refine W_if hF rfl (fun hc3 => ?_) (fun hc3 => ?_)
      · skip
        try simp only [decide_eq_true_eq, decide_eq_false_iff_not, Bool.not_eq_true', Bool.not_eq_false', Bool.not_true, Bool.not_false] at hc3
        refine W_sr rfl (fun K hK => ?_)
        refine sv hF (v_assign rfl) rfl ?_; clear hF a; intro a hF
        refine sv hF (v_assign rfl) rfl ?_; clear hF a; intro a hF
        refine WL_nil (hK _ _ ?_)
        clear hK K
        replace hF := hF.sub _ (c_ 7 rfl (c_ 6 rfl (c_ 3 rfl (c_ 1 rfl (c_ 2 rfl (n_))))))
        refine W_ret ?_
        refine ⟨_, _, _, hF, rfl, rfl, ?_⟩
        have hno : solR hp mt v = (1, []) := solR_bad hp (fun h => by rw [List.any_eq_true] at hc3; obtain ⟨x, hx, hi⟩ := hc3; rw [h.2.2 x hx] at hi; cases hi)
        rw [hno]
        exact ⟨none, _, rfl, Gam.Own.nil _ _ _ _ _, hS⟩
      · skip
        try simp only [decide_eq_true_eq, decide_eq_false_iff_not, Bool.not_eq_true', Bool.not_eq_false', Bool.not_true, Bool.not_false] at hc3
        refine W_skip ?_
        have hok : sqM (some (wb, p)) mt = true ∧ v.length = mt.length ∧ (∀ x ∈ v, inF (some (wb, p)) x = true) := by
          refine ⟨by simpa using hc1, by omega, fun x hx => ?_⟩
          rw [List.any_eq_false] at hc3
          simpa using hc3 x hx
        obtain ⟨-, hn1, hn20, -⟩ := sqM_Mx hok.1
        refine W_sr rfl (fun K hK => ?_)
        refine sv hF (v_load sc26 rfl hkf.c) rfl ?_; clear hF a; intro a hF
        refine sv hF (v_move rfl) rfl ?_; clear hF a; intro a hF
        refine sc hF rfl rfl rfl en8 rfl (Inverse_ok B M wb p hp fv pmt cmt mt _ hS.inv (Nat.le_trans hM hS.ext.size) hf hAmt hlmt hbmt) ?_; clear hF a; intro v w' a hv hF
        obtain ⟨ob, u, rfl, hMO, hS'⟩ := hv
        obtain ⟨sX, cX, rfl, hX⟩ := hMO.mat (by decide) (Nat.zero_le _)
        clear hMO
        replace hf := hf.st hS'
        replace hAmt := hAmt.st hS'
        replace hvr := hvr.st hS'
        replace hkf := hkf.st hS'
        replace hS := hS.trans hS'
        clear hS'
        refine sv hF (v_move rfl) rfl ?_; clear hF a; intro a hF
        refine sv hF (v_ext rfl rfl) rfl ?_; clear hF a; intro a hF
        refine sv hF (v_ext rfl rfl) rfl ?_; clear hF a; intro a hF
        refine sv hF (v_assign rfl) rfl ?_; clear hF a; intro a hF
        refine sv hF (v_assign rfl) rfl ?_; clear hF a; intro a hF
        refine WL_nil (hK _ _ ?_)
        clear hK K
        replace hF := hF.sub _ (c_ 9 rfl (c_ 8 rfl (c_ 7 rfl (c_ 6 rfl (c_ 3 rfl (c_ 2 rfl (n_)))))))
        refine W_seq ?_
        refine W_sr rfl (fun K hK => ?_)
        refine sv hF (v_move rfl) rfl ?_; clear hF a; intro a hF
        refine sv hF (v_neq rfl rfl) rfl ?_; clear hF a; intro a hF
        refine WL_nil (hK _ _ ?_)
        clear hK K
        replace hF := hF.sub _ (c_ 33 rfl (c_ 9 rfl (c_ 8 rfl (c_ 7 rfl (c_ 6 rfl (c_ 3 rfl (c_ 2 rfl (n_))))))))
        refine W_if hF rfl (fun hc4 => ?_) (fun hc4 => ?_)
        · skip
          try simp only [decide_eq_true_eq, decide_eq_false_iff_not, Bool.not_eq_true', Bool.not_eq_false', Bool.not_true, Bool.not_false] at hc4
          refine W_sr rfl (fun K hK => ?_)
          refine sv hF (v_move rfl) rfl ?_; clear hF a; intro a hF
          refine sv hF (v_assign rfl) rfl ?_; clear hF a; intro a hF
          refine sv hF (v_assign rfl) rfl ?_; clear hF a; intro a hF
          refine WL_nil (hK _ _ ?_)
          clear hK K
          replace hF := hF.sub _ (c_ 7 rfl (c_ 6 rfl (c_ 8 rfl (c_ 3 rfl (c_ 2 rfl (n_))))))
          refine W_ret ?_
          refine ⟨_, _, _, hF, rfl, rfl, ?_⟩
          have hno := solR_none hp hok (by assumption)
          rw [hno]
          exact ⟨none, _, rfl, Gam.Own.nil _ _ _ _ _, hS⟩
        · skip
          try simp only [decide_eq_true_eq, decide_eq_false_iff_not, Bool.not_eq_true', Bool.not_eq_false', Bool.not_true, Bool.not_false] at hc4
          refine W_skip ?_
          have hi0 : (invR hp mt).1 = 0 := Decidable.of_not_not hc4
          have hso := solR_some hp hok hi0
          obtain ⟨ma, hma⟩ := inv_apply hp hok hi0
          have hil := len1k (invR_lens hp mt)
          refine W_sr rfl (fun K hK => ?_)
          refine sv hF (v_load sc26 rfl hkf.c) rfl ?_; clear hF a; intro a hF
          refine sv hF (v_move rfl) rfl ?_; clear hF a; intro a hF
          refine sv hF (v_move rfl) rfl ?_; clear hF a; intro a hF
          refine sc hF rfl rfl rfl en38 rfl (Apply_ok B _ (some (wb, p)) fv sX cX (invR hp mt).2 pv cv v _ hS.inv (Nat.le_refl _) hf hX hil.1 hil.2 (hvr.mono (Nat.le_trans hM hS.ext.size)) (by omega)) ?_; clear hF a; intro v w' a hv hF
          obtain ⟨ob, s, rfl, hO, hS'⟩ := hv
          replace hO := hO.le hS.ext.size
          replace hf := hf.st hS'
          replace hAmt := hAmt.st hS'
          replace hvr := hvr.st hS'
          replace hkf := hkf.st hS'
          replace hX := (hX.st hS').mono hS'.ext.size
          replace hS := hS.trans hS'
          clear hS'
          refine sv hF (v_ext rfl rfl) rfl ?_; clear hF a; intro a hF
          refine sv hF (v_ext rfl rfl) rfl ?_; clear hF a; intro a hF
          refine sv hF (v_assign rfl) rfl ?_; clear hF a; intro a hF
          refine sv hF (v_assign rfl) rfl ?_; clear hF a; intro a hF
          refine WL_nil (hK _ _ ?_)
          clear hK K
          replace hF := hF.sub _ (c_ 7 rfl (c_ 6 rfl (n_)))
          refine W_ret ?_
          refine ⟨_, _, _, hF, rfl, rfl, ?_⟩
          rw [hso]
          exact ⟨_, _, by rw [hma]; rfl, hO, hS⟩

end Go.Proofs.YtcnlooajjnghaaaGreat

/- What the statements of layer 5 ask of inverses, ranks, what is solved. No program in sight. -/
set_option linter.unusedVariables false
set_option linter.unusedSimpArgs false
namespace Go.Gam
open Px

namespace Fld
variable (F : Fld)
theorem piv_congr {n c : Nat} {f g : Tb} (h : ∀ i, i < n → f i c = g i c) : ∀ {d t : Nat}, t + d ≤ n → piv f n c t d = piv g n c t d
  | 0, _, _ => rfl
  | d + 1, t, hd => by
    unfold piv
    rw [h t (by omega), piv_congr h (by omega)]
/-- The reduction looks at the first columns alone. -/
theorem red_cols {n C : Nat} {f g : Tb} (h : ∀ i, i < n → ∀ j, j < C → f i j = g i j) : ∀ c, c ≤ C → (F.red n f c).2 = (F.red n g c).2 ∧ (∀ i, i < n → ∀ j, j < C → (F.red n f c).1 i j = (F.red n g c).1 i j) ∧ (F.red n f c).2 ≤ n
  | 0, _ => ⟨rfl, h, Nat.zero_le _⟩
  | c + 1, hc => by
    obtain ⟨h1, h2, h3⟩ := red_cols h c (by omega)
    rw [red, red, ← h1]
    clear h1
    generalize (F.red n f c).1 = f1 at *
    generalize (F.red n g c).1 = g1 at *
    generalize (F.red n f c).2 = t at *
    have hp : piv f1 n c t (n - t) = piv g1 n c t (n - t) := piv_congr (fun i hi => h2 i hi c (by omega)) (by omega)
    unfold stp
    rw [← hp]
    cases hk : piv f1 n c t (n - t) with
    | none => exact ⟨rfl, h2, h3⟩
    | some k =>
      obtain ⟨k1, k2, -, -⟩ := piv_some hk
      refine ⟨rfl, fun i hi j hj => ?_, by show t + 1 ≤ n; omega⟩
      dsimp only
      unfold op
      rw [h2 k (by omega) j hj, h2 k (by omega) c (by omega), h2 _ (sw_lt (by omega) (by omega) hi) j hj]
      dsimp only
      rw [h2 _ (sw_lt (by omega) (by omega) hi) c (by omega)]
theorem rk_congr {n c : Nat} {f g : Tb} (h : ∀ i, i < n → ∀ j, j < c → f i j = g i j) : F.rk n f c = F.rk n g c := (F.red_cols h c (Nat.le_refl _)).1
theorem Iv.congr {n : Nat} {E E' G : Tb} (h : F.Iv n E E') (hb : F.Bd G) (he : ∀ i j, i < n → j < n → G i j = E i j) : F.Iv n G E' :=
  ⟨hb, h.bd', fun i j hi hj => by rw [← h.r i j hi hj]; exact F.mm_congr (fun l hl => he i l hi hl) (fun _ _ => rfl), fun i j hi hj => by rw [← h.l i j hi hj]; exact F.mm_congr (fun _ _ => rfl) (fun l hl => he l j hl hj)⟩
theorem rk_iv {n : Nat} {f : Tb} (h : (F.iv n f).isSome = true) : F.rk n f n = n := by
  have e : F.rk n f n = F.rk n (bes n f I1) n := F.rk_congr fun i _ j hj => by unfold bes; rw [if_pos hj]
  unfold iv at h
  split at h
  · cases h
  · rename_i hn
    have h2 : ¬ F.rk n (bes n f I1) n < n := hn
    have h3 := (F.red_cols (n := n) (C := n) (f := f) (g := f) (fun _ _ _ _ => rfl) n (Nat.le_refl _)).2.2
    have h4 : F.rk n f n ≤ n := h3
    omega
theorem rk_sing {n : Nat} {f : Tb} (h : F.iv n f = none) : F.rk n f n < n := by
  have e : F.rk n f n = F.rk n (bes n f I1) n := F.rk_congr fun i _ j hj => by unfold bes; rw [if_pos hj]
  unfold iv at h
  split at h
  · rename_i hn
    have h2 : F.rk n (bes n f I1) n < n := hn
    omega
  · cases h
/-- The rows twice. -/
theorem rk_twice {n c : Nat} {f g : Tb} (hf : F.Bd f) (hg : F.Bd g) (h1 : ∀ i, i < n → ∀ j, j < c → g i j = f i j) (h2 : ∀ i, i < n → ∀ j, j < c → g (n + i) j = f i j) : F.rk (n + n) g c = F.rk n f c := by
  refine Nat.le_antisymm (F.rk_mono hg hf (Sp.sub F hf (fun i => if i < n then i else i - n) fun i hi => ?_)) (F.rk_mono hf hg (Sp.sub F hg (fun i => i) fun i hi => ⟨by omega, fun j hj => (h1 i hi j hj).symm⟩))
  by_cases e : i < n
  · rw [if_pos e]; exact ⟨e, fun j hj => h1 i e j hj⟩
  · rw [if_neg e]
    refine ⟨by omega, fun j hj => ?_⟩
    have := h2 (i - n) (by omega) j hj
    rw [show n + (i - n) = i by omega] at this
    exact this
theorem rk_pos {n c i j : Nat} {f : Tb} (hf : F.Bd f) (hi : i < n) (hj : j < c) (h : f i j ≠ 0) : 0 < F.rk n f c := by
  obtain ⟨g, -, -, ⟨C, -, hC⟩, -⟩ := F.rk_rows (n := n) (c := c) hf
  refine Nat.pos_of_ne_zero fun e => h ?_
  rw [hC i j hi hj, e]; rfl
end Fld

section
variable {wb p : Nat} (hp : Prm wb p)
theorem fld_bd16 {f : Tb} (h : hp.fld.Bd f) : ∀ i j, f i j < 2 ^ wb := fun i j => by have := h i j; rw [hp.fld_w] at this; exact this
theorem inv_reg {a : Mtx} (hsq : sqM (some (wb, p)) a = true) (h : (invR hp a).1 = 0) : ∃ g, hp.fld.iv a.length (en a) = some g ∧ hp.fld.Iv a.length (en a) g ∧ invR hp a = (0, tab a.length a.length g) := by
  obtain ⟨hm, -⟩ := sqM_Mx hsq
  cases hi : hp.fld.iv a.length (en a) with
  | none => rw [invR_none hp hsq hi] at h; cases h
  | some g => exact ⟨g, rfl, hp.fld.iv_some (hm.bd hp) hi, invR_some hp hsq hi⟩
theorem inv_no {a : Mtx} (hsq : sqM (some (wb, p)) a = true) (h : (invR hp a).1 ≠ 0) : hp.fld.iv a.length (en a) = none ∧ invR hp a = (2, []) := by
  cases hi : hp.fld.iv a.length (en a) with
  | none => exact ⟨rfl, invR_none hp hsq hi⟩
  | some g => rw [invR_some hp hsq hi] at h; exact absurd rfl h
theorem rankR_sq {a : Mtx} (hsq : sqM (some (wb, p)) a = true) : rankR hp a = (((hp.fld.rk a.length (en a) a.length : Nat) : Int), 0) := by
  have h := hsq
  simp only [sqM, Bool.and_eq_true, decide_eq_true_eq] at h
  unfold rankR
  rw [if_pos h.1, ← h.2]
theorem inv_sing {a : Mtx} (hsq : sqM (some (wb, p)) a = true) (h : (invR hp a).1 ≠ 0) : invR hp a = (2, []) ∧ (rankR hp a).2 = 0 ∧ (rankR hp a).1 < (a.length : Int) := by
  obtain ⟨h1, h2⟩ := inv_no hp hsq h
  have := hp.fld.rk_sing h1
  rw [rankR_sq hp hsq]
  exact ⟨h2, rfl, by show ((hp.fld.rk a.length (en a) a.length : Nat) : Int) < _; omega⟩
theorem tab_en {n m : Nat} {g : Tb} {i j : Nat} (hi : i < n) (hj : j < m) : en (tab n m g) i j = g i j := en_tab hi hj
theorem mx_tab {n m : Nat} {g : Tb} (h : hp.fld.Bd g) : Mx wb n m (tab n m g) := Mx.tab fun i j _ _ => fld_bd16 hp h i j
theorem mulM_Iv {n : Nat} {a b : Mtx} (ha : Mx wb n n a) (hb : Mx wb n n b) (hn : 1 ≤ n ∧ n ≤ 20) (h : ∀ i j, i < n → j < n → hp.fld.mm n (en a) (en b) i j = I1 i j) : mulM (some (wb, p)) a b = some (idM n) := by
  rw [mulM_tab hp ha hb hn hn hn, idM_tab]
  congr 1
  exact tab_congr fun i j hi hj => h i j hi hj
theorem inv_back {a : Mtx} (hsq : sqM (some (wb, p)) a = true) (h : (invR hp a).1 = 0) :
    ∃ x, invR hp a = (0, x) ∧ mulM (some (wb, p)) a x = some (idM a.length) ∧ mulM (some (wb, p)) x a = some (idM a.length) ∧ invR hp x = (0, a) ∧ rankR hp a = ((a.length : Int), 0) := by
  obtain ⟨hm, h1, h2, -⟩ := sqM_Mx hsq
  obtain ⟨g, hg, hI, he⟩ := inv_reg hp hsq h
  have hx := mx_tab hp (n := a.length) (m := a.length) hI.bd'
  have hI2 : hp.fld.Iv a.length (en (tab a.length a.length g)) (en a) := (hI.symm).congr hp.fld (hx.bd hp) fun i j hi hj => en_tab hi hj
  refine ⟨_, he, mulM_Iv hp hm hx ⟨h1, h2⟩ fun i j hi hj => hI2.l i j hi hj, mulM_Iv hp hx hm ⟨h1, h2⟩ fun i j hi hj => hI2.r i j hi hj, ?_, ?_⟩
  · have hsx := hx.sq (p := p) h1 h2
    obtain ⟨k, hk⟩ := hp.fld.iv_of_Iv hI2
    have hl : (tab a.length a.length g).length = a.length := tab_length _ _ _
    have hk' : hp.fld.iv (tab a.length a.length g).length (en (tab a.length a.length g)) = some k := by rw [hl]; exact hk
    rw [invR_some hp hsx hk', hl]
    congr 1
    have hu := (hp.fld.iv_some (hx.bd hp) hk).uniq hp.fld (hm.bd hp) fun i j hi hj => hI2.r i j hi hj
    conv => rhs; rw [hm.eq_tab]
    exact tab_congr fun i j hi hj => (hu i j hi hj).symm
  · rw [rankR_sq hp hsq, hp.fld.rk_iv (by rw [hg]; rfl)]
theorem prod_inv {a b c : Mtx} (ha : sqM (some (wb, p)) a = true) (hb : sqM (some (wb, p)) b = true) (hc : mulM (some (wb, p)) a b = some c) :
    sqM (some (wb, p)) c = true ∧ (((invR hp a).1 ≠ 0 ∨ (invR hp b).1 ≠ 0) → (invR hp c).1 = 2) ∧ ((invR hp a).1 = 0 → (invR hp b).1 = 0 → ∃ z, invR hp c = (0, z) ∧ mulM (some (wb, p)) (invR hp b).2 (invR hp a).2 = some z) := by
  obtain ⟨hma, a1, a2, a3⟩ := sqM_Mx ha
  obtain ⟨hmb, b1, b2, b3⟩ := sqM_Mx hb
  obtain ⟨-, -, hw, -⟩ := mulM_inv hc
  have hl : b.length = a.length := by omega
  rw [hl] at hmb b1 b2
  rw [mulM_tab hp hma hmb ⟨a1, a2⟩ ⟨a1, a2⟩ ⟨a1, a2⟩] at hc
  obtain rfl := Option.some.inj hc
  have hbd := hp.fld.mm_bd a.length (en a) (en b)
  have hmc := mx_tab hp (n := a.length) (m := a.length) hbd
  have hlc : (tab a.length a.length (hp.fld.mm a.length (en a) (en b))).length = a.length := tab_length _ _ _
  have hsc := hmc.sq (p := p) a1 a2
  have hen : ∀ i j, i < a.length → j < a.length → en (tab a.length a.length (hp.fld.mm a.length (en a) (en b))) i j = hp.fld.mm a.length (en a) (en b) i j := fun i j hi hj => en_tab hi hj
  refine ⟨hsc, fun hno => ?_, fun h0 h0' => ?_⟩
  · refine Classical.byContradiction fun hc2 => ?_
    have hc0 : (invR hp (tab a.length a.length (hp.fld.mm a.length (en a) (en b)))).1 = 0 := Classical.byContradiction fun h => hc2 (by have := (inv_no hp hsc h).2; rw [show (tab a.length a.length fun i j => xsum a.length fun l => hp.fld.mul (en a i l) (en b l j)) = tab a.length a.length (hp.fld.mm a.length (en a) (en b)) from rfl, this])
    obtain ⟨g, -, hI, -⟩ := inv_reg hp hsc hc0
    rw [hlc] at hI
    obtain ⟨⟨x, hx⟩, ⟨y, hy⟩⟩ := Fld.Iv.of_mul hp.fld (hma.bd hp) (hmb.bd hp) (hI.congr hp.fld hbd fun i j hi hj => (hen i j hi hj).symm)
    rcases hno with h | h
    · rw [(inv_no hp ha h).1] at hx; cases hx
    · have := (inv_no hp hb h).1
      rw [hl, hy] at this; cases this
  · obtain ⟨x, -, hx, ex⟩ := inv_reg hp ha h0
    obtain ⟨y, -, hy, ey⟩ := inv_reg hp hb h0'
    rw [hl] at hy ey
    have hI := (hx.mul hp.fld hy).congr hp.fld (hmc.bd hp) hen
    obtain ⟨k, hk⟩ := hp.fld.iv_of_Iv hI
    have hu := (hp.fld.iv_some (hmc.bd hp) hk).uniq hp.fld hI.bd' fun i j hi hj => hI.r i j hi hj
    have hk' : hp.fld.iv (tab a.length a.length (hp.fld.mm a.length (en a) (en b))).length (en (tab a.length a.length (hp.fld.mm a.length (en a) (en b)))) = some k := by rw [hlc]; exact hk
    refine ⟨_, invR_some hp hsc hk', ?_⟩
    rw [ex, ey, tab_length]
    show mulM _ (tab a.length a.length y) (tab a.length a.length x) = _
    rw [mulM_tab hp (mx_tab hp hy.bd') (mx_tab hp hx.bd') ⟨a1, a2⟩ ⟨a1, a2⟩ ⟨a1, a2⟩]
    congr 1
    refine tab_congr fun i j hi hj => ?_
    rw [← hu i j hi hj]
    exact xsum_congr fun l hl => by rw [en_tab hi hl, en_tab hl hj]
theorem sol_back {a : Mtx} {x y : List Int} (ha : sqM (some (wb, p)) a = true) (hy : applyM (some (wb, p)) a x = some y) :
    ((invR hp a).1 ≠ 0 → solR hp a y = (2, []) ∧ invR hp a = (2, [])) ∧ ((invR hp a).1 = 0 → solR hp a y = (0, x) ∧ x.length = a.length) := by
  obtain ⟨hma, a1, a2, a3⟩ := sqM_Mx ha
  have hmul := applyM_mul.1 hy
  obtain ⟨n, m, k, h1, h2, hn, hm, hk, hM⟩ := mulM_some hp hmul
  have e1 : n = a.length := h1.1.symm
  subst e1
  have e2 : m = a.length := by rw [← h1.wid (by omega), a3]
  subst e2
  have hkx : x.length = a.length := by rw [← h2.1, colM_length]
  have hk1 : k = 1 := by
    rw [← h2.wid (by omega)]
    cases x with
    | nil => have := h2.1; simp [colM] at this; omega
    | cons z x => rfl
  subst hk1
  have hcy : Mx wb a.length 1 (colM y) := by rw [hM]; exact Mx.mul hp _ _
  have hyl : y.length = a.length := by rw [← hcy.1, colM_length]
  have hok : sqM (some (wb, p)) a = true ∧ y.length = a.length ∧ (∀ z ∈ y, inF (some (wb, p)) z = true) := ⟨ha, hyl, fun z hz => inF_some.2 ((hyl ▸ hcy).col_inv z hz)⟩
  refine ⟨fun h => ?_, fun h => ?_⟩
  · obtain ⟨-, he⟩ := inv_no hp ha h
    rw [solR_none hp hok h, he]; exact ⟨rfl, rfl⟩
  · refine ⟨?_, hkx⟩
    obtain ⟨u, e, -, hua, -, -⟩ := inv_back hp ha h
    rw [solR_some hp hok h, e]
    show (0, (applyM (some (wb, p)) u y).getD []) = _
    obtain ⟨z, z1, z2⟩ := apply_apply hp hua hy
    rw [z1]
    have hid : applyM (some (wb, p)) (idM a.length) x = some x := applyM_mul.2 (mulM_idl hp h2 ⟨a1, a2⟩ ⟨by omega, by omega⟩)
    rw [hid] at z2
    obtain rfl := Option.some.inj z2
    rfl
theorem en_take {a : Mtx} {k i j : Nat} (h : i < k) : en (a.take k) i j = en a i j := by
  unfold en
  simp [List.getD_eq_getElem?_getD, List.getElem?_take, h]
theorem en_app {a b : Mtx} {i j : Nat} (h : i < a.length) : en (a ++ b) i j = en a i j := by
  unfold en
  simp [List.getD_eq_getElem?_getD, List.getElem?_append_left h]
theorem en_app2 {a b : Mtx} {i j : Nat} : en (a ++ b) (a.length + i) j = en b i j := by
  unfold en
  simp [List.getD_eq_getElem?_getD, List.getElem?_append_right]
theorem rank_bd {a : Mtx} (h : mayM (some (wb, p)) a = true) : ∃ r : Nat, rankR hp a = ((r : Int), 0) ∧ r ≤ a.length ∧ r ≤ wid a := by
  obtain ⟨hm, -⟩ := mayM_Mx h
  have := hp.fld.rk_le (n := a.length) (c := wid a) (hm.bd hp)
  exact ⟨_, if_pos h, this.1, this.2⟩
theorem rank_twice {a : Mtx} (h : mayM (some (wb, p)) a = true) (h10 : a.length ≤ 10) : joinM (some (wb, p)) a a = some (a ++ a) ∧ rankR hp (a ++ a) = rankR hp a := by
  obtain ⟨hm, h1, h2, h3, h4⟩ := mayM_Mx h
  obtain ⟨b1, b2, b3, b4, b5⟩ := mayM_pos h
  have hw : wid (a ++ a) = wid a := by
    obtain ⟨r, hr⟩ : ∃ r, a[0]? = some r := ⟨_, List.getElem?_eq_getElem (by omega)⟩
    rw [wid_at hr, wid_at (r := r) (by rw [List.getElem?_append_left (by omega), hr])]
  have hmm : mayM (some (wb, p)) (a ++ a) = true := mayM_of (by simp; omega) (by simp; omega) (by omega) (by omega) fun r hr => by
    rw [hw]; exact b5 r (by simpa using hr)
  refine ⟨joinM_t h h rfl (by omega), ?_⟩
  unfold rankR
  rw [if_pos h, if_pos hmm, hw, List.length_append]
  have hm2 := (mayM_Mx hmm).1
  rw [hp.fld.rk_twice (f := en a) (hm.bd hp) (hm2.bd hp) (fun i hi j _ => en_app hi) (fun i hi j _ => en_app2)]
theorem rank_less {a : Mtx} (h : mayM (some (wb, p)) a = true) (h2 : 2 ≤ a.length) : ∃ r l : Nat, rankR hp a = ((r : Int), 0) ∧ rankR hp (a.take (a.length - 1)) = ((l : Int), 0) ∧ l ≤ r ∧ r ≤ l + 1 := by
  obtain ⟨hm, h1, h20, h3, h4⟩ := mayM_Mx h
  obtain ⟨b1, b2, b3, b4, b5⟩ := mayM_pos h
  have hl : (a.take (a.length - 1)).length = a.length - 1 := by simp
  have hw : wid (a.take (a.length - 1)) = wid a := by
    obtain ⟨r, hr⟩ : ∃ r, a[0]? = some r := ⟨_, List.getElem?_eq_getElem (by omega)⟩
    rw [wid_at hr, wid_at (r := r) (by rw [List.getElem?_take, if_pos (by omega), hr])]
  have hmm : mayM (some (wb, p)) (a.take (a.length - 1)) = true := mayM_of (by omega) (by omega) (by omega) (by omega) fun r hr => by
    rw [hw]; exact b5 r (List.mem_of_mem_take hr)
  have hr := hp.fld.rk_more (c := wid a) (n := a.length - 1) (hm.bd hp)
  rw [show a.length - 1 + 1 = a.length by omega] at hr
  refine ⟨_, _, if_pos h, ?_, hr⟩
  unfold rankR
  rw [if_pos hmm, hw, hl, hp.fld.rk_congr (g := en a) (fun i hi j _ => en_take hi)]
theorem sqM_of {a : Mtx} (h : mayM (some (wb, p)) a = true) (h2 : a.length = wid a) : sqM (some (wb, p)) a = true := by unfold sqM; rw [h, decide_eq_true h2]; rfl
end
/-- Are numbers all different, and below a bound? -/
def unl (l : List Int) (b : Int) : Bool := decide (l.Nodup ∧ ∀ x ∈ l, 0 ≤ x ∧ x < b)
theorem unl_no {l : List Int} {b : Int} (h : ¬ (l.Nodup ∧ ∀ x ∈ l, 0 ≤ x ∧ x < b)) : unl l b = false := decide_eq_false h
theorem nodup_no {l : List Int} {i k : Nat} {x : Int} (h : k < i) (hi : l[i]? = some x) (hk : l[k]? = some x) : ¬ l.Nodup := fun hn => by
  obtain ⟨h1, h2⟩ := List.getElem?_eq_some_iff.1 hi
  obtain ⟨h3, h4⟩ := List.getElem?_eq_some_iff.1 hk
  exact List.pairwise_iff_getElem.1 hn k i h3 h1 h (h4.trans h2.symm)
theorem nodup_snoc {l : List Int} {i : Nat} {x : Int} (h : (l.take i).Nodup) (hi : l[i]? = some x) (hx : ∀ y ∈ l.take i, y ≠ x) : (l.take (i + 1)).Nodup := by
  rw [take_snoc hi]
  refine List.pairwise_append.2 ⟨h, List.pairwise_singleton _ _, fun a ha b hb => ?_⟩
  obtain rfl : b = x := by simpa using hb
  exact hx a ha
theorem gpow_fld {wb p x n : Nat} (hp : Prm wb p) (hx : x < 2 ^ wb) : gpow (some (wb, p)) (x : Int) (n : Int) = (hp.fld.pow x n : Int) := by
  rw [gpow_in hx]; exact congrArg _ (fld_pow p hp.irrP x n).symm
/-- The rows of powers of some numbers. -/
def vtab {wb p : Nat} (hp : Prm wb p) (l : List Nat) : Tb := fun i k => hp.fld.pow (l.getD i 0) k
def vrows {wb p : Nat} (hp : Prm wb p) (l : List Nat) : Mtx := tab l.length l.length (vtab hp l)
theorem vrows_inv {wb p : Nat} (hp : Prm wb p) {l : List Nat} (h1 : 1 ≤ l.length) (h2 : l.length ≤ 20) (hl : ∀ x ∈ l, x < 256) : ((invR hp (vrows hp l)).1 = 0 ↔ unl (l.map fun (x : Nat) => (x : Int)) 256 = true) ∧ ((invR hp (vrows hp l)).1 = 0 ∨ (invR hp (vrows hp l)).1 = 2) := by
  have h16 := hp.size.1
  have hx : ∀ i, l.getD i 0 < 2 ^ hp.fld.w := fun i => by
    rw [hp.fld_w, List.getD_eq_getElem?_getD]
    cases hi : l[i]? with
    | none => simp; omega
    | some x => have := hl x (List.mem_of_getElem? hi); simp; omega
  have et : vrows hp l = tab l.length l.length fun i k => hp.fld.pow (l.getD i 0) k := rfl
  have hb : hp.fld.Bd fun i k => hp.fld.pow (l.getD i 0) k := fun i k => hp.fld.pow_lt _ _
  have hm : Mx wb l.length l.length (vrows hp l) := by rw [et]; exact mx_tab hp hb
  have hsq := hm.sq (p := p) h1 h2
  have hlen := hm.1
  have hen : ∀ i j, i < l.length → j < l.length → en (vrows hp l) i j = hp.fld.pow (l.getD i 0) j := fun i j hi hj => by rw [et]; exact en_tab hi hj
  have hiff := hp.fld.iv_congr (n := l.length) (hm.bd hp) hb hen
  have hcase : (invR hp (vrows hp l)).1 = 0 ∨ (invR hp (vrows hp l)).1 = 2 := by
    by_cases h : (invR hp (vrows hp l)).1 = 0
    · exact .inl h
    · rw [(inv_no hp hsq h).2]; exact .inr rfl
  refine ⟨⟨fun h => ?_, fun h => ?_⟩, hcase⟩
  · obtain ⟨g, hg, -⟩ := inv_reg hp hsq h
    rw [hlen] at hg
    rw [hg] at hiff
    refine decide_eq_true ⟨?_, fun x hx => ?_⟩
    · refine List.pairwise_iff_getElem.2 fun i j hi hj hij e => ?_
      have hjl : j < l.length := by simpa using hj
      simp only [List.getElem_map] at e
      have hn := hp.fld.iv_twice (n := l.length) hb (a := i) (b := j) (by omega) hjl (by omega) fun k _ => by
        rw [getD_of (show i < l.length by omega), getD_of hjl, show l[i] = l[j] by omega]
      rw [hn] at hiff
      cases hiff
    · obtain ⟨y, hy, rfl⟩ := List.mem_map.1 hx
      have := hl y hy
      exact ⟨by omega, by omega⟩
  · obtain ⟨hnd, -⟩ := of_decide_eq_true h
    obtain ⟨g, hg⟩ := hp.fld.vander (n := l.length) hx fun i j hi hj e => by
      refine Classical.byContradiction fun hne => ?_
      have key : ∀ a b, a < b → b < l.length → l.getD a 0 = l.getD b 0 → False := fun a b hab hb e => by
        refine List.pairwise_iff_getElem.1 hnd a b (by simp; omega) (by simpa using hb) hab ?_
        rw [getD_of (show a < l.length by omega), getD_of hb] at e
        simp [e]
      rcases Nat.lt_or_gt_of_ne hne with h' | h'
      · exact key i j h' hj e
      · exact key j i h' hi e.symm
    rw [hg] at hiff
    refine Classical.byContradiction fun h0 => ?_
    rw [← hlen, (inv_no hp hsq h0).1] at hiff
    cases hiff
/-! ### the smallest ones -/
theorem aw5_len (a b c d : Int) : ([[a, b], [c, d]] : Mtx).length ≤ maxLen ∧ ∀ r ∈ ([[a, b], [c, d]] : Mtx), r.length ≤ maxLen := by
  refine ⟨(by decide : (2 : Nat) ≤ maxLen), fun r hr => ?_⟩
  simp only [List.mem_cons, List.mem_nil_iff, or_false] at hr
  rcases hr with rfl | rfl <;> exact (by decide : (2 : Nat) ≤ maxLen)
theorem aw5_sq {a b c d : Int} (h : ∀ x ∈ [a, b, c, d], inF (some (8, 285)) x = true) : sqM (some (8, 285)) [[a, b], [c, d]] = true := by
  have hm : Mx 8 2 2 [[a, b], [c, d]] := ⟨rfl, fun r hr => by
    simp only [List.mem_cons, List.mem_nil_iff, or_false] at hr
    have h2 := fun x hx => inF_some.1 (h x hx)
    rcases hr with rfl | rfl
    · exact ⟨rfl, fun x hx => h2 x (by simp at hx ⊢; rcases hx with rfl | rfl <;> simp)⟩
    · exact ⟨rfl, fun x hx => h2 x (by simp at hx ⊢; rcases hx with rfl | rfl <;> simp)⟩⟩
  exact hm.sq (by decide) (by decide)
theorem aw5_no : invR prm_285 [[1, 1], [1, 1]] = (2, []) := by
  have hsq := aw5_sq (a := 1) (b := 1) (c := 1) (d := 1) (by decide)
  obtain ⟨hm, -⟩ := sqM_Mx hsq
  exact invR_none prm_285 hsq (prm_285.fld.iv_twice (n := 2) (hm.bd prm_285) (a := 0) (b := 1) (by decide) (by decide) (by decide) fun j hj => by
    match j, hj with
    | 0, _ => rfl
    | 1, _ => rfl)
theorem aw5_rank : rankR prm_285 [[1, 1], [1, 1]] = (1, 0) := by
  have hsq := aw5_sq (a := 1) (b := 1) (c := 1) (d := 1) (by decide)
  obtain ⟨hm, -⟩ := sqM_Mx hsq
  rw [rankR_sq prm_285 hsq]
  show (((prm_285.fld.rk 2 (en [[1, 1], [1, 1]]) 2 : Nat) : Int), (0 : Int)) = _
  have h1 : prm_285.fld.rk 2 (en [[1, 1], [1, 1]]) 2 < 2 := prm_285.fld.rk_sing (prm_285.fld.iv_twice (n := 2) (hm.bd prm_285) (a := 0) (b := 1) (by decide) (by decide) (by decide) fun j hj => by
    match j, hj with
    | 0, _ => rfl
    | 1, _ => rfl)
  have h2 := prm_285.fld.rk_pos (n := 2) (c := 2) (hm.bd prm_285) (i := 0) (j := 0) (by decide) (by decide) (show (1 : Nat) ≠ 0 by decide)
  rw [show prm_285.fld.rk 2 (en [[1, 1], [1, 1]]) 2 = 1 by omega]
  rfl
theorem aw5_inv : ∃ x, invR prm_285 [[1, 1], [1, 2]] = (0, x) ∧ x.length = 2 := by
  have hsq := aw5_sq (a := 1) (b := 1) (c := 1) (d := 2) (by decide)
  obtain ⟨hm, -⟩ := sqM_Mx hsq
  have e : ([[1, 1], [1, 2]] : Mtx) = vrows prm_285 [1, 2] := by
    have hv : ∀ i k : Nat, vtab prm_285 [1, 2] i k = prm_285.fld.pow ([1, 2].getD i 0) k := fun _ _ => rfl
    show _ = tab 2 2 (vtab prm_285 [1, 2])
    have h0 : ∀ x, prm_285.fld.pow x 0 = 1 := fun _ => rfl
    have h1 : prm_285.fld.pow 1 1 = 1 := prm_285.fld.pow_one 1 (by rw [prm_285.fld_w]; decide)
    have h2 : prm_285.fld.pow 2 1 = 2 := prm_285.fld.pow_one 2 (by rw [prm_285.fld_w]; decide)
    show _ = [[((prm_285.fld.pow 1 0 : Nat) : Int), ((prm_285.fld.pow 1 1 : Nat) : Int)], [((prm_285.fld.pow 2 0 : Nat) : Int), ((prm_285.fld.pow 2 1 : Nat) : Int)]]
    rw [h0, h1, h0, h2]
    rfl
  have h0 : (invR prm_285 [[1, 1], [1, 2]]).1 = 0 := by
    rw [e]
    exact (vrows_inv prm_285 (l := [1, 2]) (by decide) (by decide) (by decide)).1.2 (by decide)
  obtain ⟨g, -, -, h⟩ := inv_reg prm_285 hsq h0
  exact ⟨_, h, tab_length _ _ _⟩
end Go.Gam
