/- The walks of package jvan: columns. -/
import Derived.Test.YtaeljbdpjiciaaaFJva
set_option linter.unusedVariables false
set_option linter.unusedSimpArgs false
namespace Go.Proofs.Ytaeljbdpjiciaaa
open Go Go.Gam


namespace FxFJvb
theorem en29 : Ent Try.prog 29 := ent Try.func29 (by kernel_rfl) (by kernel_rfl)
theorem fa65_0 : FieldFact Try.prog 65 0 0 := ff_of (sz := 0) Try.underlying65 (by kernel_rfl)
theorem fa65_1 : FieldFact Try.prog 65 1 1 := ff_of (sz := 0) Try.underlying65 (by kernel_rfl)
theorem hmix : Try.prog.follows .mixedOrders = true := by kernel_rfl
theorem on3 : Gam.One Try.prog 3 := by unfold Gam.One; kernel_rfl
theorem rc65 : Rec2 Try.prog 65 (.pointer none) (.slice none 0 0) := rec2_of Try.underlying65 (by kernel_rfl) (by kernel_rfl) (by kernel_rfl)
theorem sc23 : Scalar Try.prog 23 := ⟨_, Try.underlying23, by simp, by simp⟩
theorem sc28 : Scalar Try.prog 28 := ⟨_, Try.underlying28, by simp, by simp⟩
theorem sc3 : Scalar Try.prog 3 := ⟨_, Try.underlying3, by simp, by simp⟩
theorem sc37 : Scalar Try.prog 37 := ⟨_, Try.underlying37, by simp, by simp⟩
theorem sl27 : Sl Try.prog 27 37 (.slice none 0 0) 24 := sl_of Try.underlying27 rfl (by kernel_rfl)
theorem sl28 : Sl Try.prog 28 37 (.slice none 0 0) 24 := sl_of Try.underlying28 rfl (by kernel_rfl)
theorem sl37 : Sl Try.prog 37 3 (.int .i64 0) 8 := sl_of Try.underlying37 rfl (by kernel_rfl)
end FxFJvb
open FxFJvb

set_option maxRecDepth 100000 in
set_option maxHeartbeats 1000000 in
theorem scale_ok (B N KM wb p : Nat) (hp : Prm wb p) (fv : Value) (g cap n k : Nat) (bs rc : Nat → Nat) (f : Tb) (fr j c : Nat) (w : World) (hI : Inv FDx B w) (hf : Fo FDx B w fv (some (wb, p))) (hO : Gam.Own FDx B N w 37 (.slice (some ⟨g, 0, none⟩) n cap) (some g) (vls n k bs rc)) (hW : Wr FDx B N KM w n k bs rc (f)) (hKM : KM ≤ w.heap.size) (hNM : N ≤ KM) (hfb : hp.fld.Bd f) (hnk : n ≤ 20 ∧ k ≤ 20) (hfr : fr < n) (hj : j < k) (hc : c < 2 ^ wb) : Ret Try.prog 47 [.agg #[fv, .slice (some ⟨g, 0, none⟩) n cap], .int .i64 (fr : Int), .int .i64 (j : Int), .int .i64 (c : Int)] w fun v w' => v = .tuple #[] ∧ Gam.Own FDx B N w' 37 (.slice (some ⟨g, 0, none⟩) n cap) (some g) (vls n k bs rc) ∧ Wr FDx B N KM w' n k bs rc (hp.fld.scC fr j c n f) ∧ StZ FDx B (fun x => N ≤ x ∧ x < KM) w w' := by
  refine enter0 31 [(0, .agg #[fv, .slice (some ⟨g, 0, none⟩) n cap]), (1, .int .i64 (fr : Int)), (2, .int .i64 (j : Int)), (3, .int .i64 (c : Int))]  Try.func47 rfl rfl rfl rfl rfl ?_; intro a hF
  have hS := StZ.refl (Z := (fun x => N ≤ x ∧ x < KM)) hI
  have hfw := hp.fld_w
  have h16 : 2 ^ wb ≤ 65536 := by rcases hp.w with h | h <;> rw [h] <;> decide
  refine W_sr rfl (fun K hK => ?_)
  obtain ⟨gr, hgr⟩ : ∃ x, x = w.heap.size := ⟨_, rfl⟩
  have hKgr : KM ≤ gr := by omega
  refine s_box (D := FDx) (B := B) hF rfl (by decide) hS.inv rfl ?_; clear hF a; intro w' a hm hbx hsz hF
  replace hf := hf.mb hm
  replace hO := hO.mb hm (fun _ _ => by simp)
  replace hW := hW.mb0 hm
  replace hS := hS.mb0 hm
  clear hm
  rw [← hgr] at hbx hF
  refine WL_nil (hK _ _ ?_)
  clear hK K
  replace hF := hF.sub _ (c_ 4 rfl (c_ 1 rfl (c_ 2 rfl (c_ 3 rfl (n_)))))
  refine W_sr rfl (fun K hK => ?_)
  refine sv hF (v_fieldAddr fa65_1 rfl) rfl ?_; clear hF a; intro a hF
  refine sv hF (v_load sc28 rfl (hbx.at 1 rfl)) rfl ?_; clear hF a; intro a hF
  refine sv hF (v_move rfl) rfl ?_; clear hF a; intro a hF
  have hcap := (hO.row (by decide)).capd
  have hvl := vls_length n k bs rc
  refine sv hF (v_slLo sl28 rfl rfl (by omega) (by omega)) rfl ?_; clear hF a; intro a hF
  refine sv hF (v_lenS rfl sl28 rfl) rfl ?_; clear hF a; intro a hF
  refine sv hF (v_move rfl) rfl ?_; clear hF a; intro a hF
  refine WL_nil (hK _ _ ?_)
  clear hK K
  replace hF := hF.sub _ (c_ 15 rfl (c_ 14 rfl (c_ 13 rfl (c_ 4 rfl (c_ 2 rfl (c_ 3 rfl (n_)))))))
  refine W_block ?_
  refine W_loop (fun q a w1 => ∃ (l : Nat), Fr 31 [(2, .int .i64 (j : Int)), (3, .int .i64 (c : Int)), (4, .pointer (some ⟨gr, 0, none⟩)), (13, .slice (slA (some ⟨g, 0, none⟩) fr cap) (n - fr) (cap - fr)), (14, .int .i64 ((n - fr : Nat) : Int)), (15, .int .i64 (l : Int))] a ∧ (StZ FDx B (fun x => N ≤ x ∧ x < KM) w w1) ∧ (Fo FDx B w1 fv (some (wb, p))) ∧ (Blk w1 gr 65 [fv, .slice (some ⟨g, 0, none⟩) n cap]) ∧ (Gam.Own FDx B N w1 37 (.slice (some ⟨g, 0, none⟩) n cap) (some g) (vls n k bs rc)) ∧ (Wr FDx B N KM w1 n k bs rc (hp.fld.scC fr j c (fr + l) f)) ∧ (l ≤ n - fr) ∧ (q + l = n - fr)) (n - fr) ?_ ?_
  · skip
    exact ⟨0, hF.sub _ (c_ 2 rfl (c_ 3 rfl (c_ 4 rfl (c_ 13 rfl (c_ 14 rfl (c_ 15 rfl (n_))))))), hS, hf, hbx, hO, hW.congr (fun a _ b _ => hp.fld.scC_zero.symm), by omega, by omega⟩
  · skip
    clear hF
    clear hS hf hbx hO hW
    rintro q a w1 ⟨l, hF, hS, hf, hbx, hO, hW, hl, hq⟩
    refine W_sr rfl (fun K hK => ?_)
    refine sv hF (v_lss rfl rfl) rfl ?_; clear hF a; intro a hF
    refine WL_nil (hK _ _ ?_)
    clear hK K
    refine W_seq ?_
    refine W_if hF rfl (fun hc1 => ?_) (fun hc1 => ?_)
    · skip
      try simp only [decide_eq_true_eq, decide_eq_false_iff_not, Bool.not_eq_true', Bool.not_eq_false', Bool.not_true, Bool.not_false] at hc1
      have hlt : l < n - fr := by omega
      have hx : fr + l < n := by omega
      have hb1 := hp.fld.scC_bd (fr := fr) (j := j) (c := c) (x := fr + l) hfb (fr + l) j
      rw [hfw] at hb1
      have hkr := hO.kc (by decide) (vls_at hx)
      have hsl : slA (some ⟨g, 0, none⟩) fr cap = some ⟨g, 0 + fr, none⟩ := slA_of (by omega)
      rw [hsl] at hF
      refine W_skip ?_
      refine W_seq ?_
      refine W_block ?_
      refine W_sr rfl (fun K hK => ?_)
      refine sv hF (v_ixS sl28 rfl rfl (by omega) (by omega)) rfl ?_; clear hF a; intro a hF
      refine sv hF (v_load sc37 rfl (by rw [toNat_c, Nat.add_assoc]; exact hkr.c)) rfl ?_; clear hF a; intro a hF
      refine sv hF (v_assign rfl) rfl ?_; clear hF a; intro a hF
      refine WL_nil (hK _ _ ?_)
      clear hK K
      replace hF := hF.sub _ (c_ 9 rfl (c_ 2 rfl (c_ 3 rfl (c_ 4 rfl (c_ 13 rfl (c_ 14 rfl (c_ 15 rfl (n_))))))))
      clear hkr
      refine W_dS (fun (w2 : World) => w2.cell? ⟨gr, 0, none⟩ = some fv) (m := 12) rfl hmix (fun K hK => ?_)
      have hS' := St.drew hS.inv
      replace hf := hf.st hS'
      replace hO := hO.st (by decide) hS'
      replace hW := hW.st hS'
      replace hbx := hbx.st (by decide) hS'
      replace hS := hS.trans hS'
      clear hS'
      have hSS : (fun (w2 : World) => w2.cell? ⟨gr, 0, none⟩ = some fv) _ := hbx.at 0 rfl
      refine b_v (i := 0) rfl (by kernel_rfl) hF (fun w2 hx => v_move rfl) rfl hSS ?_; clear hF a; intro a hF
      refine b_v (i := 1) rfl (by kernel_rfl) hF (fun w2 hx => v_move rfl) rfl hSS ?_; clear hF a; intro a hF
      refine b_v (i := 2) rfl (by kernel_rfl) hF (fun w2 hx => v_fieldAddr fa65_0 rfl) rfl hSS ?_; clear hF a; intro a hF
      refine b_v (i := 3) rfl (by kernel_rfl) hF (fun w2 hx => v_load sc23 rfl hx) rfl hSS ?_; clear hF a; intro a hF
      refine b_v (i := 4) rfl (by kernel_rfl) hF (fun w2 hx => v_move rfl) rfl hSS ?_; clear hF a; intro a hF
      refine b_v (i := 5) rfl (by kernel_rfl) hF (fun w2 hx => v_move rfl) rfl hSS ?_; clear hF a; intro a hF
      refine b_v (i := 6) rfl (by kernel_rfl) hF (fun w2 hx => v_ixS sl37 rfl rfl (by omega) (by omega)) rfl hSS ?_; clear hF a; intro a hF
      refine b_v (i := 8) rfl (by kernel_rfl) hF (fun w2 hx => v_move rfl) rfl hSS ?_; clear hF a; intro a hF
      refine b_e (i := 7) (by kernel_rfl) rfl ?_
      refine sv hF (v_load sc3 rfl (by rw [toNat_c]; exact (hW.rd hx hj).c)) rfl ?_; clear hF a; intro a hF
      refine WL_nil ⟨hSS, ?_⟩
      refine b_e (i := 9) (by kernel_rfl) rfl ?_
      refine sc hF rfl rfl rfl en29 rfl (Mul_gf B (some (wb, p)) fv (((hp.fld.scC fr j c (fr + l) f) (fr + l) j : Nat) : Int) (c : Int) _ hS.inv hf) ?_; clear hF a; intro v w' a hv hF
      obtain ⟨rfl, hS'⟩ := hv
      replace hf := hf.st hS'
      replace hO := hO.st (by decide) hS'
      replace hW := hW.st hS'
      replace hbx := hbx.st (by decide) hS'
      replace hS := hS.trans hS'
      clear hS'
      rw [gmul_num hp hb1 hc] at hF
      clear hSS
      have hSS : (fun (w2 : World) => w2.cell? ⟨gr, 0, none⟩ = some fv) _ := hbx.at 0 rfl
      refine WL_nil ⟨hSS, ?_⟩
      refine b_v (i := 10) rfl (by kernel_rfl) hF (fun w2 hx => v_ixS sl37 rfl rfl (by omega) (by omega)) rfl hSS ?_; clear hF a; intro a hF
      refine b_e (i := 11) (by kernel_rfl) rfl ?_
      have hR0 := hW.row _ hx
      have hge := hW.ge hx
      refine s_set (D := FDx) (B := B) hF on3 rfl (by rw [toNat_c, zints_length, trow_length]; omega) rfl rfl hR0 (by decide) hS.inv ?_; intro w' hm hI' ho'
      replace hf := hf.mb hm
      replace hO := hO.mb hm (hO.ne_type hR0 (by decide))
      replace hW := hW.set (g := hp.fld.scC fr j c (fr + l + 1) f) hx hm (ho'.cast (by rw [toNat_c, Nat.zero_add, zints_set, trow_set (g := hp.fld.scC fr j c (fr + l + 1) f)]; intro l hl; exact hp.fld.scC_at (by omega))) (fun a ha hai l hl => (hp.fld.scC_ne hai))
      replace hbx := hbx.mb hm (hW.ne hx hKgr)
      replace hS := hS.mb hm (fun k e => ⟨by cases e; exact ⟨hge.1, hW.lt _ hx⟩, hR0.isrow k e⟩)
      replace hR0 := ho'
      clear hm hI' ho'
      clear hR0 hge
      clear hSS
      have hSS : (fun (w2 : World) => w2.cell? ⟨gr, 0, none⟩ = some fv) _ := hbx.at 0 rfl
      refine WL_nil ⟨hSS, ?_⟩
      refine b_done (by kernel_rfl) (hK _ _ ?_)
      clear hK K
      replace hF := hF.sub _ (c_ 2 rfl (c_ 3 rfl (c_ 4 rfl (c_ 13 rfl (c_ 14 rfl (c_ 15 rfl (n_)))))))
      rw [← hsl] at hF
      refine W_reg rfl (fun K hK => ?_)
      refine sv hF (v_addI rfl rfl (by omega)) rfl ?_; clear hF a; intro a hF
      refine sv hF (v_move rfl) rfl ?_; clear hF a; intro a hF
      refine WL_nil (hK _ _ ?_)
      clear hK K
      exact ⟨q - 1, by omega, l + 1, hF.sub _ (c_ 2 rfl (c_ 3 rfl (c_ 4 rfl (c_ 13 rfl (c_ 14 rfl (c_ 15 rfl (n_))))))), hS, hf, hbx, hO, hW, by omega, by omega⟩
    · skip
      try simp only [decide_eq_true_eq, decide_eq_false_iff_not, Bool.not_eq_true', Bool.not_eq_false', Bool.not_true, Bool.not_false] at hc1
      refine W_exit rfl ?_
      refine ⟨_, hF, ?_⟩
      obtain rfl : l = n - fr := by omega
      rw [show fr + (n - fr) = n by omega] at hW
      exact ⟨rfl, hO, hW, hS⟩

set_option maxRecDepth 100000 in
set_option maxHeartbeats 1000000 in
theorem jclear_ok (B N KM wb p : Nat) (hp : Prm wb p) (fv : Value) (g cap n k : Nat) (bs rc : Nat → Nat) (f : Tb) (i : Nat) (w : World) (hI : Inv FDx B w) (hf : Fo FDx B w fv (some (wb, p))) (hO : Gam.Own FDx B N w 37 (.slice (some ⟨g, 0, none⟩) n cap) (some g) (vls n k bs rc)) (hW : Wr FDx B N KM w n k bs rc (f)) (hKM : KM ≤ w.heap.size) (hNM : N ≤ KM) (hfb : hp.fld.Bd f) (hnk : n ≤ 20 ∧ k ≤ 20) (hi : i < k) (hin : i < n) : Ret Try.prog 79 [.agg #[fv, .slice (some ⟨g, 0, none⟩) n cap], .int .i64 (i : Int)] w fun v w' => v = .tuple #[] ∧ Gam.Own FDx B N w' 37 (.slice (some ⟨g, 0, none⟩) n cap) (some g) (vls n k bs rc) ∧ Wr FDx B N KM w' n k bs rc (hp.fld.clC i (k) (0) f) ∧ StZ FDx B (fun x => N ≤ x ∧ x < KM) w w' := by
  refine enter0 49 [(0, .agg #[fv, .slice (some ⟨g, 0, none⟩) n cap]), (1, .int .i64 (i : Int))]  Try.func79 rfl rfl rfl rfl rfl ?_; intro a hF
  have hS := StZ.refl (Z := (fun x => N ≤ x ∧ x < KM)) hI
  have hfw := hp.fld_w
  have h16 : 2 ^ wb ≤ 65536 := by rcases hp.w with h | h <;> rw [h] <;> decide
  refine W_sr rfl (fun K hK => ?_)
  obtain ⟨gr, hgr⟩ : ∃ x, x = w.heap.size := ⟨_, rfl⟩
  have hKgr : KM ≤ gr := by omega
  refine s_box (D := FDx) (B := B) hF rfl (by decide) hS.inv rfl ?_; clear hF a; intro w' a hm hbx hsz hF
  replace hf := hf.mb hm
  replace hO := hO.mb hm (fun _ _ => by simp)
  replace hW := hW.mb0 hm
  replace hS := hS.mb0 hm
  clear hm
  rw [← hgr] at hbx hF
  refine WL_nil (hK _ _ ?_)
  clear hK K
  replace hF := hF.sub _ (c_ 2 rfl (c_ 1 rfl (n_)))
  refine W_sr rfl (fun K hK => ?_)
  have hs0 := hS.ext.size
  refine s_bs (D := FDx) (B := B) hF sl37 rfl rfl (by decide) (by simp [Value.cells]) (by decide) hS.inv rfl ?_; clear hF a; intro w' a hm hI' hC hF
  replace hf := hf.mb hm
  replace hO := hO.mb hm (fun _ _ => by simp)
  replace hW := hW.mb0 hm
  replace hbx := hbx.mb hm (by simp)
  replace hS := hS.mb0 hm
  clear hm hI'
  replace hC := hC.le hs0
  clear hs0
  refine sv hF (v_fieldAddr fa65_1 rfl) rfl ?_; clear hF a; intro a hF
  refine sv hF (v_load sc28 rfl (hbx.at 1 rfl)) rfl ?_; clear hF a; intro a hF
  refine sv hF (v_move rfl) rfl ?_; clear hF a; intro a hF
  refine sv hF (v_ixS sl28 rfl rfl (by omega) (by omega)) rfl ?_; clear hF a; intro a hF
  have hkr := hO.kc (by decide) (vls_at hin)
  refine sv hF (v_load sc37 rfl (by rw [toNat_c]; exact hkr.c)) rfl ?_; clear hF a; intro a hF
  clear hkr
  refine s_app (D := FDx) (B := B) hF rfl sl37 rfl rfl hC (((hW.row i hin).row (by decide))) (by intro u hu; obtain ⟨_, _, rfl⟩ := List.mem_map.1 hu; rfl) (by simp; omega) (by simp [maxLen]; omega) (hS.ext.size) (by decide) hS.inv rfl ?_; clear hF a; intro v' b' w' a ho' hm hI' hb' hF
  replace hf := hf.mb hm
  replace hO := hO.mb hm (hO.ne_type hC (by decide))
  replace hW := hW.mbx hm (fun k e => Nat.le_trans hKM (hC.lt k e).1)
  replace hbx := hbx.mb hm (Blk.ne_own hbx hC (by decide))
  replace hS := hS.mbn hm (fun k e => ⟨(hC.lt k e).1, hC.isrow k e⟩)
  replace hC := ho'
  clear hm hI' ho'
  refine sv hF (v_assign rfl) rfl ?_; clear hF a; intro a hF
  refine WL_nil (hK _ _ ?_)
  clear hK K
  replace hF := hF.sub _ (c_ 4 rfl (c_ 2 rfl (c_ 1 rfl (n_))))
  replace hC := hC.cast (List.nil_append _)
  obtain ⟨gc, cc, rfl, rfl⟩ := hC.ptr (by simp; omega)
  rw [zints_length, trow_length] at hC hF
  have hKgc : KM ≤ gc := Nat.le_trans hKM (hC.lt _ rfl).1
  refine W_sr rfl (fun K hK => ?_)
  refine sv hF (v_move rfl) rfl ?_; clear hF a; intro a hF
  refine sv hF (v_lenS rfl sl37 rfl) rfl ?_; clear hF a; intro a hF
  refine sv hF (v_move rfl) rfl ?_; clear hF a; intro a hF
  refine WL_nil (hK _ _ ?_)
  clear hK K
  replace hF := hF.sub _ (c_ 18 rfl (c_ 17 rfl (c_ 16 rfl (c_ 2 rfl (c_ 1 rfl (n_))))))
  refine W_block ?_
  refine W_loop (fun q a w1 => ∃ (j : Nat), Fr 49 [(1, .int .i64 (i : Int)), (2, .pointer (some ⟨gr, 0, none⟩)), (16, .slice (some ⟨gc, 0, none⟩) k cc), (17, .int .i64 (k : Int)), (18, .int .i64 (j : Int))] a ∧ (StZ FDx B (fun x => N ≤ x ∧ x < KM) w w1) ∧ (Fo FDx B w1 fv (some (wb, p))) ∧ (Blk w1 gr 65 [fv, .slice (some ⟨g, 0, none⟩) n cap]) ∧ (Gam.Own FDx B N w1 37 (.slice (some ⟨g, 0, none⟩) n cap) (some g) (vls n k bs rc)) ∧ (Wr FDx B N KM w1 n k bs rc (hp.fld.clC i (j) (0) f)) ∧ (Gam.Own FDx B w.heap.size w1 FDx.E (.slice (some ⟨gc, 0, none⟩) k cc) (some gc) (zints (trow k f i))) ∧ (j ≤ k) ∧ (q + j = k)) (k) ?_ ?_
  · skip
    exact ⟨0, hF.sub _ (c_ 1 rfl (c_ 2 rfl (c_ 16 rfl (c_ 17 rfl (c_ 18 rfl (n_)))))), hS, hf, hbx, hO, hW.congr (fun a _ b _ => hp.fld.clC_zero.symm), hC, by omega, by omega⟩
  · skip
    clear hF
    clear hS hf hbx hO hW hC
    rintro q a w1 ⟨j, hF, hS, hf, hbx, hO, hW, hC, hj, hq⟩
    refine W_sr rfl (fun K hK => ?_)
    refine sv hF (v_lss rfl rfl) rfl ?_; clear hF a; intro a hF
    refine WL_nil (hK _ _ ?_)
    clear hK K
    refine W_seq ?_
    refine W_if hF rfl (fun hc1 => ?_) (fun hc1 => ?_)
    · skip
      try simp only [decide_eq_true_eq, decide_eq_false_iff_not, Bool.not_eq_true', Bool.not_eq_false', Bool.not_true, Bool.not_false] at hc1
      have hlt : j < k := by omega
      refine W_skip ?_
      refine W_seq ?_
      refine W_block ?_
      refine W_sr rfl (fun K hK => ?_)
      refine sv hF (v_move rfl) rfl ?_; clear hF a; intro a hF
      refine sv hF (v_ixS sl37 rfl rfl (by omega) (by omega)) rfl ?_; clear hF a; intro a hF
      refine sv hF (v_load sc3 rfl (by rw [toNat_c]; exact (hC.kc (by decide) (zints_at (trow_at (f := f) (i := i) hlt))).c)) rfl ?_; clear hF a; intro a hF
      refine sv hF (v_assign rfl) rfl ?_; clear hF a; intro a hF
      refine sv hF (v_assign rfl) rfl ?_; clear hF a; intro a hF
      refine WL_nil (hK _ _ ?_)
      clear hK K
      replace hF := hF.sub _ (c_ 6 rfl (c_ 5 rfl (c_ 1 rfl (c_ 2 rfl (c_ 16 rfl (c_ 17 rfl (c_ 18 rfl (n_))))))))
      refine W_sr rfl (fun K hK => ?_)
      refine sv hF (v_fieldAddr fa65_1 rfl) rfl ?_; clear hF a; intro a hF
      refine sv hF (v_load sc28 rfl (hbx.at 1 rfl)) rfl ?_; clear hF a; intro a hF
      refine sv hF (v_lenS rfl sl28 rfl) rfl ?_; clear hF a; intro a hF
      refine sv hF (v_move rfl) rfl ?_; clear hF a; intro a hF
      refine WL_nil (hK _ _ ?_)
      clear hK K
      replace hF := hF.sub _ (c_ 26 rfl (c_ 25 rfl (c_ 24 rfl (c_ 6 rfl (c_ 5 rfl (c_ 1 rfl (c_ 2 rfl (c_ 16 rfl (c_ 17 rfl (c_ 18 rfl (n_)))))))))))
      refine W_block ?_
      refine W_loop (fun q2 a w3 => ∃ (x : Nat), Fr 49 [(1, .int .i64 (i : Int)), (2, .pointer (some ⟨gr, 0, none⟩)), (5, .int .i64 (j : Int)), (6, .int .i64 ((f i j : Nat) : Int)), (16, .slice (some ⟨gc, 0, none⟩) k cc), (17, .int .i64 (k : Int)), (18, .int .i64 (j : Int)), (24, .slice (some ⟨g, 0, none⟩) n cap), (25, .int .i64 (n : Int)), (26, .int .i64 (x : Int))] a ∧ (StZ FDx B (fun x => N ≤ x ∧ x < KM) w w3) ∧ (Fo FDx B w3 fv (some (wb, p))) ∧ (Blk w3 gr 65 [fv, .slice (some ⟨g, 0, none⟩) n cap]) ∧ (Gam.Own FDx B N w3 37 (.slice (some ⟨g, 0, none⟩) n cap) (some g) (vls n k bs rc)) ∧ (Wr FDx B N KM w3 n k bs rc (hp.fld.clC i (j) (x) f)) ∧ (Gam.Own FDx B w.heap.size w3 FDx.E (.slice (some ⟨gc, 0, none⟩) k cc) (some gc) (zints (trow k f i))) ∧ (x ≤ n) ∧ (q2 + x = n)) (n) ?_ ?_
      · skip
        exact ⟨0, hF.sub _ (c_ 1 rfl (c_ 2 rfl (c_ 5 rfl (c_ 6 rfl (c_ 16 rfl (c_ 17 rfl (c_ 18 rfl (c_ 24 rfl (c_ 25 rfl (c_ 26 rfl (n_))))))))))), hS, hf, hbx, hO, hW, hC, by omega, by omega⟩
      · skip
        clear hF
        clear hS hf hbx hO hW hC
        rintro q2 a w3 ⟨x, hF, hS, hf, hbx, hO, hW, hC, hxn, hq2⟩
        refine W_sr rfl (fun K hK => ?_)
        refine sv hF (v_lss rfl rfl) rfl ?_; clear hF a; intro a hF
        refine WL_nil (hK _ _ ?_)
        clear hK K
        refine W_seq ?_
        refine W_if hF rfl (fun hc2 => ?_) (fun hc2 => ?_)
        · skip
          try simp only [decide_eq_true_eq, decide_eq_false_iff_not, Bool.not_eq_true', Bool.not_eq_false', Bool.not_true, Bool.not_false] at hc2
          have hx : x < n := by omega
          refine W_skip ?_
          refine W_seq ?_
          refine W_block ?_
          refine W_sr rfl (fun K hK => ?_)
          refine sv hF (v_ixS sl28 rfl rfl (by omega) (by omega)) rfl ?_; clear hF a; intro a hF
          refine sv hF (v_load sc37 rfl (by rw [toNat_c]; exact (hO.kc (by decide) (vls_at hx)).c)) rfl ?_; clear hF a; intro a hF
          refine sv hF (v_assign rfl) rfl ?_; clear hF a; intro a hF
          refine WL_nil (hK _ _ ?_)
          clear hK K
          replace hF := hF.sub _ (c_ 8 rfl (c_ 1 rfl (c_ 2 rfl (c_ 5 rfl (c_ 6 rfl (c_ 16 rfl (c_ 17 rfl (c_ 18 rfl (c_ 24 rfl (c_ 25 rfl (c_ 26 rfl (n_))))))))))))
          refine W_sr rfl (fun K hK => ?_)
          refine sv hF (v_move rfl) rfl ?_; clear hF a; intro a hF
          refine sv hF (v_move rfl) rfl ?_; clear hF a; intro a hF
          refine sv hF (v_neq rfl rfl) rfl ?_; clear hF a; intro a hF
          refine WL_nil (hK _ _ ?_)
          clear hK K
          replace hF := hF.sub _ (c_ 32 rfl (c_ 8 rfl (c_ 1 rfl (c_ 2 rfl (c_ 5 rfl (c_ 6 rfl (c_ 16 rfl (c_ 17 rfl (c_ 18 rfl (c_ 24 rfl (c_ 25 rfl (c_ 26 rfl (n_)))))))))))))
          refine W_if hF rfl (fun hc3 => ?_) (fun hc3 => ?_)
          · skip
            try simp only [decide_eq_true_eq, decide_eq_false_iff_not, Bool.not_eq_true', Bool.not_eq_false', Bool.not_true, Bool.not_false] at hc3
            have hji : j ≠ i := by omega
            have hb1 := hfb x i
            have hb2 := hfb i j
            have hb3 := hp.fld.clC_bd (i := i) (j := j) (x := x) hfb x j
            have hb5 := hp.fld.lt (f x i) (f i j)
            rw [hfw] at hb1 hb2 hb3 hb5
            refine W_dS (fun (w2 : World) => w2.cell? ⟨gr, 0, none⟩ = some fv ∧ w2.cell? ⟨bs x, 0 + i, none⟩ = some (.int .i64 ((f x i : Nat) : Int))) (m := 15) rfl hmix (fun K hK => ?_)
            have hS' := St.drew hS.inv
            replace hf := hf.st hS'
            replace hO := hO.st (by decide) hS'
            replace hW := hW.st hS'
            replace hbx := hbx.st (by decide) hS'
            replace hC := hC.st (by decide) hS'
            replace hS := hS.trans hS'
            clear hS'
            have hSS : (fun (w2 : World) => w2.cell? ⟨gr, 0, none⟩ = some fv ∧ w2.cell? ⟨bs x, 0 + i, none⟩ = some (.int .i64 ((f x i : Nat) : Int))) _ := And.intro (hbx.at 0 rfl) (by have h := (hW.rd hx hi).c; rw [Fld.clC_self] at h; exact h)
            refine b_v (i := 0) rfl (by kernel_rfl) hF (fun w2 hx => v_move rfl) rfl hSS ?_; clear hF a; intro a hF
            refine b_v (i := 1) rfl (by kernel_rfl) hF (fun w2 hx => v_move rfl) rfl hSS ?_; clear hF a; intro a hF
            refine b_v (i := 2) rfl (by kernel_rfl) hF (fun w2 hx => v_ixS sl37 rfl rfl (by omega) (by omega)) rfl hSS ?_; clear hF a; intro a hF
            refine b_v (i := 4) rfl (by kernel_rfl) hF (fun w2 hx => v_fieldAddr fa65_0 rfl) rfl hSS ?_; clear hF a; intro a hF
            refine b_v (i := 5) rfl (by kernel_rfl) hF (fun w2 hx => v_load sc23 rfl hx.1) rfl hSS ?_; clear hF a; intro a hF
            refine b_v (i := 6) rfl (by kernel_rfl) hF (fun w2 hx => v_move rfl) rfl hSS ?_; clear hF a; intro a hF
            refine b_v (i := 7) rfl (by kernel_rfl) hF (fun w2 hx => v_move rfl) rfl hSS ?_; clear hF a; intro a hF
            refine b_v (i := 8) rfl (by kernel_rfl) hF (fun w2 hx => v_ixS sl37 rfl rfl (by omega) (by omega)) rfl hSS ?_; clear hF a; intro a hF
            refine b_v (i := 9) rfl (by kernel_rfl) hF (fun w2 hx => v_load sc3 rfl (by rw [toNat_c]; exact hx.2)) rfl hSS ?_; clear hF a; intro a hF
            refine b_v (i := 10) rfl (by kernel_rfl) hF (fun w2 hx => v_move rfl) rfl hSS ?_; clear hF a; intro a hF
            refine b_e2 (i := 3) (i' := 11) (by kernel_rfl) rfl rfl ?_ ?_
            · skip
              refine sv hF (v_load sc3 rfl (by rw [toNat_c]; exact (hW.rd hx hlt).c)) rfl ?_; clear hF a; intro a hF
              refine WL_nil ⟨hSS, ?_⟩
              refine b_e (i := 11) (by kernel_rfl) rfl ?_
              refine sc hF rfl rfl rfl en29 rfl (Mul_gf B (some (wb, p)) fv ((f x i : Nat) : Int) ((f i j : Nat) : Int) _ hS.inv hf) ?_; clear hF a; intro v w' a hv hF
              obtain ⟨rfl, hS'⟩ := hv
              replace hf := hf.st hS'
              replace hO := hO.st (by decide) hS'
              replace hW := hW.st hS'
              replace hbx := hbx.st (by decide) hS'
              replace hC := hC.st (by decide) hS'
              replace hS := hS.trans hS'
              clear hS'
              rw [gmul_num hp hb1 hb2] at hF
              clear hSS
              have hSS : (fun (w2 : World) => w2.cell? ⟨gr, 0, none⟩ = some fv ∧ w2.cell? ⟨bs x, 0 + i, none⟩ = some (.int .i64 ((f x i : Nat) : Int))) _ := And.intro (hbx.at 0 rfl) (by have h := (hW.rd hx hi).c; rw [Fld.clC_self] at h; exact h)
              refine WL_nil ⟨hSS, ?_⟩
              refine b_v (i := 12) rfl (by kernel_rfl) hF (fun w2 hx => v_xorN rfl rfl (fits_i64 (by omega)) (fits_i64 (by omega))) rfl hSS ?_; clear hF a; intro a hF
              refine b_v (i := 13) rfl (by kernel_rfl) hF (fun w2 hx => v_ixS sl37 rfl rfl (by omega) (by omega)) rfl hSS ?_; clear hF a; intro a hF
              refine b_e (i := 14) (by kernel_rfl) rfl ?_
              have hR0 := hW.row _ hx
              have hge := hW.ge hx
              refine s_set (D := FDx) (B := B) hF on3 rfl (by rw [toNat_c, zints_length, trow_length]; omega) rfl rfl hR0 (by decide) hS.inv ?_; intro w' hm hI' ho'
              replace hf := hf.mb hm
              replace hO := hO.mb hm (hO.ne_type hR0 (by decide))
              replace hW := hW.set (g := hp.fld.clC i (j) (x + 1) f) hx hm (ho'.cast (by rw [toNat_c, Nat.zero_add, zints_set, trow_set (g := hp.fld.clC i (j) (x + 1) f)]; intro l hl; exact (by have e := hp.fld.clC_at (x := x) (l := l) (f := f) hji; rw [hp.fld.clC_self] at e; exact e))) (fun a ha hai l hl => (hp.fld.clC_ne hai))
              replace hbx := hbx.mb hm (hW.ne hx hKgr)
              replace hC := hC.mb hm (fun k e e2 => hW.ne hx hKgc (e2.trans e.symm))
              replace hS := hS.mb hm (fun k e => ⟨by cases e; exact ⟨hge.1, hW.lt _ hx⟩, hR0.isrow k e⟩)
              replace hR0 := ho'
              clear hm hI' ho'
              clear hR0 hge
              clear hSS
              have hSS : (fun (w2 : World) => w2.cell? ⟨gr, 0, none⟩ = some fv ∧ w2.cell? ⟨bs x, 0 + i, none⟩ = some (.int .i64 ((f x i : Nat) : Int))) _ := And.intro (hbx.at 0 rfl) (by have h := (hW.rd hx hi).c; rw [Fld.clC_self] at h; exact h)
              refine WL_nil ⟨hSS, ?_⟩
              refine b_done (by kernel_rfl) (hK _ _ ?_)
              clear hK K
              replace hF := hF.sub _ (c_ 1 rfl (c_ 2 rfl (c_ 5 rfl (c_ 6 rfl (c_ 16 rfl (c_ 17 rfl (c_ 18 rfl (c_ 24 rfl (c_ 25 rfl (c_ 26 rfl (n_)))))))))))
              refine W_reg rfl (fun K hK => ?_)
              refine sv hF (v_addI rfl rfl (by omega)) rfl ?_; clear hF a; intro a hF
              refine sv hF (v_move rfl) rfl ?_; clear hF a; intro a hF
              refine WL_nil (hK _ _ ?_)
              clear hK K
              exact ⟨q2 - 1, by omega, x + 1, hF.sub _ (c_ 1 rfl (c_ 2 rfl (c_ 5 rfl (c_ 6 rfl (c_ 16 rfl (c_ 17 rfl (c_ 18 rfl (c_ 24 rfl (c_ 25 rfl (c_ 26 rfl (n_))))))))))), hS, hf, hbx, hO, hW, hC, by omega, by omega⟩
            · skip
              refine sc hF rfl rfl rfl en29 rfl (Mul_gf B (some (wb, p)) fv ((f x i : Nat) : Int) ((f i j : Nat) : Int) _ hS.inv hf) ?_; clear hF a; intro v w' a hv hF
              obtain ⟨rfl, hS'⟩ := hv
              replace hf := hf.st hS'
              replace hO := hO.st (by decide) hS'
              replace hW := hW.st hS'
              replace hbx := hbx.st (by decide) hS'
              replace hC := hC.st (by decide) hS'
              replace hS := hS.trans hS'
              clear hS'
              rw [gmul_num hp hb1 hb2] at hF
              clear hSS
              have hSS : (fun (w2 : World) => w2.cell? ⟨gr, 0, none⟩ = some fv ∧ w2.cell? ⟨bs x, 0 + i, none⟩ = some (.int .i64 ((f x i : Nat) : Int))) _ := And.intro (hbx.at 0 rfl) (by have h := (hW.rd hx hi).c; rw [Fld.clC_self] at h; exact h)
              refine WL_nil ⟨hSS, ?_⟩
              refine b_e (i := 3) (by kernel_rfl) rfl ?_
              refine sv hF (v_load sc3 rfl (by rw [toNat_c]; exact (hW.rd hx hlt).c)) rfl ?_; clear hF a; intro a hF
              refine WL_nil ⟨hSS, ?_⟩
              refine b_v (i := 12) rfl (by kernel_rfl) hF (fun w2 hx => v_xorN rfl rfl (fits_i64 (by omega)) (fits_i64 (by omega))) rfl hSS ?_; clear hF a; intro a hF
              refine b_v (i := 13) rfl (by kernel_rfl) hF (fun w2 hx => v_ixS sl37 rfl rfl (by omega) (by omega)) rfl hSS ?_; clear hF a; intro a hF
              refine b_e (i := 14) (by kernel_rfl) rfl ?_
              have hR0 := hW.row _ hx
              have hge := hW.ge hx
              refine s_set (D := FDx) (B := B) hF on3 rfl (by rw [toNat_c, zints_length, trow_length]; omega) rfl rfl hR0 (by decide) hS.inv ?_; intro w' hm hI' ho'
              replace hf := hf.mb hm
              replace hO := hO.mb hm (hO.ne_type hR0 (by decide))
              replace hW := hW.set (g := hp.fld.clC i (j) (x + 1) f) hx hm (ho'.cast (by rw [toNat_c, Nat.zero_add, zints_set, trow_set (g := hp.fld.clC i (j) (x + 1) f)]; intro l hl; exact (by have e := hp.fld.clC_at (x := x) (l := l) (f := f) hji; rw [hp.fld.clC_self] at e; exact e))) (fun a ha hai l hl => (hp.fld.clC_ne hai))
              replace hbx := hbx.mb hm (hW.ne hx hKgr)
              replace hC := hC.mb hm (fun k e e2 => hW.ne hx hKgc (e2.trans e.symm))
              replace hS := hS.mb hm (fun k e => ⟨by cases e; exact ⟨hge.1, hW.lt _ hx⟩, hR0.isrow k e⟩)
              replace hR0 := ho'
              clear hm hI' ho'
              clear hR0 hge
              clear hSS
              have hSS : (fun (w2 : World) => w2.cell? ⟨gr, 0, none⟩ = some fv ∧ w2.cell? ⟨bs x, 0 + i, none⟩ = some (.int .i64 ((f x i : Nat) : Int))) _ := And.intro (hbx.at 0 rfl) (by have h := (hW.rd hx hi).c; rw [Fld.clC_self] at h; exact h)
              refine WL_nil ⟨hSS, ?_⟩
              refine b_done (by kernel_rfl) (hK _ _ ?_)
              clear hK K
              replace hF := hF.sub _ (c_ 1 rfl (c_ 2 rfl (c_ 5 rfl (c_ 6 rfl (c_ 16 rfl (c_ 17 rfl (c_ 18 rfl (c_ 24 rfl (c_ 25 rfl (c_ 26 rfl (n_)))))))))))
              refine W_reg rfl (fun K hK => ?_)
              refine sv hF (v_addI rfl rfl (by omega)) rfl ?_; clear hF a; intro a hF
              refine sv hF (v_move rfl) rfl ?_; clear hF a; intro a hF
              refine WL_nil (hK _ _ ?_)
              clear hK K
              exact ⟨q2 - 1, by omega, x + 1, hF.sub _ (c_ 1 rfl (c_ 2 rfl (c_ 5 rfl (c_ 6 rfl (c_ 16 rfl (c_ 17 rfl (c_ 18 rfl (c_ 24 rfl (c_ 25 rfl (c_ 26 rfl (n_))))))))))), hS, hf, hbx, hO, hW, hC, by omega, by omega⟩
          · skip
            try simp only [decide_eq_true_eq, decide_eq_false_iff_not, Bool.not_eq_true', Bool.not_eq_false', Bool.not_true, Bool.not_false] at hc3
            have hji : i = j := by omega
            replace hW := hW.congr (g := hp.fld.clC i (j) (x + 1) f) (fun a _ b _ => by subst hji; exact hp.fld.clC_skip.symm)
            refine W_skip ?_
            refine W_reg rfl (fun K hK => ?_)
            refine sv hF (v_addI rfl rfl (by omega)) rfl ?_; clear hF a; intro a hF
            refine sv hF (v_move rfl) rfl ?_; clear hF a; intro a hF
            refine WL_nil (hK _ _ ?_)
            clear hK K
            replace hF := hF.sub _ (c_ 26 rfl (c_ 47 rfl (c_ 1 rfl (c_ 2 rfl (c_ 5 rfl (c_ 6 rfl (c_ 16 rfl (c_ 17 rfl (c_ 18 rfl (c_ 24 rfl (c_ 25 rfl (n_))))))))))))
            exact ⟨q2 - 1, by omega, x + 1, hF.sub _ (c_ 1 rfl (c_ 2 rfl (c_ 5 rfl (c_ 6 rfl (c_ 16 rfl (c_ 17 rfl (c_ 18 rfl (c_ 24 rfl (c_ 25 rfl (c_ 26 rfl (n_))))))))))), hS, hf, hbx, hO, hW, hC, by omega, by omega⟩
        · skip
          try simp only [decide_eq_true_eq, decide_eq_false_iff_not, Bool.not_eq_true', Bool.not_eq_false', Bool.not_true, Bool.not_false] at hc2
          have hxe : x = n := by omega
          rw [hxe] at hW
          replace hW := hW.congr (fun a ha b _ => hp.fld.clC_next ha)
          refine W_exit rfl ?_
          refine W_reg rfl (fun K hK => ?_)
          refine sv hF (v_addI rfl rfl (by omega)) rfl ?_; clear hF a; intro a hF
          refine sv hF (v_move rfl) rfl ?_; clear hF a; intro a hF
          refine WL_nil (hK _ _ ?_)
          clear hK K
          replace hF := hF.sub _ (c_ 18 rfl (c_ 48 rfl (c_ 1 rfl (c_ 2 rfl (c_ 5 rfl (c_ 6 rfl (c_ 16 rfl (c_ 17 rfl (c_ 24 rfl (c_ 25 rfl (c_ 26 rfl (n_))))))))))))
          exact ⟨q - 1, by omega, j + 1, hF.sub _ (c_ 1 rfl (c_ 2 rfl (c_ 16 rfl (c_ 17 rfl (c_ 18 rfl (n_)))))), hS, hf, hbx, hO, hW, hC, by omega, by omega⟩
    · skip
      try simp only [decide_eq_true_eq, decide_eq_false_iff_not, Bool.not_eq_true', Bool.not_eq_false', Bool.not_true, Bool.not_false] at hc1
      refine W_exit rfl ?_
      refine ⟨_, hF, ?_⟩
      obtain rfl : j = k := by omega
      exact ⟨rfl, hO, hW, hS⟩

end Go.Proofs.Ytaeljbdpjiciaaa
