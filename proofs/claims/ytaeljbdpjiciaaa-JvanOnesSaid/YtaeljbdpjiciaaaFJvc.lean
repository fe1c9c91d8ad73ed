/- The walk of package jvan: one step. -/
import Derived.Test.YtaeljbdpjiciaaaFJvb
set_option linter.unusedVariables false
set_option linter.unusedSimpArgs false
namespace Go.Proofs.Ytaeljbdpjiciaaa
open Go Go.Gam


namespace FxFJvc
theorem en46 : Ent Try.prog 46 := ent Try.func46 (by kernel_rfl) (by kernel_rfl)
theorem en47 : Ent Try.prog 47 := ent Try.func47 (by kernel_rfl) (by kernel_rfl)
theorem en79 : Ent Try.prog 79 := ent Try.func79 (by kernel_rfl) (by kernel_rfl)
theorem fa65_0 : FieldFact Try.prog 65 0 0 := ff_of (sz := 0) Try.underlying65 (by kernel_rfl)
theorem fa65_1 : FieldFact Try.prog 65 1 1 := ff_of (sz := 0) Try.underlying65 (by kernel_rfl)
theorem hmix : Try.prog.follows .mixedOrders = true := by kernel_rfl
theorem on3 : Gam.One Try.prog 3 := by unfold Gam.One; kernel_rfl
theorem rc65 : Rec2 Try.prog 65 (.pointer none) (.slice none 0 0) := rec2_of Try.underlying65 (by kernel_rfl) (by kernel_rfl) (by kernel_rfl)
theorem sc23 : Scalar Try.prog 23 := ⟨_, Try.underlying23, by simp, by simp⟩
theorem sc28 : Scalar Try.prog 28 := ⟨_, Try.underlying28, by simp, by simp⟩
theorem sc3 : Scalar Try.prog 3 := ⟨_, Try.underlying3, by simp, by simp⟩
theorem sc37 : Scalar Try.prog 37 := ⟨_, Try.underlying37, by simp, by simp⟩
theorem sl27 : Sl Try.prog 27 37 (.slice none 0 0) 24 := sl_of Try.underlying27 rfl (by kernel_rfl)
theorem sl28 : Sl Try.prog 28 37 (.slice none 0 0) 24 := sl_of Try.underlying28 rfl (by kernel_rfl)
theorem sl37 : Sl Try.prog 37 3 (.int .i64 0) 8 := sl_of Try.underlying37 rfl (by kernel_rfl)
end FxFJvc
open FxFJvc

set_option maxRecDepth 100000 in
set_option maxHeartbeats 1000000 in
theorem step_ok (B N KM wb p : Nat) (hp : Prm wb p) (fv : Value) (g cap n k : Nat) (bs rc : Nat → Nat) (f : Tb) (i q : Nat) (w : World) (hI : Inv FDx B w) (hf : Fo FDx B w fv (some (wb, p))) (hO : Gam.Own FDx B N w 37 (.slice (some ⟨g, 0, none⟩) n cap) (some g) (vls n k bs rc)) (hW : Wr FDx B N KM w n k bs rc (f)) (hKM : KM ≤ w.heap.size) (hNM : N ≤ KM) (hfb : hp.fld.Bd f) (hnk : n ≤ 20 ∧ k ≤ 20) (hi : i < k) (hin : i < n) (hq : Fld.piv (Fld.tr f) k i i (k - i) = some q) : Ret Try.prog 45 [.agg #[fv, .slice (some ⟨g, 0, none⟩) n cap], .int .i64 (i : Int)] w fun v w' => v = .tuple #[] ∧ Gam.Own FDx B N w' 37 (.slice (some ⟨g, 0, none⟩) n cap) (some g) (vls n k bs rc) ∧ Wr FDx B N KM w' n k bs rc (hp.fld.stC n k i f) ∧ StZ FDx B (fun x => N ≤ x ∧ x < KM) w w' := by
  refine enter0 72 [(0, .agg #[fv, .slice (some ⟨g, 0, none⟩) n cap]), (1, .int .i64 (i : Int))]  Try.func45 rfl rfl rfl rfl rfl ?_; intro a hF
  have hS := StZ.refl (Z := (fun x => N ≤ x ∧ x < KM)) hI
  have hfw := hp.fld_w
  have h16 : 2 ^ wb ≤ 65536 := by rcases hp.w with h | h <;> rw [h] <;> decide
  obtain ⟨hiq, hqk0, hfq0, hmin⟩ := Fld.piv_some hq
  have hqk : q < k := by omega
  have hfq : f i q ≠ 0 := hfq0
  have hfqb := hfb i q
  have hsb := hp.fld.inv_lt (f i q)
  rw [hfw] at hfqb hsb
  refine W_sr rfl (fun K hK => ?_)
  obtain ⟨gr, hgr⟩ : ∃ x, x = w.heap.size := ⟨_, rfl⟩
  have hKgr : KM ≤ gr := by omega
  refine s_box (D := FDx) (B := B) hF rfl (by decide) hS.inv rfl ?_; clear hF a; intro w' a hm hbx hsz hF
  replace hf := hf.mb hm
  replace hO := hO.mb hm (fun _ _ => by simp)
  replace hW := hW.mb0 hm
  replace hS := hS.mb0 hm
  clear hm
  rw [← hgr] at hbx hF
  refine WL_nil (hK _ _ ?_)
  clear hK K
  replace hF := hF.sub _ (c_ 2 rfl (c_ 1 rfl (n_)))
  refine W_seq ?_
  refine W_sr rfl (fun K hK => ?_)
  refine sv hF (v_fieldAddr fa65_1 rfl) rfl ?_; clear hF a; intro a hF
  refine sv hF (v_load sc28 rfl (hbx.at 1 rfl)) rfl ?_; clear hF a; intro a hF
  refine sv hF (v_move rfl) rfl ?_; clear hF a; intro a hF
  refine sv hF (v_ixS sl28 rfl rfl (by omega) (by omega)) rfl ?_; clear hF a; intro a hF
  have hkr := hO.kc (by decide) (vls_at hin)
  refine sv hF (v_load sc37 rfl (by rw [toNat_c]; exact hkr.c)) rfl ?_; clear hF a; intro a hF
  clear hkr
  refine sv hF (v_lenS rfl sl37 rfl) rfl ?_; clear hF a; intro a hF
  refine sv hF (v_move rfl) rfl ?_; clear hF a; intro a hF
  refine WL_nil (hK _ _ ?_)
  clear hK K
  replace hF := hF.sub _ (c_ 16 rfl (c_ 15 rfl (c_ 14 rfl (c_ 2 rfl (c_ 1 rfl (n_))))))
  refine W_block ?_
  refine W_loop (fun d a w1 => ∃ (j : Nat), Fr 72 [(1, .int .i64 (i : Int)), (2, .pointer (some ⟨gr, 0, none⟩)), (14, .slice (some ⟨bs i, 0, none⟩) k (rc i)), (15, .int .i64 (k : Int)), (16, .int .i64 (j : Int))] a ∧ (StZ FDx B (fun x => N ≤ x ∧ x < KM) w w1) ∧ (Fo FDx B w1 fv (some (wb, p))) ∧ (Blk w1 gr 65 [fv, .slice (some ⟨g, 0, none⟩) n cap]) ∧ (Gam.Own FDx B N w1 37 (.slice (some ⟨g, 0, none⟩) n cap) (some g) (vls n k bs rc)) ∧ (Wr FDx B N KM w1 n k bs rc (f)) ∧ (j ≤ q) ∧ (d + j = k)) (k) ?_ ?_
  · skip
    exact ⟨0, hF.sub _ (c_ 1 rfl (c_ 2 rfl (c_ 14 rfl (c_ 15 rfl (c_ 16 rfl (n_)))))), hS, hf, hbx, hO, hW, by omega, by omega⟩
  · skip
    clear hF
    clear hS hf hbx hO hW
    rintro d a w1 ⟨j, hF, hS, hf, hbx, hO, hW, hj, hd⟩
    refine W_sr rfl (fun K hK => ?_)
    refine sv hF ((v_lss rfl rfl).as (congrArg Value.bool (decide_eq_true (by omega)))) rfl ?_; clear hF a; intro a hF
    refine WL_nil (hK _ _ ?_)
    clear hK K
    refine W_seq ?_
    refine W_ifT hF rfl ?_
    refine W_skip ?_
    refine W_seq ?_
    refine W_block ?_
    have hjk : j < k := by omega
    refine W_sr rfl (fun K hK => ?_)
    refine sv hF (v_move rfl) rfl ?_; clear hF a; intro a hF
    refine sv hF (v_ixS sl37 rfl rfl (by omega) (by omega)) rfl ?_; clear hF a; intro a hF
    refine sv hF (v_load sc3 rfl (by rw [toNat_c]; exact (hW.rd hin hjk).c)) rfl ?_; clear hF a; intro a hF
    refine sv hF (v_assign rfl) rfl ?_; clear hF a; intro a hF
    refine sv hF (v_assign rfl) rfl ?_; clear hF a; intro a hF
    refine WL_nil (hK _ _ ?_)
    clear hK K
    replace hF := hF.sub _ (c_ 5 rfl (c_ 4 rfl (c_ 1 rfl (c_ 2 rfl (c_ 14 rfl (c_ 15 rfl (c_ 16 rfl (n_))))))))
    refine W_seq ?_
    refine W_sr rfl (fun K hK => ?_)
    refine sv hF (v_move rfl) rfl ?_; clear hF a; intro a hF
    refine sv hF (v_move rfl) rfl ?_; clear hF a; intro a hF
    refine sb hF (v_lss rfl rfl) rfl ?_ ?_
    · clear hF a; intro hc1 a hF
      try simp only [decide_eq_true_eq, decide_eq_false_iff_not, Bool.not_eq_true', Bool.not_eq_false', Bool.not_true, Bool.not_false] at hc1
      refine sv hF (v_move rfl) rfl ?_; clear hF a; intro a hF
      refine svn hF rfl rfl rfl ?_; clear hF a; intro a hF
      refine svn hF rfl rfl rfl ?_; clear hF a; intro a hF
      refine sv hF (v_pickT rfl rfl) rfl ?_; clear hF a; intro a hF
      refine WL_nil (hK _ _ ?_)
      clear hK K
      replace hF := hF.sub _ (c_ 27 rfl (c_ 4 rfl (c_ 1 rfl (c_ 2 rfl (c_ 14 rfl (c_ 15 rfl (c_ 16 rfl (n_))))))))
      refine W_ifT hF rfl ?_
      refine W_exit rfl ?_
      refine W_reg rfl (fun K hK => ?_)
      refine sv hF (v_addI rfl rfl (by omega)) rfl ?_; clear hF a; intro a hF
      refine sv hF (v_move rfl) rfl ?_; clear hF a; intro a hF
      refine WL_nil (hK _ _ ?_)
      clear hK K
      replace hF := hF.sub _ (c_ 16 rfl (c_ 50 rfl (c_ 1 rfl (c_ 2 rfl (c_ 14 rfl (c_ 15 rfl (n_)))))))
      exact ⟨d - 1, by omega, j + 1, hF.sub _ (c_ 1 rfl (c_ 2 rfl (c_ 14 rfl (c_ 15 rfl (c_ 16 rfl (n_)))))), hS, hf, hbx, hO, hW, by omega, by omega⟩
    · clear hF a; intro hc1 a hF
      try simp only [decide_eq_true_eq, decide_eq_false_iff_not, Bool.not_eq_true', Bool.not_eq_false', Bool.not_true, Bool.not_false] at hc1
      refine sv hF (v_move rfl) rfl ?_; clear hF a; intro a hF
      refine svg hF rfl ?_
      refine sv hF (v_move rfl) rfl ?_; clear hF a; intro a hF
      refine svg hF rfl ?_
      refine sv hF (v_eql rfl rfl) rfl ?_; clear hF a; intro a hF
      refine sv hF (v_pickF rfl rfl) rfl ?_; clear hF a; intro a hF
      refine WL_nil (hK _ _ ?_)
      clear hK K
      replace hF := hF.sub _ (c_ 27 rfl (c_ 4 rfl (c_ 1 rfl (c_ 2 rfl (c_ 14 rfl (c_ 15 rfl (c_ 16 rfl (n_))))))))
      refine W_if hF rfl (fun hc2 => ?_) (fun hc2 => ?_)
      · skip
        try simp only [decide_eq_true_eq, decide_eq_false_iff_not, Bool.not_eq_true', Bool.not_eq_false', Bool.not_true, Bool.not_false] at hc2
        have hjq : j ≠ q := by rintro rfl; omega
        refine W_exit rfl ?_
        refine W_reg rfl (fun K hK => ?_)
        refine sv hF (v_addI rfl rfl (by omega)) rfl ?_; clear hF a; intro a hF
        refine sv hF (v_move rfl) rfl ?_; clear hF a; intro a hF
        refine WL_nil (hK _ _ ?_)
        clear hK K
        replace hF := hF.sub _ (c_ 16 rfl (c_ 50 rfl (c_ 1 rfl (c_ 2 rfl (c_ 14 rfl (c_ 15 rfl (n_)))))))
        exact ⟨d - 1, by omega, j + 1, hF.sub _ (c_ 1 rfl (c_ 2 rfl (c_ 14 rfl (c_ 15 rfl (c_ 16 rfl (n_)))))), hS, hf, hbx, hO, hW, by omega, by omega⟩
      · skip
        try simp only [decide_eq_true_eq, decide_eq_false_iff_not, Bool.not_eq_true', Bool.not_eq_false', Bool.not_true, Bool.not_false] at hc2
        obtain rfl : q = j := by
          by_cases e : j < q
          · exact absurd (hmin j (by omega) e) (by show f i j ≠ 0; omega)
          · omega
        refine W_skip ?_
        refine W_seq ?_
        refine W_sr rfl (fun K hK => ?_)
        refine sv hF (v_fieldAddr fa65_1 rfl) rfl ?_; clear hF a; intro a hF
        refine sv hF (v_load sc28 rfl (hbx.at 1 rfl)) rfl ?_; clear hF a; intro a hF
        refine sv hF (v_lenS rfl sl28 rfl) rfl ?_; clear hF a; intro a hF
        refine sv hF (v_move rfl) rfl ?_; clear hF a; intro a hF
        refine WL_nil (hK _ _ ?_)
        clear hK K
        replace hF := hF.sub _ (c_ 31 rfl (c_ 30 rfl (c_ 29 rfl (c_ 4 rfl (c_ 1 rfl (c_ 2 rfl (c_ 14 rfl (c_ 15 rfl (c_ 16 rfl (n_))))))))))
        refine W_block ?_
        refine W_loop (fun d2 a w3 => ∃ (x : Nat), Fr 72 [(1, .int .i64 (i : Int)), (2, .pointer (some ⟨gr, 0, none⟩)), (4, .int .i64 (q : Int)), (29, .slice (some ⟨g, 0, none⟩) n cap), (30, .int .i64 (n : Int)), (31, .int .i64 (x : Int))] a ∧ (StZ FDx B (fun x => N ≤ x ∧ x < KM) w w3) ∧ (Fo FDx B w3 fv (some (wb, p))) ∧ (Blk w3 gr 65 [fv, .slice (some ⟨g, 0, none⟩) n cap]) ∧ (Gam.Own FDx B N w3 37 (.slice (some ⟨g, 0, none⟩) n cap) (some g) (vls n k bs rc)) ∧ (Wr FDx B N KM w3 n k bs rc (colS i q (x) f)) ∧ (x ≤ n) ∧ (d2 + x = n)) (n) ?_ ?_
        · skip
          exact ⟨0, hF.sub _ (c_ 1 rfl (c_ 2 rfl (c_ 4 rfl (c_ 29 rfl (c_ 30 rfl (c_ 31 rfl (n_))))))), hS, hf, hbx, hO, hW.congr (fun a _ b _ => colS_zero.symm), by omega, by omega⟩
        · skip
          clear hF
          clear hS hf hbx hO hW
          rintro d2 a w3 ⟨x, hF, hS, hf, hbx, hO, hW, hxn, hd2⟩
          refine W_sr rfl (fun K hK => ?_)
          refine sv hF (v_lss rfl rfl) rfl ?_; clear hF a; intro a hF
          refine WL_nil (hK _ _ ?_)
          clear hK K
          refine W_seq ?_
          refine W_if hF rfl (fun hc3 => ?_) (fun hc3 => ?_)
          · skip
            try simp only [decide_eq_true_eq, decide_eq_false_iff_not, Bool.not_eq_true', Bool.not_eq_false', Bool.not_true, Bool.not_false] at hc3
            have hx : x < n := by omega
            refine W_skip ?_
            refine W_seq ?_
            refine W_block ?_
            refine W_sr rfl (fun K hK => ?_)
            refine sv hF (v_ixS sl28 rfl rfl (by omega) (by omega)) rfl ?_; clear hF a; intro a hF
            refine sv hF (v_load sc37 rfl (by rw [toNat_c]; exact (hO.kc (by decide) (vls_at hx)).c)) rfl ?_; clear hF a; intro a hF
            refine sv hF (v_assign rfl) rfl ?_; clear hF a; intro a hF
            refine WL_nil (hK _ _ ?_)
            clear hK K
            replace hF := hF.sub _ (c_ 7 rfl (c_ 1 rfl (c_ 2 rfl (c_ 4 rfl (c_ 29 rfl (c_ 30 rfl (c_ 31 rfl (n_))))))))
            refine W_dS (fun (w2 : World) => w2.cell? ⟨gr, 0, none⟩ = some fv) (m := 16) rfl hmix (fun K hK => ?_)
            have hS' := St.drew hS.inv
            replace hf := hf.st hS'
            replace hO := hO.st (by decide) hS'
            replace hW := hW.st hS'
            replace hbx := hbx.st (by decide) hS'
            replace hS := hS.trans hS'
            clear hS'
            have hSS : (fun (w2 : World) => w2.cell? ⟨gr, 0, none⟩ = some fv) _ := hbx.at 0 rfl
            refine b_v (i := 0) rfl (by kernel_rfl) hF (fun w2 hx => v_move rfl) rfl hSS ?_; clear hF a; intro a hF
            refine b_v (i := 1) rfl (by kernel_rfl) hF (fun w2 hx => v_move rfl) rfl hSS ?_; clear hF a; intro a hF
            refine b_v (i := 2) rfl (by kernel_rfl) hF (fun w2 hx => v_move rfl) rfl hSS ?_; clear hF a; intro a hF
            refine b_v (i := 3) rfl (by kernel_rfl) hF (fun w2 hx => v_move rfl) rfl hSS ?_; clear hF a; intro a hF
            refine b_v (i := 4) rfl (by kernel_rfl) hF (fun w2 hx => v_move rfl) rfl hSS ?_; clear hF a; intro a hF
            refine b_v (i := 5) rfl (by kernel_rfl) hF (fun w2 hx => v_move rfl) rfl hSS ?_; clear hF a; intro a hF
            refine b_v (i := 6) rfl (by kernel_rfl) hF (fun w2 hx => v_ixS sl37 rfl rfl (by omega) (by omega)) rfl hSS ?_; clear hF a; intro a hF
            refine b_v (i := 8) rfl (by kernel_rfl) hF (fun w2 hx => v_move rfl) rfl hSS ?_; clear hF a; intro a hF
            refine b_v (i := 9) rfl (by kernel_rfl) hF (fun w2 hx => v_move rfl) rfl hSS ?_; clear hF a; intro a hF
            refine b_v (i := 10) rfl (by kernel_rfl) hF (fun w2 hx => v_ixS sl37 rfl rfl (by omega) (by omega)) rfl hSS ?_; clear hF a; intro a hF
            refine b_e2 (i := 7) (i' := 11) (by kernel_rfl) rfl rfl ?_ ?_
            · skip
              refine sv hF (v_load sc3 rfl (by rw [toNat_c]; have h := (hW.rd hx hqk).c; rw [colS_old] at h; exact h)) rfl ?_; clear hF a; intro a hF
              refine WL_nil ⟨hSS, ?_⟩
              refine b_e (i := 11) (by kernel_rfl) rfl ?_
              refine sv hF (v_load sc3 rfl (by rw [toNat_c]; have h := (hW.rd hx hi).c; rw [colS_old] at h; exact h)) rfl ?_; clear hF a; intro a hF
              refine WL_nil ⟨hSS, ?_⟩
              refine b_v (i := 12) rfl (by kernel_rfl) hF (fun w2 hx => v_ixS sl37 rfl rfl (by omega) (by omega)) rfl hSS ?_; clear hF a; intro a hF
              refine b_e (i := 13) (by kernel_rfl) rfl ?_
              have hR0 := hW.row _ hx
              have hge := hW.ge hx
              refine s_set (D := FDx) (B := B) hF on3 rfl (by rw [toNat_c, zints_length, trow_length]; omega) rfl rfl hR0 (by decide) hS.inv ?_; intro w' hm hI' ho'
              replace hf := hf.mb hm
              replace hO := hO.mb hm (hO.ne_type hR0 (by decide))
              replace hW := hW.set (g := colH i q x f) hx hm (ho'.cast (by rw [toNat_c, Nat.zero_add, zints_set, trow_set (g := colH i q x f)]; intro l hl; exact colH_at)) (fun a ha hai l hl => (colH_ne hai))
              replace hbx := hbx.mb hm (hW.ne hx hKgr)
              replace hS := hS.mb hm (fun k e => ⟨by cases e; exact ⟨hge.1, hW.lt _ hx⟩, hR0.isrow k e⟩)
              replace hR0 := ho'
              clear hm hI' ho'
              clear hR0 hge
              clear hSS
              have hSS : (fun (w2 : World) => w2.cell? ⟨gr, 0, none⟩ = some fv) _ := hbx.at 0 rfl
              refine WL_nil ⟨hSS, ?_⟩
              refine b_v (i := 14) rfl (by kernel_rfl) hF (fun w2 hx => v_ixS sl37 rfl rfl (by omega) (by omega)) rfl hSS ?_; clear hF a; intro a hF
              refine b_e (i := 15) (by kernel_rfl) rfl ?_
              have hR0 := hW.row _ hx
              have hge := hW.ge hx
              refine s_set (D := FDx) (B := B) hF on3 rfl (by rw [toNat_c, zints_length, trow_length]; omega) rfl rfl hR0 (by decide) hS.inv ?_; intro w' hm hI' ho'
              replace hf := hf.mb hm
              replace hO := hO.mb hm (hO.ne_type hR0 (by decide))
              replace hW := hW.set (g := colS i q (x + 1) f) hx hm (ho'.cast (by rw [toNat_c, Nat.zero_add, zints_set, trow_set (g := colS i q (x + 1) f)]; intro l hl; exact colS_at)) (fun a ha hai l hl => (colS_ne hai))
              replace hbx := hbx.mb hm (hW.ne hx hKgr)
              replace hS := hS.mb hm (fun k e => ⟨by cases e; exact ⟨hge.1, hW.lt _ hx⟩, hR0.isrow k e⟩)
              replace hR0 := ho'
              clear hm hI' ho'
              clear hR0 hge
              clear hSS
              have hSS : (fun (w2 : World) => w2.cell? ⟨gr, 0, none⟩ = some fv) _ := hbx.at 0 rfl
              refine WL_nil ⟨hSS, ?_⟩
              refine b_done (by kernel_rfl) (hK _ _ ?_)
              clear hK K
              replace hF := hF.sub _ (c_ 1 rfl (c_ 2 rfl (c_ 4 rfl (c_ 29 rfl (c_ 30 rfl (c_ 31 rfl (n_)))))))
              refine W_reg rfl (fun K hK => ?_)
              refine sv hF (v_addI rfl rfl (by omega)) rfl ?_; clear hF a; intro a hF
              refine sv hF (v_move rfl) rfl ?_; clear hF a; intro a hF
              refine WL_nil (hK _ _ ?_)
              clear hK K
              exact ⟨d2 - 1, by omega, x + 1, hF.sub _ (c_ 1 rfl (c_ 2 rfl (c_ 4 rfl (c_ 29 rfl (c_ 30 rfl (c_ 31 rfl (n_))))))), hS, hf, hbx, hO, hW, by omega, by omega⟩
            · skip
              refine sv hF (v_load sc3 rfl (by rw [toNat_c]; have h := (hW.rd hx hi).c; rw [colS_old] at h; exact h)) rfl ?_; clear hF a; intro a hF
              refine WL_nil ⟨hSS, ?_⟩
              refine b_e (i := 7) (by kernel_rfl) rfl ?_
              refine sv hF (v_load sc3 rfl (by rw [toNat_c]; have h := (hW.rd hx hqk).c; rw [colS_old] at h; exact h)) rfl ?_; clear hF a; intro a hF
              refine WL_nil ⟨hSS, ?_⟩
              refine b_v (i := 12) rfl (by kernel_rfl) hF (fun w2 hx => v_ixS sl37 rfl rfl (by omega) (by omega)) rfl hSS ?_; clear hF a; intro a hF
              refine b_e (i := 13) (by kernel_rfl) rfl ?_
              have hR0 := hW.row _ hx
              have hge := hW.ge hx
              refine s_set (D := FDx) (B := B) hF on3 rfl (by rw [toNat_c, zints_length, trow_length]; omega) rfl rfl hR0 (by decide) hS.inv ?_; intro w' hm hI' ho'
              replace hf := hf.mb hm
              replace hO := hO.mb hm (hO.ne_type hR0 (by decide))
              replace hW := hW.set (g := colH i q x f) hx hm (ho'.cast (by rw [toNat_c, Nat.zero_add, zints_set, trow_set (g := colH i q x f)]; intro l hl; exact colH_at)) (fun a ha hai l hl => (colH_ne hai))
              replace hbx := hbx.mb hm (hW.ne hx hKgr)
              replace hS := hS.mb hm (fun k e => ⟨by cases e; exact ⟨hge.1, hW.lt _ hx⟩, hR0.isrow k e⟩)
              replace hR0 := ho'
              clear hm hI' ho'
              clear hR0 hge
              clear hSS
              have hSS : (fun (w2 : World) => w2.cell? ⟨gr, 0, none⟩ = some fv) _ := hbx.at 0 rfl
              refine WL_nil ⟨hSS, ?_⟩
              refine b_v (i := 14) rfl (by kernel_rfl) hF (fun w2 hx => v_ixS sl37 rfl rfl (by omega) (by omega)) rfl hSS ?_; clear hF a; intro a hF
              refine b_e (i := 15) (by kernel_rfl) rfl ?_
              have hR0 := hW.row _ hx
              have hge := hW.ge hx
              refine s_set (D := FDx) (B := B) hF on3 rfl (by rw [toNat_c, zints_length, trow_length]; omega) rfl rfl hR0 (by decide) hS.inv ?_; intro w' hm hI' ho'
              replace hf := hf.mb hm
              replace hO := hO.mb hm (hO.ne_type hR0 (by decide))
              replace hW := hW.set (g := colS i q (x + 1) f) hx hm (ho'.cast (by rw [toNat_c, Nat.zero_add, zints_set, trow_set (g := colS i q (x + 1) f)]; intro l hl; exact colS_at)) (fun a ha hai l hl => (colS_ne hai))
              replace hbx := hbx.mb hm (hW.ne hx hKgr)
              replace hS := hS.mb hm (fun k e => ⟨by cases e; exact ⟨hge.1, hW.lt _ hx⟩, hR0.isrow k e⟩)
              replace hR0 := ho'
              clear hm hI' ho'
              clear hR0 hge
              clear hSS
              have hSS : (fun (w2 : World) => w2.cell? ⟨gr, 0, none⟩ = some fv) _ := hbx.at 0 rfl
              refine WL_nil ⟨hSS, ?_⟩
              refine b_done (by kernel_rfl) (hK _ _ ?_)
              clear hK K
              replace hF := hF.sub _ (c_ 1 rfl (c_ 2 rfl (c_ 4 rfl (c_ 29 rfl (c_ 30 rfl (c_ 31 rfl (n_)))))))
              refine W_reg rfl (fun K hK => ?_)
              refine sv hF (v_addI rfl rfl (by omega)) rfl ?_; clear hF a; intro a hF
              refine sv hF (v_move rfl) rfl ?_; clear hF a; intro a hF
              refine WL_nil (hK _ _ ?_)
              clear hK K
              exact ⟨d2 - 1, by omega, x + 1, hF.sub _ (c_ 1 rfl (c_ 2 rfl (c_ 4 rfl (c_ 29 rfl (c_ 30 rfl (c_ 31 rfl (n_))))))), hS, hf, hbx, hO, hW, by omega, by omega⟩
          · skip
            try simp only [decide_eq_true_eq, decide_eq_false_iff_not, Bool.not_eq_true', Bool.not_eq_false', Bool.not_true, Bool.not_false] at hc3
            have hxe : x = n := by omega
            rw [hxe] at hW
            clear hxe
            refine W_exit rfl ?_
            refine W_exit rfl ?_
            refine W_sd (m := 16) rfl hmix hS.inv (fun K hK w1 hS' hh => ?_)
            replace hf := hf.st hS'
            replace hO := hO.st (by decide) hS'
            replace hW := hW.st hS'
            replace hbx := hbx.st (by decide) hS'
            replace hS := hS.trans hS'
            clear hS'
            clear hh
            refine a_v (i := 0) rfl (by kernel_rfl) hF (fun w2 hx => v_fieldAddr fa65_0 rfl) rfl ?_; clear hF a; intro a hF
            refine a_v (i := 1) rfl (by kernel_rfl) hF (fun w2 hx => v_load sc23 rfl (hbx.ld (by decide) hx 0 rfl)) rfl ?_; clear hF a; intro a hF
            refine a_v (i := 2) rfl (by kernel_rfl) hF (fun w2 hx => v_fieldAddr fa65_1 rfl) rfl ?_; clear hF a; intro a hF
            refine a_v (i := 3) rfl (by kernel_rfl) hF (fun w2 hx => v_load sc28 rfl (hbx.ld (by decide) hx 1 rfl)) rfl ?_; clear hF a; intro a hF
            refine a_v (i := 4) rfl (by kernel_rfl) hF (fun w2 hx => v_move rfl) rfl ?_; clear hF a; intro a hF
            refine a_v (i := 5) rfl (by kernel_rfl) hF (fun w2 hx => v_ixS sl28 rfl rfl (by omega) (by omega)) rfl ?_; clear hF a; intro a hF
            refine a_v (i := 6) rfl (by kernel_rfl) hF (fun w2 hx => v_load sc37 rfl (by rw [toNat_c]; exact (hO.kc (by decide) (vls_at hin)).ld hx)) rfl ?_; clear hF a; intro a hF
            refine a_v (i := 7) rfl (by kernel_rfl) hF (fun w2 hx => v_move rfl) rfl ?_; clear hF a; intro a hF
            refine a_v (i := 8) rfl (by kernel_rfl) hF (fun w2 hx => v_ixS sl37 rfl rfl (by omega) (by omega)) rfl ?_; clear hF a; intro a hF
            have hrk := hW.rd hin hi
            rw [show colS i q n f i i = f i q by unfold colS Fld.sw; rw [if_pos hin, if_pos rfl]] at hrk
            refine a_v (i := 9) rfl (by kernel_rfl) hF (fun w2 hx => v_load sc3 rfl (by rw [toNat_c]; exact hrk.ld hx)) rfl ?_; clear hF a; intro a hF
            refine a_e (i := 10) rfl (by kernel_rfl) ?_
            refine sc hF rfl rfl rfl en46 rfl (Inv_gf B (some (wb, p)) fv ((f i q : Nat) : Int) _ hS.inv hf) ?_; clear hF a; intro v w' a hv hF
            obtain ⟨rfl, hS'⟩ := hv
            refine WL_nil ⟨hS'.ext, ?_⟩
            replace hf := hf.st hS'
            replace hO := hO.st (by decide) hS'
            replace hW := hW.st hS'
            replace hbx := hbx.st (by decide) hS'
            replace hS := hS.trans hS'
            clear hS'
            clear hrk
            rw [ginv_fld hp hfqb hfq] at hF
            refine a_v (i := 11) rfl (by kernel_rfl) hF (fun w2 hx => v_move rfl) rfl ?_; clear hF a; intro a hF
            refine a_v (i := 12) rfl (by kernel_rfl) hF (fun w2 hx => v_ext rfl rfl) rfl ?_; clear hF a; intro a hF
            refine a_v (i := 13) rfl (by kernel_rfl) hF (fun w2 hx => v_ext rfl rfl) rfl ?_; clear hF a; intro a hF
            refine a_v (i := 14) rfl (by kernel_rfl) hF (fun w2 hx => v_assign rfl) rfl ?_; clear hF a; intro a hF
            refine a_v (i := 15) rfl (by kernel_rfl) hF (fun w2 hx => v_assign rfl) rfl ?_; clear hF a; intro a hF
            refine a_done (by kernel_rfl) (hK _ _ ?_)
            clear hK K
            replace hF := hF.sub _ (c_ 8 rfl (c_ 64 rfl (c_ 63 rfl (c_ 51 rfl (c_ 62 rfl (c_ 61 rfl (c_ 60 rfl (c_ 59 rfl (c_ 58 rfl (c_ 57 rfl (c_ 56 rfl (c_ 55 rfl (c_ 54 rfl (c_ 53 rfl (c_ 52 rfl (c_ 1 rfl (c_ 2 rfl (c_ 4 rfl (c_ 29 rfl (c_ 30 rfl (c_ 31 rfl (n_))))))))))))))))))))))
            refine W_sr rfl (fun K hK => ?_)
            refine sv hF (v_loadR rc65 rfl hbx) rfl ?_; clear hF a; intro a hF
            refine sv hF (v_move rfl) rfl ?_; clear hF a; intro a hF
            refine sv hF (v_move rfl) rfl ?_; clear hF a; intro a hF
            refine sc hF rfl rfl rfl en47 rfl (scale_ok B N KM wb p hp fv g cap n k bs rc (colS i q (n) f) 0 i (hp.fld.inv (f i q)) _ hS.inv hf hO hW (Nat.le_trans hKM hS.ext.size) hNM (Fld.colS_bd hp.fld hfb) hnk (by omega) hi hsb) ?_; clear hF a; intro v w' a hv hF
            obtain ⟨-, hO', hW', hz⟩ := hv
            replace hf := hf.stz hz
            replace hbx := hbx.stz (by decide) hz (fun h => Nat.not_lt.2 hKgr h.2)
            replace hS := hS.transZ hz
            replace hO := hO'
            replace hW := hW'
            clear hO' hW' hz
            refine WL_nil (hK _ _ ?_)
            clear hK K
            replace hF := hF.sub _ (c_ 67 rfl (c_ 66 rfl (c_ 65 rfl (c_ 8 rfl (c_ 64 rfl (c_ 63 rfl (c_ 51 rfl (c_ 62 rfl (c_ 61 rfl (c_ 60 rfl (c_ 59 rfl (c_ 58 rfl (c_ 57 rfl (c_ 56 rfl (c_ 55 rfl (c_ 54 rfl (c_ 53 rfl (c_ 52 rfl (c_ 1 rfl (c_ 2 rfl (c_ 4 rfl (c_ 29 rfl (c_ 30 rfl (c_ 31 rfl (n_)))))))))))))))))))))))))
            refine W_reg rfl (fun K hK => ?_)
            refine sv hF (v_loadR rc65 rfl hbx) rfl ?_; clear hF a; intro a hF
            refine sv hF (v_move rfl) rfl ?_; clear hF a; intro a hF
            refine sc hF rfl rfl rfl en79 rfl (jclear_ok B N KM wb p hp fv g cap n k bs rc (hp.fld.scC 0 i (hp.fld.inv (f i q)) n (colS i q (n) f)) i _ hS.inv hf hO hW (Nat.le_trans hKM hS.ext.size) hNM (hp.fld.scC_bd (Fld.colS_bd hp.fld hfb)) hnk hi hin) ?_; clear hF a; intro v w' a hv hF
            obtain ⟨-, hO', hW', hz⟩ := hv
            replace hf := hf.stz hz
            replace hbx := hbx.stz (by decide) hz (fun h => Nat.not_lt.2 hKgr h.2)
            replace hS := hS.transZ hz
            replace hO := hO'
            replace hW := hW'
            clear hO' hW' hz
            refine WL_nil (hK _ _ ?_)
            clear hK K
            replace hF := hF.sub _ (c_ 70 rfl (c_ 69 rfl (c_ 67 rfl (c_ 66 rfl (c_ 65 rfl (c_ 8 rfl (c_ 64 rfl (c_ 63 rfl (c_ 51 rfl (c_ 62 rfl (c_ 61 rfl (c_ 60 rfl (c_ 59 rfl (c_ 58 rfl (c_ 57 rfl (c_ 56 rfl (c_ 55 rfl (c_ 54 rfl (c_ 53 rfl (c_ 52 rfl (c_ 1 rfl (c_ 2 rfl (c_ 4 rfl (c_ 29 rfl (c_ 30 rfl (c_ 31 rfl (n_)))))))))))))))))))))))))))
            refine ⟨_, hF, ?_⟩
            exact ⟨rfl, hO, hW.congr (fun r hr l hl => hp.fld.stC_is hq hin r hr l hl), hS⟩

end Go.Proofs.Ytaeljbdpjiciaaa
