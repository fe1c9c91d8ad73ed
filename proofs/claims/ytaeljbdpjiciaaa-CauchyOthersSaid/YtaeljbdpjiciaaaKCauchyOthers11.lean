/- Texts of the claim CauchyOthers (part 11), put together in the order of their imports. -/
import Derived.Test.YtaeljbdpjiciaaaKCauchyOthers10
/- The walk of package jvan: one step. -/
set_option linter.unusedVariables false
set_option linter.unusedSimpArgs false
namespace Go.Proofs.Ytaeljbdpjiciaaa
open Go Go.Gam


namespace FxFJvc
theorem en46 : Ent Try.prog 46 := ent Try.func46 (by kernel_rfl) (by kernel_rfl)
theorem en47 : Ent Try.prog 47 := ent Try.func47 (by kernel_rfl) (by kernel_rfl)
theorem en79 : Ent Try.prog 79 := ent Try.func79 (by kernel_rfl) (by kernel_rfl)
theorem fa65_0 : FieldFact Try.prog 65 0 0 := ff_of (sz := 0) Try.underlying65 (by kernel_rfl)
theorem fa65_1 : FieldFact Try.prog 65 1 1 := ff_of (sz := 0) Try.underlying65 (by kernel_rfl)
theorem hmix : Try.prog.follows .mixedOrders = true := by kernel_rfl
theorem on3 : Gam.One Try.prog 3 := by unfold Gam.One; kernel_rfl
theorem rc65 : Rec2 Try.prog 65 (.pointer none) (.slice none 0 0) := rec2_of Try.underlying65 (by kernel_rfl) (by kernel_rfl) (by kernel_rfl)
theorem sc23 : Scalar Try.prog 23 := ⟨_, Try.underlying23, by simp, by simp⟩
theorem sc28 : Scalar Try.prog 28 := ⟨_, Try.underlying28, by simp, by simp⟩
theorem sc3 : Scalar Try.prog 3 := ⟨_, Try.underlying3, by simp, by simp⟩
theorem sc37 : Scalar Try.prog 37 := ⟨_, Try.underlying37, by simp, by simp⟩
theorem sl28 : Sl Try.prog 28 37 (.slice none 0 0) 24 := sl_of Try.underlying28 rfl (by kernel_rfl)
theorem sl37 : Sl Try.prog 37 3 (.int .i64 0) 8 := sl_of Try.underlying37 rfl (by kernel_rfl)
end FxFJvc
open FxFJvc

set_option maxRecDepth 100000 in
set_option maxHeartbeats 1000000 in
theorem step_ok (B N KM wb p : Nat) (hp : Prm wb p) (fv : Value) (g cap n k : Nat) (bs rc : Nat → Nat) (f : Tb) (i q : Nat) (w : World) (hI : Inv FDx B w) (hf : Fo FDx B w fv (some (wb, p))) (hO : Gam.Own FDx B N w 37 (.slice (some ⟨g, 0, none⟩) n cap) (some g) (vls n k bs rc)) (hW : Wr FDx B N KM w n k bs rc (f)) (hKM : KM ≤ w.heap.size) (hNM : N ≤ KM) (hfb : hp.fld.Bd f) (hnk : n ≤ 20 ∧ k ≤ 20) (hi : i < k) (hin : i < n) (hq : Fld.piv (Fld.tr f) k i i (k - i) = some q) : Ret Try.prog 45 [.agg #[fv, .slice (some ⟨g, 0, none⟩) n cap], .int .i64 (i : Int)] w fun v w' => v = .tuple #[] ∧ Gam.Own FDx B N w' 37 (.slice (some ⟨g, 0, none⟩) n cap) (some g) (vls n k bs rc) ∧ Wr FDx B N KM w' n k bs rc (hp.fld.stC n k i f) ∧ StZ FDx B (fun x => N ≤ x ∧ x < KM) w w' := by
 refine enter0 72 [(0, .agg #[fv, .slice (some ⟨g, 0, none⟩) n cap]), (1, .int .i64 (i : Int))]  Try.func45 rfl rfl rfl rfl rfl ?_; intro a hF
 have hS := StZ.refl (Z := (fun x => N ≤ x ∧ x < KM)) hI
 have hfw := hp.fld_w
 have h16 : 2 ^ wb ≤ 65536 := by rcases hp.w with h | h <;> rw [h] <;> decide
 obtain ⟨hiq, hqk0, hfq0, hmin⟩ := Fld.piv_some hq
 have hqk : q < k := by omega
 have hfq : f i q ≠ 0 := hfq0
 have hfqb := hfb i q
 have hsb := hp.fld.inv_lt (f i q)
 rw [hfw] at hfqb hsb
 refine W_sr rfl (fun K hK => ?_)
 obtain ⟨gr, hgr⟩ : ∃ x, x = w.heap.size := ⟨_, rfl⟩
 have hKgr : KM ≤ gr := by omega
 refine s_box (D := FDx) (B := B) hF rfl (by decide) hS.inv rfl ?_; clear hF a; intro w' a hm hbx hsz hF
 replace hf := hf.mb hm
 replace hO := hO.mb hm (fun _ _ => by simp)
 replace hW := hW.mb0 hm
 replace hS := hS.mb0 hm
 clear hm
 rw [← hgr] at hbx hF
 refine WL_nil (hK _ _ ?_)
 clear hK K
 replace hF := hF.sub _ (c_ 2 rfl (c_ 1 rfl (n_)))
 refine W_seq ?_
 refine W_sr rfl (fun K hK => ?_)
 refine sv hF (v_fieldAddr fa65_1 rfl) rfl ?_; clear hF a; intro a hF
 refine sv hF (v_load sc28 rfl (hbx.at 1 rfl)) rfl ?_; clear hF a; intro a hF
 refine sv hF (v_move rfl) rfl ?_; clear hF a; intro a hF
 refine sv hF (v_ixS sl28 rfl rfl (by omega) (by omega)) rfl ?_; clear hF a; intro a hF
 have hkr := hO.kc (by decide) (vls_at hin)
 refine sv hF (v_load sc37 rfl (by rw [toNat_c]; exact hkr.c)) rfl ?_; clear hF a; intro a hF
 clear hkr
 refine sv hF (v_lenS rfl sl37 rfl) rfl ?_; clear hF a; intro a hF
 refine sv hF (v_move rfl) rfl ?_; clear hF a; intro a hF
 refine WL_nil (hK _ _ ?_)
 clear hK K
 replace hF := hF.sub _ (c_ 16 rfl (c_ 15 rfl (c_ 14 rfl (c_ 2 rfl (c_ 1 rfl (n_))))))
 refine W_block ?_
 refine W_loop (fun d a w1 => ∃ (j : Nat), Fr 72 [(1, .int .i64 (i : Int)), (2, .pointer (some ⟨gr, 0, none⟩)), (14, .slice (some ⟨bs i, 0, none⟩) k (rc i)), (15, .int .i64 (k : Int)), (16, .int .i64 (j : Int))] a ∧ (StZ FDx B (fun x => N ≤ x ∧ x < KM) w w1) ∧ (Fo FDx B w1 fv (some (wb, p))) ∧ (Blk w1 gr 65 [fv, .slice (some ⟨g, 0, none⟩) n cap]) ∧ (Gam.Own FDx B N w1 37 (.slice (some ⟨g, 0, none⟩) n cap) (some g) (vls n k bs rc)) ∧ (Wr FDx B N KM w1 n k bs rc (f)) ∧ (j ≤ q) ∧ (d + j = k)) (k) ?_ ?_
 ·
  skip
  exact ⟨0, hF.sub _ (c_ 1 rfl (c_ 2 rfl (c_ 14 rfl (c_ 15 rfl (c_ 16 rfl (n_)))))), hS, hf, hbx, hO, hW, by omega, by omega⟩
 ·
  skip
  clear hF
  clear hS hf hbx hO hW
  rintro d a w1 ⟨j, hF, hS, hf, hbx, hO, hW, hj, hd⟩
  refine W_sr rfl (fun K hK => ?_)
  refine sv hF ((v_lss rfl rfl).as (congrArg Value.bool (decide_eq_true (by omega)))) rfl ?_; clear hF a; intro a hF
  refine WL_nil (hK _ _ ?_)
  clear hK K
  refine W_seq ?_
  refine W_ifT hF rfl ?_
  refine W_skip ?_
  refine W_seq ?_
  refine W_block ?_
  have hjk : j < k := by omega
  refine W_sr rfl (fun K hK => ?_)
  refine sv hF (v_move rfl) rfl ?_; clear hF a; intro a hF
  refine sv hF (v_ixS sl37 rfl rfl (by omega) (by omega)) rfl ?_; clear hF a; intro a hF
  refine sv hF (v_load sc3 rfl (by rw [toNat_c]; exact (hW.rd hin hjk).c)) rfl ?_; clear hF a; intro a hF
  refine sv2 hF (v_assign rfl) (v_assign rfl) rfl rfl ?_; clear hF a; intro a hF
  refine WL_nil (hK _ _ ?_)
  clear hK K
  replace hF := hF.sub _ (c_ 5 rfl (c_ 4 rfl (c_ 1 rfl (c_ 2 rfl (c_ 14 rfl (c_ 15 rfl (c_ 16 rfl (n_))))))))
  refine W_seq ?_
  refine W_sr rfl (fun K hK => ?_)
  refine sv2 hF (v_move rfl) (v_move rfl) rfl rfl ?_; clear hF a; intro a hF
  refine sb hF (v_lss rfl rfl) rfl ?_ ?_
  ·
   clear hF a; intro hc1 a hF
   try simp only [dcl] at hc1
   refine sv hF (v_move rfl) rfl ?_; clear hF a; intro a hF
   refine svn hF rfl rfl rfl ?_; clear hF a; intro a hF
   refine svn hF rfl rfl rfl ?_; clear hF a; intro a hF
   refine sv hF (v_pickT rfl rfl) rfl ?_; clear hF a; intro a hF
   refine WL_nil (hK _ _ ?_)
   clear hK K
   replace hF := hF.sub _ (c_ 27 rfl (c_ 4 rfl (c_ 1 rfl (c_ 2 rfl (c_ 14 rfl (c_ 15 rfl (c_ 16 rfl (n_))))))))
   refine W_ifT hF rfl ?_
   refine W_exit rfl ?_
   refine W_reg rfl (fun K hK => ?_)
   refine sv hF (v_addI rfl rfl (by omega)) rfl ?_; clear hF a; intro a hF
   refine sv hF (v_move rfl) rfl ?_; clear hF a; intro a hF
   refine WL_nil (hK _ _ ?_)
   clear hK K
   replace hF := hF.sub _ (c_ 16 rfl (c_ 50 rfl (c_ 1 rfl (c_ 2 rfl (c_ 14 rfl (c_ 15 rfl (n_)))))))
   exact ⟨d - 1, by omega, j + 1, hF.sub _ (c_ 1 rfl (c_ 2 rfl (c_ 14 rfl (c_ 15 rfl (c_ 16 rfl (n_)))))), hS, hf, hbx, hO, hW, by omega, by omega⟩
  ·
   clear hF a; intro hc1 a hF
   try simp only [dcl] at hc1
   refine sv hF (v_move rfl) rfl ?_; clear hF a; intro a hF
   refine svg hF rfl ?_
   refine sv hF (v_move rfl) rfl ?_; clear hF a; intro a hF
   refine svg hF rfl ?_
   refine sv hF (v_eql rfl rfl) rfl ?_; clear hF a; intro a hF
   refine sv hF (v_pickF rfl rfl) rfl ?_; clear hF a; intro a hF
   refine WL_nil (hK _ _ ?_)
   clear hK K
   replace hF := hF.sub _ (c_ 27 rfl (c_ 4 rfl (c_ 1 rfl (c_ 2 rfl (c_ 14 rfl (c_ 15 rfl (c_ 16 rfl (n_))))))))
   refine W_if hF rfl (fun hc2 => ?_) (fun hc2 => ?_)
   ·
    skip
    try simp only [dcl] at hc2
    have hjq : j ≠ q := by rintro rfl; omega
    refine W_exit rfl ?_
    refine W_reg rfl (fun K hK => ?_)
    refine sv hF (v_addI rfl rfl (by omega)) rfl ?_; clear hF a; intro a hF
    refine sv hF (v_move rfl) rfl ?_; clear hF a; intro a hF
    refine WL_nil (hK _ _ ?_)
    clear hK K
    replace hF := hF.sub _ (c_ 16 rfl (c_ 50 rfl (c_ 1 rfl (c_ 2 rfl (c_ 14 rfl (c_ 15 rfl (n_)))))))
    exact ⟨d - 1, by omega, j + 1, hF.sub _ (c_ 1 rfl (c_ 2 rfl (c_ 14 rfl (c_ 15 rfl (c_ 16 rfl (n_)))))), hS, hf, hbx, hO, hW, by omega, by omega⟩
   ·
    skip
    try simp only [dcl] at hc2
    obtain rfl : q = j := by
     by_cases e : j < q
     ·
      exact absurd (hmin j (by omega) e) (by show f i j ≠ 0; omega)
     ·
      omega
    refine W_skip ?_
    refine W_seq ?_
    refine W_sr rfl (fun K hK => ?_)
    refine sv hF (v_fieldAddr fa65_1 rfl) rfl ?_; clear hF a; intro a hF
    refine sv hF (v_load sc28 rfl (hbx.at 1 rfl)) rfl ?_; clear hF a; intro a hF
    refine sv hF (v_lenS rfl sl28 rfl) rfl ?_; clear hF a; intro a hF
    refine sv hF (v_move rfl) rfl ?_; clear hF a; intro a hF
    refine WL_nil (hK _ _ ?_)
    clear hK K
    replace hF := hF.sub _ (c_ 31 rfl (c_ 30 rfl (c_ 29 rfl (c_ 4 rfl (c_ 1 rfl (c_ 2 rfl (c_ 14 rfl (c_ 15 rfl (c_ 16 rfl (n_))))))))))
    refine W_block ?_
    refine W_loop (fun d2 a w3 => ∃ (x : Nat), Fr 72 [(1, .int .i64 (i : Int)), (2, .pointer (some ⟨gr, 0, none⟩)), (4, .int .i64 (q : Int)), (29, .slice (some ⟨g, 0, none⟩) n cap), (30, .int .i64 (n : Int)), (31, .int .i64 (x : Int))] a ∧ (StZ FDx B (fun x => N ≤ x ∧ x < KM) w w3) ∧ (Fo FDx B w3 fv (some (wb, p))) ∧ (Blk w3 gr 65 [fv, .slice (some ⟨g, 0, none⟩) n cap]) ∧ (Gam.Own FDx B N w3 37 (.slice (some ⟨g, 0, none⟩) n cap) (some g) (vls n k bs rc)) ∧ (Wr FDx B N KM w3 n k bs rc (colS i q (x) f)) ∧ (x ≤ n) ∧ (d2 + x = n)) (n) ?_ ?_
    ·
     skip
     exact ⟨0, hF.sub _ (c_ 1 rfl (c_ 2 rfl (c_ 4 rfl (c_ 29 rfl (c_ 30 rfl (c_ 31 rfl (n_))))))), hS, hf, hbx, hO, hW.congr (fun a _ b _ => colS_zero.symm), by omega, by omega⟩
    ·
     skip
     clear hF
     clear hS hf hbx hO hW
     rintro d2 a w3 ⟨x, hF, hS, hf, hbx, hO, hW, hxn, hd2⟩
     refine W_sr rfl (fun K hK => ?_)
     refine sv hF (v_lss rfl rfl) rfl ?_; clear hF a; intro a hF
     refine WL_nil (hK _ _ ?_)
     clear hK K
     refine W_seq ?_
     refine W_if hF rfl (fun hc3 => ?_) (fun hc3 => ?_)
     ·
      skip
      try simp only [dcl] at hc3
      have hx : x < n := by omega
      refine W_skip ?_
      refine W_seq ?_
      refine W_block ?_
      refine W_sr rfl (fun K hK => ?_)
      refine sv hF (v_ixS sl28 rfl rfl (by omega) (by omega)) rfl ?_; clear hF a; intro a hF
      refine sv hF (v_load sc37 rfl (by rw [toNat_c]; exact (hO.kc (by decide) (vls_at hx)).c)) rfl ?_; clear hF a; intro a hF
      refine sv hF (v_assign rfl) rfl ?_; clear hF a; intro a hF
      refine WL_nil (hK _ _ ?_)
      clear hK K
      replace hF := hF.sub _ (c_ 7 rfl (c_ 1 rfl (c_ 2 rfl (c_ 4 rfl (c_ 29 rfl (c_ 30 rfl (c_ 31 rfl (n_))))))))
      refine W_dS (fun (w2 : World) => w2.cell? ⟨gr, 0, none⟩ = some fv) (m := 16) rfl hmix (fun K hK => ?_)
      have hS' := St.drew hS.inv
      replace hf := hf.st hS'
      replace hO := hO.st (by decide) hS'
      replace hW := hW.st hS'
      replace hbx := hbx.st (by decide) hS'
      replace hS := hS.trans hS'
      clear hS'
      have hSS : (fun (w2 : World) => w2.cell? ⟨gr, 0, none⟩ = some fv) _ := hbx.at 0 rfl
      refine b_v (i := 0) rfl (by kernel_rfl) hF (fun w2 hx => v_move rfl) rfl hSS ?_; clear hF a; intro a hF
      refine b_v (i := 1) rfl (by kernel_rfl) hF (fun w2 hx => v_move rfl) rfl hSS ?_; clear hF a; intro a hF
      refine b_v (i := 2) rfl (by kernel_rfl) hF (fun w2 hx => v_move rfl) rfl hSS ?_; clear hF a; intro a hF
      refine b_v (i := 3) rfl (by kernel_rfl) hF (fun w2 hx => v_move rfl) rfl hSS ?_; clear hF a; intro a hF
      refine b_v (i := 4) rfl (by kernel_rfl) hF (fun w2 hx => v_move rfl) rfl hSS ?_; clear hF a; intro a hF
      refine b_v (i := 5) rfl (by kernel_rfl) hF (fun w2 hx => v_move rfl) rfl hSS ?_; clear hF a; intro a hF
      refine b_v (i := 6) rfl (by kernel_rfl) hF (fun w2 hx => v_ixS sl37 rfl rfl (by omega) (by omega)) rfl hSS ?_; clear hF a; intro a hF
      refine b_v (i := 8) rfl (by kernel_rfl) hF (fun w2 hx => v_move rfl) rfl hSS ?_; clear hF a; intro a hF
      refine b_v (i := 9) rfl (by kernel_rfl) hF (fun w2 hx => v_move rfl) rfl hSS ?_; clear hF a; intro a hF
      refine b_v (i := 10) rfl (by kernel_rfl) hF (fun w2 hx => v_ixS sl37 rfl rfl (by omega) (by omega)) rfl hSS ?_; clear hF a; intro a hF
      refine b_e2 (i := 7) (i' := 11) (by kernel_rfl) rfl rfl ?_ ?_
      ·
       skip
       refine sv hF (v_load sc3 rfl (by rw [toNat_c]; have h := (hW.rd hx hqk).c; rw [colS_old] at h; exact h)) rfl ?_; clear hF a; intro a hF
       refine WL_nil ⟨hSS, ?_⟩
       refine b_e (i := 11) (by kernel_rfl) rfl ?_
       refine sv hF (v_load sc3 rfl (by rw [toNat_c]; have h := (hW.rd hx hi).c; rw [colS_old] at h; exact h)) rfl ?_; clear hF a; intro a hF
       refine WL_nil ⟨hSS, ?_⟩
       refine b_v (i := 12) rfl (by kernel_rfl) hF (fun w2 hx => v_ixS sl37 rfl rfl (by omega) (by omega)) rfl hSS ?_; clear hF a; intro a hF
       refine b_e (i := 13) (by kernel_rfl) rfl ?_
       have hR0 := hW.row _ hx
       have hge := hW.ge hx
       refine s_set (D := FDx) (B := B) hF on3 rfl (by rw [toNat_c, zints_length, trow_length]; omega) rfl rfl hR0 (by decide) hS.inv ?_; intro w' hm hI' ho'
       replace hf := hf.mb hm
       replace hO := hO.mb hm (hO.ne_type hR0 (by decide))
       replace hW := hW.set (g := colH i q x f) hx hm (ho'.cast (by rw [toNat_c, Nat.zero_add, zints_set, trow_set (g := colH i q x f)]; intro l hl; exact colH_at)) (fun a ha hai l hl => (colH_ne hai))
       replace hbx := hbx.mb hm (hW.ne hx hKgr)
       replace hS := hS.mb hm (fun k e => ⟨by cases e; exact ⟨hge.1, hW.lt _ hx⟩, hR0.isrow k e⟩)
       replace hR0 := ho'
       clear hm hI' ho'
       clear hR0 hge
       clear hSS
       have hSS : (fun (w2 : World) => w2.cell? ⟨gr, 0, none⟩ = some fv) _ := hbx.at 0 rfl
       refine WL_nil ⟨hSS, ?_⟩
       refine b_v (i := 14) rfl (by kernel_rfl) hF (fun w2 hx => v_ixS sl37 rfl rfl (by omega) (by omega)) rfl hSS ?_; clear hF a; intro a hF
       refine b_e (i := 15) (by kernel_rfl) rfl ?_
       have hR0 := hW.row _ hx
       have hge := hW.ge hx
       refine s_set (D := FDx) (B := B) hF on3 rfl (by rw [toNat_c, zints_length, trow_length]; omega) rfl rfl hR0 (by decide) hS.inv ?_; intro w' hm hI' ho'
       replace hf := hf.mb hm
       replace hO := hO.mb hm (hO.ne_type hR0 (by decide))
       replace hW := hW.set (g := colS i q (x + 1) f) hx hm (ho'.cast (by rw [toNat_c, Nat.zero_add, zints_set, trow_set (g := colS i q (x + 1) f)]; intro l hl; exact colS_at)) (fun a ha hai l hl => (colS_ne hai))
       replace hbx := hbx.mb hm (hW.ne hx hKgr)
       replace hS := hS.mb hm (fun k e => ⟨by cases e; exact ⟨hge.1, hW.lt _ hx⟩, hR0.isrow k e⟩)
       replace hR0 := ho'
       clear hm hI' ho'
       clear hR0 hge
       clear hSS
       have hSS : (fun (w2 : World) => w2.cell? ⟨gr, 0, none⟩ = some fv) _ := hbx.at 0 rfl
       refine WL_nil ⟨hSS, ?_⟩
       refine b_done (by kernel_rfl) (hK _ _ ?_)
       clear hK K
       replace hF := hF.sub _ (c_ 1 rfl (c_ 2 rfl (c_ 4 rfl (c_ 29 rfl (c_ 30 rfl (c_ 31 rfl (n_)))))))
       refine W_reg rfl (fun K hK => ?_)
       refine sv hF (v_addI rfl rfl (by omega)) rfl ?_; clear hF a; intro a hF
       refine sv hF (v_move rfl) rfl ?_; clear hF a; intro a hF
       refine WL_nil (hK _ _ ?_)
       clear hK K
       exact ⟨d2 - 1, by omega, x + 1, hF.sub _ (c_ 1 rfl (c_ 2 rfl (c_ 4 rfl (c_ 29 rfl (c_ 30 rfl (c_ 31 rfl (n_))))))), hS, hf, hbx, hO, hW, by omega, by omega⟩
      ·
       skip
       refine sv hF (v_load sc3 rfl (by rw [toNat_c]; have h := (hW.rd hx hi).c; rw [colS_old] at h; exact h)) rfl ?_; clear hF a; intro a hF
       refine WL_nil ⟨hSS, ?_⟩
       refine b_e (i := 7) (by kernel_rfl) rfl ?_
       refine sv hF (v_load sc3 rfl (by rw [toNat_c]; have h := (hW.rd hx hqk).c; rw [colS_old] at h; exact h)) rfl ?_; clear hF a; intro a hF
       refine WL_nil ⟨hSS, ?_⟩
       refine b_v (i := 12) rfl (by kernel_rfl) hF (fun w2 hx => v_ixS sl37 rfl rfl (by omega) (by omega)) rfl hSS ?_; clear hF a; intro a hF
       refine b_e (i := 13) (by kernel_rfl) rfl ?_
       have hR0 := hW.row _ hx
       have hge := hW.ge hx
       refine s_set (D := FDx) (B := B) hF on3 rfl (by rw [toNat_c, zints_length, trow_length]; omega) rfl rfl hR0 (by decide) hS.inv ?_; intro w' hm hI' ho'
       replace hf := hf.mb hm
       replace hO := hO.mb hm (hO.ne_type hR0 (by decide))
       replace hW := hW.set (g := colH i q x f) hx hm (ho'.cast (by rw [toNat_c, Nat.zero_add, zints_set, trow_set (g := colH i q x f)]; intro l hl; exact colH_at)) (fun a ha hai l hl => (colH_ne hai))
       replace hbx := hbx.mb hm (hW.ne hx hKgr)
       replace hS := hS.mb hm (fun k e => ⟨by cases e; exact ⟨hge.1, hW.lt _ hx⟩, hR0.isrow k e⟩)
       replace hR0 := ho'
       clear hm hI' ho'
       clear hR0 hge
       clear hSS
       have hSS : (fun (w2 : World) => w2.cell? ⟨gr, 0, none⟩ = some fv) _ := hbx.at 0 rfl
       refine WL_nil ⟨hSS, ?_⟩
       refine b_v (i := 14) rfl (by kernel_rfl) hF (fun w2 hx => v_ixS sl37 rfl rfl (by omega) (by omega)) rfl hSS ?_; clear hF a; intro a hF
       refine b_e (i := 15) (by kernel_rfl) rfl ?_
       have hR0 := hW.row _ hx
       have hge := hW.ge hx
       refine s_set (D := FDx) (B := B) hF on3 rfl (by rw [toNat_c, zints_length, trow_length]; omega) rfl rfl hR0 (by decide) hS.inv ?_; intro w' hm hI' ho'
       replace hf := hf.mb hm
       replace hO := hO.mb hm (hO.ne_type hR0 (by decide))
       replace hW := hW.set (g := colS i q (x + 1) f) hx hm (ho'.cast (by rw [toNat_c, Nat.zero_add, zints_set, trow_set (g := colS i q (x + 1) f)]; intro l hl; exact colS_at)) (fun a ha hai l hl => (colS_ne hai))
       replace hbx := hbx.mb hm (hW.ne hx hKgr)
       replace hS := hS.mb hm (fun k e => ⟨by cases e; exact ⟨hge.1, hW.lt _ hx⟩, hR0.isrow k e⟩)
       replace hR0 := ho'
       clear hm hI' ho'
       clear hR0 hge
       clear hSS
       have hSS : (fun (w2 : World) => w2.cell? ⟨gr, 0, none⟩ = some fv) _ := hbx.at 0 rfl
       refine WL_nil ⟨hSS, ?_⟩
       refine b_done (by kernel_rfl) (hK _ _ ?_)
       clear hK K
       replace hF := hF.sub _ (c_ 1 rfl (c_ 2 rfl (c_ 4 rfl (c_ 29 rfl (c_ 30 rfl (c_ 31 rfl (n_)))))))
       refine W_reg rfl (fun K hK => ?_)
       refine sv hF (v_addI rfl rfl (by omega)) rfl ?_; clear hF a; intro a hF
       refine sv hF (v_move rfl) rfl ?_; clear hF a; intro a hF
       refine WL_nil (hK _ _ ?_)
       clear hK K
       exact ⟨d2 - 1, by omega, x + 1, hF.sub _ (c_ 1 rfl (c_ 2 rfl (c_ 4 rfl (c_ 29 rfl (c_ 30 rfl (c_ 31 rfl (n_))))))), hS, hf, hbx, hO, hW, by omega, by omega⟩
     ·
      skip
      try simp only [dcl] at hc3
      have hxe : x = n := by omega
      rw [hxe] at hW
      clear hxe
      refine W_exit rfl ?_
      refine W_exit rfl ?_
      refine W_sd (m := 16) rfl hmix hS.inv (fun K hK w1 hS' hh => ?_)
      replace hf := hf.st hS'
      replace hO := hO.st (by decide) hS'
      replace hW := hW.st hS'
      replace hbx := hbx.st (by decide) hS'
      replace hS := hS.trans hS'
      clear hS'
      clear hh
      refine a_v (i := 0) rfl (by kernel_rfl) hF (fun w2 hx => v_fieldAddr fa65_0 rfl) rfl ?_; clear hF a; intro a hF
      refine a_v (i := 1) rfl (by kernel_rfl) hF (fun w2 hx => v_load sc23 rfl (hbx.ld (by decide) hx 0 rfl)) rfl ?_; clear hF a; intro a hF
      refine a_v (i := 2) rfl (by kernel_rfl) hF (fun w2 hx => v_fieldAddr fa65_1 rfl) rfl ?_; clear hF a; intro a hF
      refine a_v (i := 3) rfl (by kernel_rfl) hF (fun w2 hx => v_load sc28 rfl (hbx.ld (by decide) hx 1 rfl)) rfl ?_; clear hF a; intro a hF
      refine a_v (i := 4) rfl (by kernel_rfl) hF (fun w2 hx => v_move rfl) rfl ?_; clear hF a; intro a hF
      refine a_v (i := 5) rfl (by kernel_rfl) hF (fun w2 hx => v_ixS sl28 rfl rfl (by omega) (by omega)) rfl ?_; clear hF a; intro a hF
      refine a_v (i := 6) rfl (by kernel_rfl) hF (fun w2 hx => v_load sc37 rfl (by rw [toNat_c]; exact (hO.kc (by decide) (vls_at hin)).ld hx)) rfl ?_; clear hF a; intro a hF
      refine a_v (i := 7) rfl (by kernel_rfl) hF (fun w2 hx => v_move rfl) rfl ?_; clear hF a; intro a hF
      refine a_v (i := 8) rfl (by kernel_rfl) hF (fun w2 hx => v_ixS sl37 rfl rfl (by omega) (by omega)) rfl ?_; clear hF a; intro a hF
      have hrk := hW.rd hin hi
      rw [show colS i q n f i i = f i q by unfold colS Fld.sw; rw [if_pos hin, if_pos rfl]] at hrk
      refine a_v (i := 9) rfl (by kernel_rfl) hF (fun w2 hx => v_load sc3 rfl (by rw [toNat_c]; exact hrk.ld hx)) rfl ?_; clear hF a; intro a hF
      refine a_e (i := 10) rfl (by kernel_rfl) ?_
      refine sc hF rfl rfl rfl en46 rfl (Inv_gf B (some (wb, p)) fv ((f i q : Nat) : Int) _ hS.inv hf) ?_; clear hF a; intro v w' a hv hF
      obtain ⟨rfl, hS'⟩ := hv
      refine WL_nil ⟨hS'.ext, ?_⟩
      replace hf := hf.st hS'
      replace hO := hO.st (by decide) hS'
      replace hW := hW.st hS'
      replace hbx := hbx.st (by decide) hS'
      replace hS := hS.trans hS'
      clear hS'
      clear hrk
      rw [ginv_fld hp hfqb hfq] at hF
      refine a_v (i := 11) rfl (by kernel_rfl) hF (fun w2 hx => v_move rfl) rfl ?_; clear hF a; intro a hF
      refine a_v (i := 12) rfl (by kernel_rfl) hF (fun w2 hx => v_ext rfl rfl) rfl ?_; clear hF a; intro a hF
      refine a_v (i := 13) rfl (by kernel_rfl) hF (fun w2 hx => v_ext rfl rfl) rfl ?_; clear hF a; intro a hF
      refine a_v (i := 14) rfl (by kernel_rfl) hF (fun w2 hx => v_assign rfl) rfl ?_; clear hF a; intro a hF
      refine a_v (i := 15) rfl (by kernel_rfl) hF (fun w2 hx => v_assign rfl) rfl ?_; clear hF a; intro a hF
      refine a_done (by kernel_rfl) (hK _ _ ?_)
      clear hK K
      replace hF := hF.sub _ (c_ 8 rfl (c_ 64 rfl (c_ 63 rfl (c_ 51 rfl (c_ 62 rfl (c_ 61 rfl (c_ 60 rfl (c_ 59 rfl (c_ 58 rfl (c_ 57 rfl (c_ 56 rfl (c_ 55 rfl (c_ 54 rfl (c_ 53 rfl (c_ 52 rfl (c_ 1 rfl (c_ 2 rfl (c_ 4 rfl (c_ 29 rfl (c_ 30 rfl (c_ 31 rfl (n_))))))))))))))))))))))
      refine W_sr rfl (fun K hK => ?_)
      refine sv hF (v_loadR rc65 rfl hbx) rfl ?_; clear hF a; intro a hF
      refine sv2 hF (v_move rfl) (v_move rfl) rfl rfl ?_; clear hF a; intro a hF
      refine sc hF rfl rfl rfl en47 rfl (scale_ok B N KM wb p hp fv g cap n k bs rc (colS i q (n) f) 0 i (hp.fld.inv (f i q)) _ hS.inv hf hO hW (Nat.le_trans hKM hS.ext.size) hNM (Fld.colS_bd hp.fld hfb) hnk (by omega) hi hsb) ?_; clear hF a; intro v w' a hv hF
      obtain ⟨-, hO', hW', hz⟩ := hv
      replace hf := hf.stz hz
      replace hbx := hbx.stz (by decide) hz (fun h => Nat.not_lt.2 hKgr h.2)
      replace hS := hS.transZ hz
      replace hO := hO'
      replace hW := hW'
      clear hO' hW' hz
      refine WL_nil (hK _ _ ?_)
      clear hK K
      replace hF := hF.sub _ (c_ 67 rfl (c_ 66 rfl (c_ 65 rfl (c_ 8 rfl (c_ 64 rfl (c_ 63 rfl (c_ 51 rfl (c_ 62 rfl (c_ 61 rfl (c_ 60 rfl (c_ 59 rfl (c_ 58 rfl (c_ 57 rfl (c_ 56 rfl (c_ 55 rfl (c_ 54 rfl (c_ 53 rfl (c_ 52 rfl (c_ 1 rfl (c_ 2 rfl (c_ 4 rfl (c_ 29 rfl (c_ 30 rfl (c_ 31 rfl (n_)))))))))))))))))))))))))
      refine W_reg rfl (fun K hK => ?_)
      refine sv hF (v_loadR rc65 rfl hbx) rfl ?_; clear hF a; intro a hF
      refine sv hF (v_move rfl) rfl ?_; clear hF a; intro a hF
      refine sc hF rfl rfl rfl en79 rfl (jclear_ok B N KM wb p hp fv g cap n k bs rc (hp.fld.scC 0 i (hp.fld.inv (f i q)) n (colS i q (n) f)) i _ hS.inv hf hO hW (Nat.le_trans hKM hS.ext.size) hNM (hp.fld.scC_bd (Fld.colS_bd hp.fld hfb)) hnk hi hin) ?_; clear hF a; intro v w' a hv hF
      obtain ⟨-, hO', hW', hz⟩ := hv
      replace hf := hf.stz hz
      replace hbx := hbx.stz (by decide) hz (fun h => Nat.not_lt.2 hKgr h.2)
      replace hS := hS.transZ hz
      replace hO := hO'
      replace hW := hW'
      clear hO' hW' hz
      refine WL_nil (hK _ _ ?_)
      clear hK K
      replace hF := hF.sub _ (c_ 70 rfl (c_ 69 rfl (c_ 67 rfl (c_ 66 rfl (c_ 65 rfl (c_ 8 rfl (c_ 64 rfl (c_ 63 rfl (c_ 51 rfl (c_ 62 rfl (c_ 61 rfl (c_ 60 rfl (c_ 59 rfl (c_ 58 rfl (c_ 57 rfl (c_ 56 rfl (c_ 55 rfl (c_ 54 rfl (c_ 53 rfl (c_ 52 rfl (c_ 1 rfl (c_ 2 rfl (c_ 4 rfl (c_ 29 rfl (c_ 30 rfl (c_ 31 rfl (n_)))))))))))))))))))))))))))
      refine ⟨_, hF, ?_⟩
      exact ⟨rfl, hO, hW.congr (fun r hr l hl => hp.fld.stC_is hq hin r hr l hl), hS⟩

end Go.Proofs.Ytaeljbdpjiciaaa

/- The walk of package jvan: parity rows. -/
set_option linter.unusedVariables false
set_option linter.unusedSimpArgs false
namespace Go.Proofs.Ytaeljbdpjiciaaa
open Go Go.Gam


namespace FxFJvd
theorem en16 : Ent Try.prog 16 := ent Try.func16 (by kernel_rfl) (by kernel_rfl)
theorem en29 : Ent Try.prog 29 := ent Try.func29 (by kernel_rfl) (by kernel_rfl)
theorem en45 : Ent Try.prog 45 := ent Try.func45 (by kernel_rfl) (by kernel_rfl)
theorem en46 : Ent Try.prog 46 := ent Try.func46 (by kernel_rfl) (by kernel_rfl)
theorem en47 : Ent Try.prog 47 := ent Try.func47 (by kernel_rfl) (by kernel_rfl)
theorem on3 : Gam.One Try.prog 3 := by unfold Gam.One; kernel_rfl
theorem rc65 : Rec2 Try.prog 65 (.pointer none) (.slice none 0 0) := rec2_of Try.underlying65 (by kernel_rfl) (by kernel_rfl) (by kernel_rfl)
theorem sc3 : Scalar Try.prog 3 := ⟨_, Try.underlying3, by simp, by simp⟩
theorem sc37 : Scalar Try.prog 37 := ⟨_, Try.underlying37, by simp, by simp⟩
theorem sl28 : Sl Try.prog 28 37 (.slice none 0 0) 24 := sl_of Try.underlying28 rfl (by kernel_rfl)
theorem sl37 : Sl Try.prog 37 3 (.int .i64 0) 8 := sl_of Try.underlying37 rfl (by kernel_rfl)
end FxFJvd
open FxFJvd

theorem Extended_fit (B : Nat) (o : Fq) (fv : Value) (kn mn : Nat) (w : World) (hI : Inv FDx B w) (hf : Fo FDx B w fv o) (hb : fitB o (kn : Int) (mn : Int) = true) : Ret Try.prog 16 [fv, .int .i64 (kn : Int), .int .i64 (mn : Int)] w fun v w' => ∃ g cap bs rc, v = .tuple #[.slice (some ⟨g, 0, none⟩) (kn + mn) cap, .int .i64 0] ∧ Gam.Own FDx B w.heap.size w' 37 (.slice (some ⟨g, 0, none⟩) (kn + mn) cap) (some g) (vls (kn + mn) kn bs rc) ∧ Wr FDx B w.heap.size w'.heap.size w' (kn + mn) kn bs rc (extT o kn mn) ∧ St FDx B w w' := by
 refine (Extended_ok B o fv (kn : Int) (mn : Int) w hI hf).mono fun v w' h => ?_
 rcases h with ⟨⟨h, _⟩ | ⟨_, g, cap, bs, rc, h1, h2, h3⟩, hS⟩
 ·
  rw [hb] at h; cases h
 ·
  rw [show ((kn : Int) + (mn : Int)).toNat = kn + mn by omega] at h1 h2 h3
  simp only [Int.toNat_natCast] at h2 h3
  exact ⟨g, cap, bs, rc, h1, h2, h3, hS⟩
set_option maxRecDepth 100000 in
set_option maxHeartbeats 1000000 in
theorem Parity_fit (B wb p : Nat) (hp : Prm wb p) (fv : Value) (kn mn : Nat) (w : World) (hI : Inv FDx B w) (hf : Fo FDx B w fv (some (wb, p))) (hb : fitB (some (wb, p)) (kn : Int) (mn : Int) = true) : Ret Try.prog 18 [fv, .int .i64 (kn : Int), .int .i64 (mn : Int)] w fun v w' => ∃ sa cap, v = .tuple #[.slice sa mn cap, .int .i64 0] ∧ Mat FDx B w'.heap.size w' sa cap (tab mn kn (parT hp kn mn)) ∧ St FDx B w w' := by
 refine enter2 104 [(0, fv), (1, .int .i64 (kn : Int)), (2, .int .i64 (mn : Int))] 6 7 Try.func18 rfl rfl rfl rfl rfl ?_; intro a hF
 have hS := St.refl hI
 obtain ⟨-, hb2⟩ := fitB_iff.1 hb
 have hfw := hp.fld_w
 have h16 : 2 ^ wb ≤ 65536 := by rcases hp.w with h | h <;> rw [h] <;> decide
 have hk1 : 1 ≤ kn := by omega
 have hm1 : 1 ≤ mn := by omega
 have h20 : kn + mn ≤ 20 := by omega
 refine W_sr rfl (fun K hK => ?_)
 refine sv2 hF (v_assign rfl) (v_assign rfl) rfl rfl ?_; clear hF a; intro a hF
 refine WL_nil (hK _ _ ?_)
 clear hK K
 refine W_sr rfl (fun K hK => ?_)
 refine sv3 hF (v_move rfl) (v_move rfl) (v_move rfl) rfl rfl rfl ?_; clear hF a; intro a hF
 refine sc hF rfl rfl rfl en16 rfl (Extended_fit B (some (wb, p)) fv kn mn _ hS.inv hf hb) ?_; clear hF a; intro v w' a hv hF
 obtain ⟨g, cap, bs, rc, rfl, hO, hW, hS'⟩ := hv
 have hs0 := hS.ext.size
 replace hO := hO.le hs0
 replace hW := hW.le hs0
 clear hs0
 obtain ⟨KM, hKe⟩ : ∃ K, K = w'.heap.size := ⟨_, rfl⟩
 rw [← hKe] at hW
 have hKs : KM ≤ w'.heap.size := by omega
 have hNK : w.heap.size ≤ KM := by have := hS'.ext.size; have := hS.ext.size; omega
 clear hKe
 replace hf := hf.st hS'
 replace hS := hS.trans hS'
 clear hS'
 refine sv5 hF (v_move rfl) (v_ext rfl rfl) (v_ext rfl rfl) (v_assign rfl) (v_assign rfl) rfl rfl rfl rfl rfl ?_; clear hF a; intro a hF
 refine WL_nil (hK _ _ ?_)
 clear hK K
 replace hF := hF.sub _ (c_ 9 rfl (c_ 8 rfl (c_ 7 rfl (c_ 6 rfl (c_ 0 rfl (c_ 1 rfl (n_)))))))
 refine W_seq ?_
 refine W_sr rfl (fun K hK => ?_)
 refine sv hF (v_move rfl) rfl ?_; clear hF a; intro a hF
 refine sv hF ((v_neq rfl rfl).as (congrArg Value.bool (decide_eq_false (fun h => h rfl)))) rfl ?_; clear hF a; intro a hF
 refine WL_nil (hK _ _ ?_)
 clear hK K
 replace hF := hF.sub _ (c_ 31 rfl (c_ 9 rfl (c_ 8 rfl (c_ 7 rfl (c_ 6 rfl (c_ 0 rfl (c_ 1 rfl (n_))))))))
 refine W_ifF hF rfl ?_
 refine W_skip ?_
 refine W_sr rfl (fun K hK => ?_)
 refine sv2 hF (v_move rfl) (v_move rfl) rfl rfl ?_; clear hF a; intro a hF
 refine sv hF (v_buildR rc65 rfl rfl hf.cells1 rfl) rfl ?_; clear hF a; intro a hF
 obtain ⟨gr, hgr⟩ : ∃ x, x = w'.heap.size := ⟨_, rfl⟩
 have hKgr : KM ≤ gr := by omega
 refine s_newR (D := FDx) (B := B) hF rc65 (by decide) (fun q => rfl) (by obtain ⟨a_, h_, -⟩ := hf.ptr; rw [h_]; rfl) rfl rfl ?_; clear hF a; intro w' a hm hbx hsz hF
 rw [← hgr] at hbx hF
 replace hf := hf.mb hm
 replace hO := hO.mb hm (fun _ _ => by simp)
 replace hW := hW.mb0 hm
 replace hS := hS.mb0 hm
 replace hKs := Nat.le_trans hKs hm.size
 clear hm hgr hsz
 skip
 refine WL_nil (hK _ _ ?_)
 clear hK K
 replace hF := hF.sub _ (c_ 10 rfl (c_ 8 rfl (c_ 7 rfl (c_ 6 rfl (c_ 0 rfl (c_ 1 rfl (n_)))))))
 skip
 refine W_sr rfl (fun K hK => ?_)
 refine sv hF (v_loadR rc65 rfl hbx) rfl ?_; clear hF a; intro a hF
 refine sv hF (v_mkfF (cs := [.tmp 36]) (vs := [.agg #[fv, .slice (some ⟨g, 0, none⟩) (kn + mn) cap]]) rfl) rfl ?_; clear hF a; intro a hF
 refine sv hF (v_assign rfl) rfl ?_; clear hF a; intro a hF
 refine WL_nil (hK _ _ ?_)
 clear hK K
 replace hF := hF.sub _ (c_ 11 rfl (c_ 10 rfl (c_ 8 rfl (c_ 7 rfl (c_ 6 rfl (c_ 0 rfl (c_ 1 rfl (n_))))))))
 refine W_seq ?_
 refine W_sr rfl (fun K hK => ?_)
 refine sv2 hF (v_move rfl) (v_move rfl) rfl rfl ?_; clear hF a; intro a hF
 refine WL_nil (hK _ _ ?_)
 clear hK K
 refine W_block ?_
 refine W_loop (fun q a w1 => ∃ (i : Nat), Fr 104 [(0, fv), (1, .int .i64 (kn : Int)), (8, .slice (some ⟨g, 0, none⟩) (kn + mn) cap), (10, .pointer (some ⟨gr, 0, none⟩)), (11, .func (.func 45) ([.agg #[fv, .slice (some ⟨g, 0, none⟩) (kn + mn) cap]] : List Value).toArray ([] : List Value).toArray), (38, .int .i64 (kn : Int)), (39, .int .i64 (i : Int))] a ∧ (St FDx B w w1) ∧ (Fo FDx B w1 fv (some (wb, p))) ∧ (Blk w1 gr 65 [fv, .slice (some ⟨g, 0, none⟩) (kn + mn) cap]) ∧ (Gam.Own FDx B w.heap.size w1 37 (.slice (some ⟨g, 0, none⟩) (kn + mn) cap) (some g) (vls (kn + mn) kn bs rc)) ∧ (Wr FDx B w.heap.size KM w1 (kn + mn) kn bs rc (redC hp kn mn i)) ∧ (KM ≤ w1.heap.size) ∧ (i ≤ kn) ∧ (q + i = kn)) (kn) ?_ ?_
 ·
  skip
  exact ⟨0, hF.sub _ (c_ 0 rfl (c_ 1 rfl (c_ 8 rfl (c_ 10 rfl (c_ 11 rfl (c_ 38 rfl (c_ 39 rfl (n_)))))))), hS, hf, hbx, hO, hW, hKs, by omega, by omega⟩
 ·
  skip
  clear hF
  clear hS hf hbx hO hW hKs
  rintro q a w1 ⟨i, hF, hS, hf, hbx, hO, hW, hKs, hi, hq⟩
  refine W_sr rfl (fun K hK => ?_)
  refine sv hF (v_lss rfl rfl) rfl ?_; clear hF a; intro a hF
  refine WL_nil (hK _ _ ?_)
  clear hK K
  refine W_seq ?_
  refine W_if hF rfl (fun hc1 => ?_) (fun hc1 => ?_)
  ·
   skip
   try simp only [dcl] at hc1
   have hlt : i < kn := by omega
   obtain ⟨pv, hpv, hrd⟩ := redC_piv hp (k := kn) (m := mn) hk1 hm1 h20 hlt
   refine W_skip ?_
   refine W_seq ?_
   refine W_block ?_
   refine W_sr rfl (fun K hK => ?_)
   refine sv2 hF (v_move rfl) (v_assign rfl) rfl rfl ?_; clear hF a; intro a hF
   refine WL_nil (hK _ _ ?_)
   clear hK K
   replace hF := hF.sub _ (c_ 12 rfl (c_ 0 rfl (c_ 1 rfl (c_ 8 rfl (c_ 10 rfl (c_ 11 rfl (c_ 38 rfl (c_ 39 rfl (n_)))))))))
   refine W_reg rfl (fun K hK => ?_)
   refine sv2 hF (v_move rfl) (v_move rfl) rfl rfl ?_; clear hF a; intro a hF
   refine sc hF rfl rfl rfl en45 rfl (step_ok B w.heap.size KM wb p hp fv g cap (kn + mn) kn bs rc (redC hp kn mn i) i pv _ hS.inv hf hO hW hKs hNK (redC_bd hp kn mn i) ⟨h20, by omega⟩ hlt (by omega) hpv) ?_; clear hF a; intro v w' a hv hF
   obtain ⟨-, hO', hW', hz⟩ := hv
   replace hf := hf.stz hz
   replace hbx := hbx.stz (by decide) hz (fun h => Nat.not_lt.2 hKgr h.2)
   replace hS := hS.thenZ hz (fun k hk h => Nat.not_lt.2 h.1 hk)
   have hsz := hz.ext.size
   replace hKs := Nat.le_trans hKs hsz
   clear hsz
   replace hO := hO'
   replace hW := hW'
   clear hO' hW' hz
   rw [← hrd] at hW
   refine WL_nil (hK _ _ ?_)
   clear hK K
   replace hF := hF.sub _ (c_ 0 rfl (c_ 1 rfl (c_ 8 rfl (c_ 10 rfl (c_ 11 rfl (c_ 38 rfl (c_ 39 rfl (n_))))))))
   refine W_reg rfl (fun K hK => ?_)
   refine sv hF (v_addI rfl rfl (by omega)) rfl ?_; clear hF a; intro a hF
   refine sv hF (v_move rfl) rfl ?_; clear hF a; intro a hF
   refine WL_nil (hK _ _ ?_)
   clear hK K
   exact ⟨q - 1, by omega, i + 1, hF.sub _ (c_ 0 rfl (c_ 1 rfl (c_ 8 rfl (c_ 10 rfl (c_ 11 rfl (c_ 38 rfl (c_ 39 rfl (n_)))))))), hS, hf, hbx, hO, hW, hKs, by omega, by omega⟩
  ·
   skip
   try simp only [dcl] at hc1
   have hik : i = kn := by omega
   rw [hik] at hW
   refine W_exit rfl ?_
   refine W_seq ?_
   refine W_sr rfl (fun K hK => ?_)
   refine sv2 hF (v_move rfl) (v_move rfl) rfl rfl ?_; clear hF a; intro a hF
   refine sv hF (v_ixS sl28 rfl rfl (by omega) (by omega)) rfl ?_; clear hF a; intro a hF
   have hkr := hO.kc (by decide) (vls_at (show kn < kn + mn by omega))
   refine sv hF (v_load sc37 rfl (by rw [toNat_c]; exact hkr.c)) rfl ?_; clear hF a; intro a hF
   clear hkr
   refine sv hF (v_lenS rfl sl37 rfl) rfl ?_; clear hF a; intro a hF
   refine sv hF (v_move rfl) rfl ?_; clear hF a; intro a hF
   refine WL_nil (hK _ _ ?_)
   clear hK K
   replace hF := hF.sub _ (c_ 51 rfl (c_ 50 rfl (c_ 49 rfl (c_ 48 rfl (c_ 47 rfl (c_ 46 rfl (c_ 0 rfl (c_ 1 rfl (c_ 8 rfl (c_ 10 rfl (c_ 11 rfl (c_ 38 rfl (c_ 39 rfl (n_))))))))))))))
   refine W_block ?_
   refine W_loop (fun q2 a w3 => ∃ (j : Nat), Fr 104 [(0, fv), (1, .int .i64 (kn : Int)), (8, .slice (some ⟨g, 0, none⟩) (kn + mn) cap), (10, .pointer (some ⟨gr, 0, none⟩)), (49, .slice (some ⟨bs kn, 0, none⟩) kn (rc kn)), (50, .int .i64 (kn : Int)), (51, .int .i64 (j : Int))] a ∧ (St FDx B w w3) ∧ (Fo FDx B w3 fv (some (wb, p))) ∧ (Blk w3 gr 65 [fv, .slice (some ⟨g, 0, none⟩) (kn + mn) cap]) ∧ (Gam.Own FDx B w.heap.size w3 37 (.slice (some ⟨g, 0, none⟩) (kn + mn) cap) (some g) (vls (kn + mn) kn bs rc)) ∧ (Wr FDx B w.heap.size KM w3 (kn + mn) kn bs rc (colI hp kn mn j)) ∧ (KM ≤ w3.heap.size) ∧ (j ≤ kn) ∧ (q2 + j = kn)) (kn) ?_ ?_
   ·
    skip
    exact ⟨0, hF.sub _ (c_ 0 rfl (c_ 1 rfl (c_ 8 rfl (c_ 10 rfl (c_ 49 rfl (c_ 50 rfl (c_ 51 rfl (n_)))))))), hS, hf, hbx, hO, hW.congr (fun a _ b _ => (colI_zero hp).symm), hKs, by omega, by omega⟩
   ·
    skip
    clear hF
    clear hS hf hbx hO hW hKs
    rintro q2 a w3 ⟨j, hF, hS, hf, hbx, hO, hW, hKs, hj, hq2⟩
    refine W_sr rfl (fun K hK => ?_)
    refine sv hF (v_lss rfl rfl) rfl ?_; clear hF a; intro a hF
    refine WL_nil (hK _ _ ?_)
    clear hK K
    refine W_seq ?_
    refine W_if hF rfl (fun hc2 => ?_) (fun hc2 => ?_)
    ·
     skip
     try simp only [dcl] at hc2
     have hlt : j < kn := by omega
     have hg0 := jG_ne hp hk1 hm1 h20 (r := 0) (j := j) (by omega) hlt
     have hgb := jG_bd hp kn mn 0 j
     have hib := hp.fld.inv_lt (jG hp kn mn 0 j)
     rw [hfw] at hgb hib
     refine W_skip ?_
     refine W_seq ?_
     refine W_block ?_
     refine W_sr rfl (fun K hK => ?_)
     refine sv hF (v_move rfl) rfl ?_; clear hF a; intro a hF
     refine sv hF (v_ixS sl37 rfl rfl (by omega) (by omega)) rfl ?_; clear hF a; intro a hF
     refine sv hF (v_load sc3 rfl (by rw [toNat_c]; exact (by have h := (hW.rd (show kn < kn + mn by omega) hlt).c; rw [colI_at hp] at h; exact h))) rfl ?_; clear hF a; intro a hF
     refine sv2 hF (v_assign rfl) (v_assign rfl) rfl rfl ?_; clear hF a; intro a hF
     refine WL_nil (hK _ _ ?_)
     clear hK K
     refine W_sr rfl (fun K hK => ?_)
     refine sv2 hF (v_move rfl) (v_move rfl) rfl rfl ?_; clear hF a; intro a hF
     refine sc hF rfl rfl rfl en46 rfl (Inv_gf B (some (wb, p)) fv ((jG hp kn mn 0 j : Nat) : Int) _ hS.inv hf) ?_; clear hF a; intro v w' a hv hF
     obtain ⟨rfl, hS'⟩ := hv
     replace hf := hf.st hS'
     replace hO := hO.st (by decide) hS'
     replace hW := hW.st hS'
     replace hbx := hbx.st (by decide) hS'
     replace hKs := Nat.le_trans hKs hS'.ext.size
     replace hS := hS.trans hS'
     clear hS'
     rw [ginv_fld hp hgb hg0] at hF
     refine sv5 hF (v_move rfl) (v_ext rfl rfl) (v_ext rfl rfl) (v_assign rfl) (v_assign rfl) rfl rfl rfl rfl rfl ?_; clear hF a; intro a hF
     refine WL_nil (hK _ _ ?_)
     clear hK K
     replace hF := hF.sub _ (c_ 15 rfl (c_ 61 rfl (c_ 60 rfl (c_ 56 rfl (c_ 59 rfl (c_ 58 rfl (c_ 57 rfl (c_ 14 rfl (c_ 13 rfl (c_ 55 rfl (c_ 54 rfl (c_ 53 rfl (c_ 52 rfl (c_ 0 rfl (c_ 1 rfl (c_ 8 rfl (c_ 10 rfl (c_ 49 rfl (c_ 50 rfl (c_ 51 rfl (n_)))))))))))))))))))))
     refine W_reg rfl (fun K hK => ?_)
     refine sv hF (v_loadR rc65 rfl hbx) rfl ?_; clear hF a; intro a hF
     refine sv3 hF (v_move rfl) (v_move rfl) (v_move rfl) rfl rfl rfl ?_; clear hF a; intro a hF
     refine sc hF rfl rfl rfl en47 rfl (scale_ok B w.heap.size KM wb p hp fv g cap (kn + mn) kn bs rc (colI hp kn mn j) kn j (hp.fld.inv (jG hp kn mn 0 j)) _ hS.inv hf hO hW hKs hNK (colI_bd hp) ⟨h20, by omega⟩ (by omega) hlt hib) ?_; clear hF a; intro v w' a hv hF
     obtain ⟨-, hO', hW', hz⟩ := hv
     replace hf := hf.stz hz
     replace hbx := hbx.stz (by decide) hz (fun h => Nat.not_lt.2 hKgr h.2)
     replace hS := hS.thenZ hz (fun k hk h => Nat.not_lt.2 h.1 hk)
     have hsz := hz.ext.size
     replace hKs := Nat.le_trans hKs hsz
     clear hsz
     replace hO := hO'
     replace hW := hW'
     clear hO' hW' hz
     replace hW := hW.congr (g := colI hp kn mn (j + 1)) (fun a ha b _ => colI_step hp ha)
     refine WL_nil (hK _ _ ?_)
     clear hK K
     replace hF := hF.sub _ (c_ 65 rfl (c_ 64 rfl (c_ 63 rfl (c_ 62 rfl (c_ 15 rfl (c_ 61 rfl (c_ 60 rfl (c_ 56 rfl (c_ 59 rfl (c_ 58 rfl (c_ 57 rfl (c_ 14 rfl (c_ 13 rfl (c_ 55 rfl (c_ 54 rfl (c_ 53 rfl (c_ 52 rfl (c_ 0 rfl (c_ 1 rfl (c_ 8 rfl (c_ 10 rfl (c_ 49 rfl (c_ 50 rfl (c_ 51 rfl (n_)))))))))))))))))))))))))
     refine W_reg rfl (fun K hK => ?_)
     refine sv hF (v_addI rfl rfl (by omega)) rfl ?_; clear hF a; intro a hF
     refine sv hF (v_move rfl) rfl ?_; clear hF a; intro a hF
     refine WL_nil (hK _ _ ?_)
     clear hK K
     exact ⟨q2 - 1, by omega, j + 1, hF.sub _ (c_ 0 rfl (c_ 1 rfl (c_ 8 rfl (c_ 10 rfl (c_ 49 rfl (c_ 50 rfl (c_ 51 rfl (n_)))))))), hS, hf, hbx, hO, hW, hKs, by omega, by omega⟩
    ·
     skip
     try simp only [dcl] at hc2
     have hjk : j = kn := by omega
     rw [hjk] at hW
     refine W_exit rfl ?_
     refine W_seq ?_
     refine W_sr rfl (fun K hK => ?_)
     refine sv2 hF (v_move rfl) (v_move rfl) rfl rfl ?_; clear hF a; intro a hF
     refine sv hF ((v_addI rfl rfl (by omega)).as (show Value.int .i64 ((kn : Int) + 1) = .int .i64 ((kn + 1 : Nat) : Int) by simp)) rfl ?_; clear hF a; intro a hF
     have hcap := (hO.row (by decide)).capd
     have hvl := vls_length (kn + mn) kn bs rc
     refine sv hF (v_slLo sl28 rfl rfl (by omega) (by omega)) rfl ?_; clear hF a; intro a hF
     refine sv hF (v_lenS rfl sl28 rfl) rfl ?_; clear hF a; intro a hF
     refine sv hF (v_move rfl) rfl ?_; clear hF a; intro a hF
     refine WL_nil (hK _ _ ?_)
     clear hK K
     refine W_block ?_
     refine W_loop (fun q3 a w4 => ∃ (x : Nat), Fr 104 [(0, fv), (1, .int .i64 (kn : Int)), (8, .slice (some ⟨g, 0, none⟩) (kn + mn) cap), (71, .slice (slA (some ⟨g, 0, none⟩) (kn + 1) cap) (kn + mn - (kn + 1)) (cap - (kn + 1))), (72, .int .i64 ((kn + mn - (kn + 1) : Nat) : Int)), (73, .int .i64 (x : Int))] a ∧ (St FDx B w w4) ∧ (Fo FDx B w4 fv (some (wb, p))) ∧ (Blk w4 gr 65 [fv, .slice (some ⟨g, 0, none⟩) (kn + mn) cap]) ∧ (Gam.Own FDx B w.heap.size w4 37 (.slice (some ⟨g, 0, none⟩) (kn + mn) cap) (some g) (vls (kn + mn) kn bs rc)) ∧ (Wr FDx B w.heap.size KM w4 (kn + mn) kn bs rc (rowI hp kn mn (x) (0))) ∧ (KM ≤ w4.heap.size) ∧ (x ≤ kn + mn - (kn + 1)) ∧ (q3 + x = mn)) (mn) ?_ ?_
     ·
      skip
      exact ⟨0, hF.sub _ (c_ 0 rfl (c_ 1 rfl (c_ 8 rfl (c_ 71 rfl (c_ 72 rfl (c_ 73 rfl (n_))))))), hS, hf, hbx, hO, hW.congr (fun a _ b _ => (rowI_zero hp).symm), hKs, by omega, by omega⟩
     ·
      skip
      clear hF
      clear hS hf hbx hO hW hKs
      rintro q3 a w4 ⟨x, hF, hS, hf, hbx, hO, hW, hKs, hxm, hq3⟩
      refine W_sr rfl (fun K hK => ?_)
      refine sv hF (v_lss rfl rfl) rfl ?_; clear hF a; intro a hF
      refine WL_nil (hK _ _ ?_)
      clear hK K
      refine W_seq ?_
      refine W_if hF rfl (fun hc3 => ?_) (fun hc3 => ?_)
      ·
       skip
       try simp only [dcl] at hc3
       have hx : kn + 1 + x < kn + mn := by omega
       have hx0 := jC_ne hp hk1 hm1 h20 (r := x + 1) (j := 0) (by omega) (by omega)
       have hxb := jC_bd hp kn mn (x + 1) 0
       have hib := hp.fld.inv_lt (jC hp kn mn (x + 1) 0)
       rw [hfw] at hxb hib
       have hkr := hO.kc (by decide) (vls_at hx)
       have hsl : slA (some ⟨g, 0, none⟩) (kn + 1) cap = some ⟨g, 0 + (kn + 1), none⟩ := slA_of (by omega)
       rw [hsl] at hF
       refine W_skip ?_
       refine W_seq ?_
       refine W_block ?_
       refine W_sr rfl (fun K hK => ?_)
       refine sv hF (v_ixS sl28 rfl rfl (by omega) (by omega)) rfl ?_; clear hF a; intro a hF
       refine sv hF (v_load sc37 rfl (by rw [toNat_c, Nat.add_assoc]; exact hkr.c)) rfl ?_; clear hF a; intro a hF
       refine sv hF (v_assign rfl) rfl ?_; clear hF a; intro a hF
       refine WL_nil (hK _ _ ?_)
       clear hK K
       clear hkr
       refine W_sr rfl (fun K hK => ?_)
       refine sv2 hF (v_move rfl) (v_move rfl) rfl rfl ?_; clear hF a; intro a hF
       refine sv hF (v_ixS sl37 rfl rfl (by decide) (by omega)) rfl ?_; clear hF a; intro a hF
       refine sv hF (v_load sc3 rfl (by have h := (hW.rd hx (show 0 < kn by omega)).c; rw [rowI_at hp] at h; exact h)) rfl ?_; clear hF a; intro a hF
       refine sc hF rfl rfl rfl en46 rfl (Inv_gf B (some (wb, p)) fv ((jC hp kn mn (x + 1) 0 : Nat) : Int) _ hS.inv hf) ?_; clear hF a; intro v w' a hv hF
       obtain ⟨rfl, hS'⟩ := hv
       replace hf := hf.st hS'
       replace hO := hO.st (by decide) hS'
       replace hW := hW.st hS'
       replace hbx := hbx.st (by decide) hS'
       replace hKs := Nat.le_trans hKs hS'.ext.size
       replace hS := hS.trans hS'
       clear hS'
       rw [ginv_fld hp hxb hx0] at hF
       refine sv5 hF (v_move rfl) (v_ext rfl rfl) (v_ext rfl rfl) (v_assign rfl) (v_assign rfl) rfl rfl rfl rfl rfl ?_; clear hF a; intro a hF
       refine WL_nil (hK _ _ ?_)
       clear hK K
       replace hF := hF.sub _ (c_ 19 rfl (c_ 84 rfl (c_ 83 rfl (c_ 77 rfl (c_ 82 rfl (c_ 81 rfl (c_ 80 rfl (c_ 79 rfl (c_ 78 rfl (c_ 18 rfl (c_ 76 rfl (c_ 75 rfl (c_ 74 rfl (c_ 0 rfl (c_ 1 rfl (c_ 8 rfl (c_ 71 rfl (c_ 72 rfl (c_ 73 rfl (n_))))))))))))))))))))
       refine W_sr rfl (fun K hK => ?_)
       refine sv hF (v_move rfl) rfl ?_; clear hF a; intro a hF
       refine sv hF (v_lenS rfl sl37 rfl) rfl ?_; clear hF a; intro a hF
       refine sv hF (v_move rfl) rfl ?_; clear hF a; intro a hF
       refine WL_nil (hK _ _ ?_)
       clear hK K
       refine W_block ?_
       refine W_loop (fun q4 a w5 => ∃ (j : Nat), Fr 104 [(0, fv), (1, .int .i64 (kn : Int)), (8, .slice (some ⟨g, 0, none⟩) (kn + mn) cap), (18, .slice (some ⟨bs (kn + 1 + x), 0, none⟩) kn (rc (kn + 1 + x))), (19, .int .i64 ((hp.fld.inv (jC hp kn mn (x + 1) 0) : Nat) : Int)), (71, .slice (some ⟨g, 0 + (kn + 1), none⟩) (kn + mn - (kn + 1)) (cap - (kn + 1))), (72, .int .i64 ((kn + mn - (kn + 1) : Nat) : Int)), (73, .int .i64 (x : Int)), (85, .slice (some ⟨bs (kn + 1 + x), 0, none⟩) kn (rc (kn + 1 + x))), (86, .int .i64 (kn : Int)), (87, .int .i64 (j : Int))] a ∧ (St FDx B w w5) ∧ (Fo FDx B w5 fv (some (wb, p))) ∧ (Blk w5 gr 65 [fv, .slice (some ⟨g, 0, none⟩) (kn + mn) cap]) ∧ (Gam.Own FDx B w.heap.size w5 37 (.slice (some ⟨g, 0, none⟩) (kn + mn) cap) (some g) (vls (kn + mn) kn bs rc)) ∧ (Wr FDx B w.heap.size KM w5 (kn + mn) kn bs rc (rowI hp kn mn (x) (j))) ∧ (KM ≤ w5.heap.size) ∧ (j ≤ kn) ∧ (q4 + j = kn)) (kn) ?_ ?_
       ·
        skip
        exact ⟨0, hF.sub _ (c_ 0 rfl (c_ 1 rfl (c_ 8 rfl (c_ 18 rfl (c_ 19 rfl (c_ 71 rfl (c_ 72 rfl (c_ 73 rfl (c_ 85 rfl (c_ 86 rfl (c_ 87 rfl (n_)))))))))))), hS, hf, hbx, hO, hW, hKs, by omega, by omega⟩
       ·
        skip
        clear hF
        clear hS hf hbx hO hW hKs
        rintro q4 a w5 ⟨j, hF, hS, hf, hbx, hO, hW, hKs, hj, hq4⟩
        refine W_sr rfl (fun K hK => ?_)
        refine sv hF (v_lss rfl rfl) rfl ?_; clear hF a; intro a hF
        refine WL_nil (hK _ _ ?_)
        clear hK K
        refine W_seq ?_
        refine W_if hF rfl (fun hc4 => ?_) (fun hc4 => ?_)
        ·
         skip
         try simp only [dcl] at hc4
         have hlt : j < kn := by omega
         have hcb := jC_bd hp kn mn (x + 1) j
         rw [hfw] at hcb
         refine W_skip ?_
         refine W_seq ?_
         refine W_block ?_
         refine W_sr rfl (fun K hK => ?_)
         refine sv hF (v_move rfl) rfl ?_; clear hF a; intro a hF
         refine sv hF (v_ixS sl37 rfl rfl (by omega) (by omega)) rfl ?_; clear hF a; intro a hF
         refine sv hF (v_load sc3 rfl (by rw [toNat_c]; exact (by have h := (hW.rd hx hlt).c; rw [rowI_at hp] at h; exact h))) rfl ?_; clear hF a; intro a hF
         refine sv2 hF (v_assign rfl) (v_assign rfl) rfl rfl ?_; clear hF a; intro a hF
         refine WL_nil (hK _ _ ?_)
         clear hK K
         refine W_reg rfl (fun K hK => ?_)
         refine sv5 hF (v_move rfl) (v_move rfl) (v_move rfl) (v_move rfl) (v_move rfl) rfl rfl rfl rfl rfl ?_; clear hF a; intro a hF
         refine sc hF rfl rfl rfl en29 rfl (Mul_gf B (some (wb, p)) fv ((jC hp kn mn (x + 1) j : Nat) : Int) ((hp.fld.inv (jC hp kn mn (x + 1) 0) : Nat) : Int) _ hS.inv hf) ?_; clear hF a; intro v w' a hv hF
         obtain ⟨rfl, hS'⟩ := hv
         replace hf := hf.st hS'
         replace hO := hO.st (by decide) hS'
         replace hW := hW.st hS'
         replace hbx := hbx.st (by decide) hS'
         replace hKs := Nat.le_trans hKs hS'.ext.size
         replace hS := hS.trans hS'
         clear hS'
         rw [gmul_num hp hcb hib] at hF
         refine sv hF (v_ixS sl37 rfl rfl (by omega) (by omega)) rfl ?_; clear hF a; intro a hF
         have hR0 := hW.row _ hx
         have hge := hW.ge hx
         refine s_set (D := FDx) (B := B) hF on3 rfl (by rw [toNat_c, zints_length, trow_length]; omega) rfl rfl hR0 (by decide) hS.inv ?_; intro w' hm hI' ho'
         replace hf := hf.mb hm
         replace hO := hO.mb hm (hO.ne_type hR0 (by decide))
         replace hW := hW.set (g := rowI hp kn mn (x) (j + 1)) hx hm (ho'.cast (by rw [toNat_c, Nat.zero_add, zints_set, trow_set (g := rowI hp kn mn (x) (j + 1))]; intro l hl; exact rowI_col hp)) (fun a ha hai l hl => (rowI_ne hp hai))
         replace hbx := hbx.mb hm (hW.ne hx hKgr)
         replace hKs := Nat.le_trans hKs hm.size
         replace hS := hS.mb hm (fun k e => (hR0.lt k e).1)
         replace hR0 := ho'
         clear hm hI' ho'
         clear hR0 hge
         refine WL_nil (hK _ _ ?_)
         clear hK K
         refine W_reg rfl (fun K hK => ?_)
         refine sv hF (v_addI rfl rfl (by omega)) rfl ?_; clear hF a; intro a hF
         refine sv hF (v_move rfl) rfl ?_; clear hF a; intro a hF
         refine WL_nil (hK _ _ ?_)
         clear hK K
         exact ⟨q4 - 1, by omega, j + 1, hF.sub _ (c_ 0 rfl (c_ 1 rfl (c_ 8 rfl (c_ 18 rfl (c_ 19 rfl (c_ 71 rfl (c_ 72 rfl (c_ 73 rfl (c_ 85 rfl (c_ 86 rfl (c_ 87 rfl (n_)))))))))))), hS, hf, hbx, hO, hW, hKs, by omega, by omega⟩
        ·
         skip
         try simp only [dcl] at hc4
         have hjk : j = kn := by omega
         rw [hjk] at hW
         replace hW := hW.congr (g := rowI hp kn mn (x + 1) (0)) (fun a _ b hb => rowI_next hp hb)
         refine W_exit rfl ?_
         rw [← hsl] at hF
         refine W_reg rfl (fun K hK => ?_)
         refine sv hF (v_addI rfl rfl (by omega)) rfl ?_; clear hF a; intro a hF
         refine sv hF (v_move rfl) rfl ?_; clear hF a; intro a hF
         refine WL_nil (hK _ _ ?_)
         clear hK K
         exact ⟨q3 - 1, by omega, x + 1, hF.sub _ (c_ 0 rfl (c_ 1 rfl (c_ 8 rfl (c_ 71 rfl (c_ 72 rfl (c_ 73 rfl (n_))))))), hS, hf, hbx, hO, hW, hKs, by omega, by omega⟩
      ·
       skip
       try simp only [dcl] at hc3
       have hxe : x = mn - 1 := by omega
       rw [hxe] at hW
       have hM0 := (hW.mat (gb := g) hO (by decide)).from (lo := kn) (b := tab mn kn (parT hp kn mn)) (by rw [tab_length]; omega) (rowI_end hp hm1)
       have hcap := (hO.row (by decide)).capd
       have hvl := vls_length (kn + mn) kn bs rc
       refine W_exit rfl ?_
       refine W_sr rfl (fun K hK => ?_)
       refine sv2 hF (v_move rfl) (v_move rfl) rfl rfl ?_; clear hF a; intro a hF
       refine sv hF (v_slLo sl28 rfl rfl (by omega) (by omega)) rfl ?_; clear hF a; intro a hF
       rw [show kn + mn - kn = mn by omega] at hF
       refine sv2 hF (v_assign rfl) (v_assign rfl) rfl rfl ?_; clear hF a; intro a hF
       refine WL_nil (hK _ _ ?_)
       clear hK K
       refine W_ret ?_
       refine ⟨_, _, _, hF, rfl, rfl, ?_⟩
       exact ⟨_, _, rfl, hM0, hS⟩

end Go.Proofs.Ytaeljbdpjiciaaa

/- The statement CauchyOthers, walked: it returns true. -/
set_option linter.unusedVariables false
set_option linter.unusedSimpArgs false
namespace Go.Proofs.Ytaeljbdpjiciaaa
open Go Go.Gam


namespace FxFCauchyOthers
theorem en18 : Ent Try.prog 18 := ent Try.func18 (by kernel_rfl) (by kernel_rfl)
theorem en22 : Ent Try.prog 22 := ent Try.func22 (by kernel_rfl) (by kernel_rfl)
theorem en23 : Ent Try.prog 23 := ent Try.func23 (by kernel_rfl) (by kernel_rfl)
theorem en26 : Ent Try.prog 26 := ent Try.func26 (by kernel_rfl) (by kernel_rfl)
theorem en33 : Ent Try.prog 33 := ent Try.func33 (by kernel_rfl) (by kernel_rfl)
theorem en35 : Ent Try.prog 35 := ent Try.func35 (by kernel_rfl) (by kernel_rfl)
theorem en40 : Ent Try.prog 40 := ent Try.func40 (by kernel_rfl) (by kernel_rfl)
theorem sl28 : Sl Try.prog 28 37 (.slice none 0 0) 24 := sl_of Try.underlying28 rfl (by kernel_rfl)
end FxFCauchyOthers
open FxFCauchyOthers

set_option maxRecDepth 100000 in
set_option maxHeartbeats 1000000 in
theorem CauchyOthers_ok (B : Nat) (lg : Bool) (n0 n1 : Nat) (w : World) (hI : Inv FDx B w) (hn08 : n0 < 256) (hn18 : n1 < 256) : Ret Try.prog 13 [.bool lg, .int .u8 (n0 : Int), .int .u8 (n1 : Int)] w fun v w' => v = .bool true ∧ St FDx B w w' := by
 refine enter 127 [(0, .bool lg), (1, .int .u8 (n0 : Int)), (2, .int .u8 (n1 : Int))] 6 Try.func13 rfl rfl rfl rfl rfl ?_; intro a hF
 have hS := St.refl hI
 refine W_sr rfl (fun K hK => ?_)
 refine sv hF (v_assign rfl) rfl ?_; clear hF a; intro a hF
 refine WL_nil (hK _ _ ?_)
 clear hK K
 refine W_sr rfl (fun K hK => ?_)
 refine sc hF rfl rfl rfl en22 rfl (aw08_ok B _ hS.inv) ?_; clear hF a; intro v w' a hv hF
 obtain ⟨rfl, hS'⟩ := hv
 replace hS := hS.trans hS'
 clear hS'
 refine sv hF (v_assign rfl) rfl ?_; clear hF a; intro a hF
 refine WL_nil (hK _ _ ?_)
 clear hK K
 replace hF := hF.sub _ (c_ 7 rfl (c_ 6 rfl (c_ 0 rfl (c_ 1 rfl (c_ 2 rfl (n_))))))
 refine W_sr rfl (fun K hK => ?_)
 refine sv hF (v_move rfl) rfl ?_; clear hF a; intro a hF
 refine sv hF (v_cv Try.underlying5 Try.underlying3 rfl (wrap_i64 _ (by omega))) rfl ?_; clear hF a; intro a hF
 refine sv hF (v_remI rfl rfl (by omega) (by omega)) rfl ?_; clear hF a; intro a hF
 refine sv hF (v_addI rfl rfl (by omega)) rfl ?_; clear hF a; intro a hF
 refine sv hF (v_assign rfl) rfl ?_; clear hF a; intro a hF
 refine WL_nil (hK _ _ ?_)
 clear hK K
 replace hF := hF.sub _ (c_ 8 rfl (c_ 7 rfl (c_ 6 rfl (c_ 0 rfl (c_ 2 rfl (n_))))))
 obtain ⟨k1, hk1⟩ : ∃ n : Nat, 1 + (n0 : Int) % 8 = (n : Int) := ⟨1 + n0 % 8, by omega⟩
 have hk12 : 1 ≤ k1 ∧ k1 ≤ 8 := by omega
 rw [hk1] at hF
 refine W_sr rfl (fun K hK => ?_)
 refine sv hF (v_move rfl) rfl ?_; clear hF a; intro a hF
 refine sv hF (v_cv Try.underlying5 Try.underlying3 rfl (wrap_i64 _ (by omega))) rfl ?_; clear hF a; intro a hF
 refine sv hF (v_remI rfl rfl (by omega) (by omega)) rfl ?_; clear hF a; intro a hF
 refine sv hF (v_addI rfl rfl (by omega)) rfl ?_; clear hF a; intro a hF
 refine sv hF (v_assign rfl) rfl ?_; clear hF a; intro a hF
 refine WL_nil (hK _ _ ?_)
 clear hK K
 replace hF := hF.sub _ (c_ 9 rfl (c_ 8 rfl (c_ 7 rfl (c_ 6 rfl (c_ 0 rfl (n_))))))
 obtain ⟨m1, hm1⟩ : ∃ n : Nat, 1 + (n1 : Int) % 4 = (n : Int) := ⟨1 + n1 % 4, by omega⟩
 have hm12 : 1 ≤ m1 ∧ m1 ≤ 4 := by omega
 rw [hm1] at hF
 refine W_sr rfl (fun K hK => ?_)
 refine sv hF (v_move rfl) rfl ?_; clear hF a; intro a hF
 refine sc hF rfl rfl rfl en23 rfl (field8_ok B lg _ hS.inv) ?_; clear hF a; intro v w' a hv hF
 obtain ⟨fv, rfl, hf, hS'⟩ := hv
 obtain ⟨⟨wb, p⟩, hq⟩ : ∃ q, fq lg = q := ⟨_, rfl⟩
 have hq1 : (fq lg).1 = wb := by rw [hq]
 have hq2 : (fq lg).2 = p := by rw [hq]
 rw [hq] at hf
 rw [hq1, hq2] at hF
 clear hq1 hq2
 have hp : Prm wb p := hf.1
 replace hS := hS.trans hS'
 clear hS'
 refine sv6 hF (v_move rfl) (v_ext rfl rfl) (v_ext rfl rfl) (v_ext rfl rfl) (v_assign rfl) (v_assign rfl) rfl rfl rfl rfl rfl rfl ?_; clear hF a; intro a hF
 refine sv hF (v_assign rfl) rfl ?_; clear hF a; intro a hF
 refine WL_nil (hK _ _ ?_)
 clear hK K
 replace hF := hF.sub _ (c_ 10 rfl (c_ 9 rfl (c_ 8 rfl (c_ 7 rfl (c_ 6 rfl (n_))))))
 have hkm := And.intro hk12 hm12
 refine W_sr rfl (fun K hK => ?_)
 refine sv3 hF (v_move rfl) (v_move rfl) (v_move rfl) rfl rfl rfl ?_; clear hF a; intro a hF
 refine sc hF rfl rfl rfl en33 rfl (Orig_ok B wb p hp fv (k1 : Int) (m1 : Int) _ hS.inv hf) ?_; clear hF a; intro v w' a hv hF
 obtain ⟨obX, uX, rfl, hoX, hS'⟩ := hv
 rw [(origM_is hp (k := k1) (m := m1) (by omega) (by omega) (by omega))] at hoX hF
 try simp only [Option.getD_some, Option.getD_none] at hoX
 obtain ⟨sX, cX, rfl, hX⟩ := hoX.mat (by decide) (Nat.zero_le _)
 clear hoX
 replace hf := hf.st hS'
 replace hS := hS.trans hS'
 clear hS'
 refine sv5 hF (v_move rfl) (v_ext rfl rfl) (v_ext rfl rfl) (v_assign rfl) (v_assign rfl) rfl rfl rfl rfl rfl ?_; clear hF a; intro a hF
 refine WL_nil (hK _ _ ?_)
 clear hK K
 replace hF := hF.sub _ (c_ 13 rfl (c_ 10 rfl (c_ 9 rfl (c_ 8 rfl (c_ 7 rfl (c_ 6 rfl (n_)))))))
 refine W_sr rfl (fun K hK => ?_)
 refine sv3 hF (v_move rfl) (v_move rfl) (v_move rfl) rfl rfl rfl ?_; clear hF a; intro a hF
 refine sc hF rfl rfl rfl en35 rfl (CIsal_ok B wb p hp fv (k1 : Int) (m1 : Int) _ hS.inv hf) ?_; clear hF a; intro v w' a hv hF
 obtain ⟨obY, uY, rfl, hoY, hS'⟩ := hv
 rw [(cisaM_is hp (k := k1) (m := m1) (by omega) (by omega) (by omega))] at hoY hF
 try simp only [Option.getD_some, Option.getD_none] at hoY
 obtain ⟨sY, cY, rfl, hY⟩ := hoY.mat (by decide) (Nat.zero_le _)
 clear hoY
 replace hf := hf.st hS'
 replace hX := (hX.st hS').mono hS'.ext.size
 replace hS := hS.trans hS'
 clear hS'
 refine sv5 hF (v_move rfl) (v_ext rfl rfl) (v_ext rfl rfl) (v_assign rfl) (v_assign rfl) rfl rfl rfl rfl rfl ?_; clear hF a; intro a hF
 refine WL_nil (hK _ _ ?_)
 clear hK K
 replace hF := hF.sub _ (c_ 15 rfl (c_ 13 rfl (c_ 10 rfl (c_ 9 rfl (c_ 8 rfl (c_ 7 rfl (c_ 6 rfl (n_))))))))
 refine W_sr rfl (fun K hK => ?_)
 refine sv3 hF (v_move rfl) (v_move rfl) (v_move rfl) rfl rfl rfl ?_; clear hF a; intro a hF
 refine sc hF rfl rfl rfl en18 rfl (Parity_fit B wb p hp fv k1 m1 _ hS.inv hf (fitB_ok rfl (by omega) (by omega) (by omega))) ?_; clear hF a; intro v w' a hv hF
 obtain ⟨sZ, cZ, rfl, hZ, hS'⟩ := hv
 replace hf := hf.st hS'
 replace hX := (hX.st hS').mono hS'.ext.size
 replace hY := (hY.st hS').mono hS'.ext.size
 replace hS := hS.trans hS'
 clear hS'
 refine sv5 hF (v_move rfl) (v_ext rfl rfl) (v_ext rfl rfl) (v_assign rfl) (v_assign rfl) rfl rfl rfl rfl rfl ?_; clear hF a; intro a hF
 refine WL_nil (hK _ _ ?_)
 clear hK K
 replace hF := hF.sub _ (c_ 17 rfl (c_ 15 rfl (c_ 13 rfl (c_ 10 rfl (c_ 9 rfl (c_ 8 rfl (c_ 7 rfl (c_ 6 rfl (n_)))))))))
 refine W_sr rfl (fun K hK => ?_)
 refine sv3 hF (v_move rfl) (v_move rfl) (v_move rfl) rfl rfl rfl ?_; clear hF a; intro a hF
 refine sc hF rfl rfl rfl en40 rfl (System_ok B wb p hp fv (k1 : Int) (m1 : Int) _ hS.inv hf) ?_; clear hF a; intro v w' a hv hF
 obtain ⟨obV, uV, rfl, hoV, hS'⟩ := hv
 rw [(sysM_is hp (k := k1) (m := m1) (by omega) (by omega) (by omega))] at hoV hF
 try simp only [Option.getD_some, Option.getD_none] at hoV
 obtain ⟨sV, cV, rfl, hV⟩ := hoV.mat (by decide) (Nat.zero_le _)
 clear hoV
 replace hf := hf.st hS'
 replace hX := (hX.st hS').mono hS'.ext.size
 replace hY := (hY.st hS').mono hS'.ext.size
 replace hZ := (hZ.st hS').mono hS'.ext.size
 replace hS := hS.trans hS'
 clear hS'
 refine sv5 hF (v_move rfl) (v_ext rfl rfl) (v_ext rfl rfl) (v_assign rfl) (v_assign rfl) rfl rfl rfl rfl rfl ?_; clear hF a; intro a hF
 refine WL_nil (hK _ _ ?_)
 clear hK K
 replace hF := hF.sub _ (c_ 19 rfl (c_ 17 rfl (c_ 15 rfl (c_ 13 rfl (c_ 10 rfl (c_ 9 rfl (c_ 8 rfl (c_ 7 rfl (c_ 6 rfl (n_))))))))))
 refine W_seq ?_
 have hvl : (tab (k1 + m1) k1 (sysT hp k1)).length = k1 + m1 := tab_length _ _ _
 rw [hvl] at hF
 have hcV := hV.capd
 rw [hvl] at hcV
 have hV2 := hV.from (lo := k1) (b := tab m1 k1 fun i j => sysT hp k1 (k1 + i) j) (by rw [tab_length]; omega) (by rw [tab_drop (by omega), Nat.add_sub_cancel_left])
 have hs1 : safeM hp (tab m1 k1 (ofT hp (rnL 0 m1) (rnL m1 k1))) = (true, 0) := by rw [safeM_tab hp (ofT_bd hp _ _) (by omega) (by omega), show safeB hp m1 k1 (ofT hp (rnL 0 m1) (rnL m1 k1)) = true by have h := of_safe hp (rn_ok (a := 0) (n := m1) (b := m1) (m := k1) hp.w (by omega) (by omega) (by omega) (by omega)); rw [rnL_length, rnL_length] at h; exact h]
 have hs2 : safeM hp (tab m1 k1 (ofT hp (rnL k1 m1) (rnL 0 k1))) = (true, 0) := by rw [safeM_tab hp (ofT_bd hp _ _) (by omega) (by omega), show safeB hp m1 k1 (ofT hp (rnL k1 m1) (rnL 0 k1)) = true by have h := of_safe hp (rn_ok (a := k1) (n := m1) (b := 0) (m := k1) hp.w (by omega) (by omega) (by omega) (by omega)); rw [rnL_length, rnL_length] at h; exact h]
 have hs3 : safeM hp (tab m1 k1 (parT hp k1 m1)) = (true, 0) := by rw [safeM_tab hp (parT_bd hp k1 m1) (by omega) (by omega), par_safe hp (by omega) (by omega) (by omega)]
 have hs4 : safeM hp (tab m1 k1 fun i j => sysT hp k1 (k1 + i) j) = (true, 0) := by rw [safeM_tab hp (sys_bd2 hp k1) (by omega) (by omega), sys_safe hp (by omega) (by omega) (by omega)]
 refine W_sr rfl (fun K hK => ?_)
 refine sv hF (v_move rfl) rfl ?_; clear hF a; intro a hF
 refine sv hF (v_lenS rfl sl28 rfl) rfl ?_; clear hF a; intro a hF
 refine sv2 hF (v_move rfl) (v_move rfl) rfl rfl ?_; clear hF a; intro a hF
 refine sv hF ((v_addI rfl rfl (by omega)).as (show Value.int .i64 ((k1 : Int) + (m1 : Int)) = .int .i64 ((k1 + m1 : Nat) : Int) by simp)) rfl ?_; clear hF a; intro a hF
 refine sv hF ((v_neq rfl rfl).as (congrArg Value.bool (decide_eq_false (fun h => h rfl)))) rfl ?_; clear hF a; intro a hF
 refine WL_nil (hK _ _ ?_)
 clear hK K
 replace hF := hF.sub _ (c_ 77 rfl (c_ 19 rfl (c_ 17 rfl (c_ 15 rfl (c_ 13 rfl (c_ 10 rfl (c_ 8 rfl (c_ 7 rfl (c_ 6 rfl (n_))))))))))
 refine W_ifF hF rfl ?_
 refine W_skip ?_
 refine W_sr rfl (fun K hK => ?_)
 refine sv2 hF (v_move rfl) (v_move rfl) rfl rfl ?_; clear hF a; intro a hF
 refine sc hF rfl rfl rfl en26 rfl (Safe_ok B _ wb p hp fv _ _ (tab m1 k1 (ofT hp (rnL 0 m1) (rnL m1 k1))) _ hS.inv (Nat.le_refl _) hf hX (len20 (tab_lens (by omega) (by omega))).1 (len20 (tab_lens (by omega) (by omega))).2) ?_; clear hF a; intro v w' a hv hF
 obtain ⟨rfl, hS'⟩ := hv
 rw [hs1] at hF
 dsimp only at hF
 replace hf := hf.st hS'
 replace hY := (hY.st hS').mono hS'.ext.size
 replace hZ := (hZ.st hS').mono hS'.ext.size
 replace hV2 := (hV2.st hS').mono hS'.ext.size
 replace hS := hS.trans hS'
 clear hS'
 refine sv hF (v_move rfl) rfl ?_; clear hF a; intro a hF
 refine sv hF ((v_ext rfl rfl).as (congrArg Value.bool (rfl))) rfl ?_; clear hF a; intro a hF
 refine sv3 hF (v_ext rfl rfl) (v_assign rfl) (v_assign rfl) rfl rfl rfl ?_; clear hF a; intro a hF
 refine WL_nil (hK _ _ ?_)
 clear hK K
 replace hF := hF.sub _ (c_ 22 rfl (c_ 21 rfl (c_ 19 rfl (c_ 17 rfl (c_ 15 rfl (c_ 10 rfl (c_ 8 rfl (c_ 7 rfl (c_ 6 rfl (n_))))))))))
 refine W_sr rfl (fun K hK => ?_)
 refine sv2 hF (v_move rfl) (v_move rfl) rfl rfl ?_; clear hF a; intro a hF
 refine sc hF rfl rfl rfl en26 rfl (Safe_ok B _ wb p hp fv _ _ (tab m1 k1 (ofT hp (rnL k1 m1) (rnL 0 k1))) _ hS.inv (Nat.le_refl _) hf hY (len20 (tab_lens (by omega) (by omega))).1 (len20 (tab_lens (by omega) (by omega))).2) ?_; clear hF a; intro v w' a hv hF
 obtain ⟨rfl, hS'⟩ := hv
 rw [hs2] at hF
 dsimp only at hF
 replace hf := hf.st hS'
 replace hY := (hY.st hS').mono hS'.ext.size
 replace hZ := (hZ.st hS').mono hS'.ext.size
 replace hV2 := (hV2.st hS').mono hS'.ext.size
 replace hS := hS.trans hS'
 clear hS'
 refine sv hF (v_move rfl) rfl ?_; clear hF a; intro a hF
 refine sv hF ((v_ext rfl rfl).as (congrArg Value.bool (rfl))) rfl ?_; clear hF a; intro a hF
 refine sv3 hF (v_ext rfl rfl) (v_assign rfl) (v_assign rfl) rfl rfl rfl ?_; clear hF a; intro a hF
 refine WL_nil (hK _ _ ?_)
 clear hK K
 replace hF := hF.sub _ (c_ 24 rfl (c_ 23 rfl (c_ 22 rfl (c_ 21 rfl (c_ 19 rfl (c_ 17 rfl (c_ 10 rfl (c_ 8 rfl (c_ 7 rfl (c_ 6 rfl (n_)))))))))))
 refine W_sr rfl (fun K hK => ?_)
 refine sv2 hF (v_move rfl) (v_move rfl) rfl rfl ?_; clear hF a; intro a hF
 rw [show Value.slice sZ m1 cZ = .slice sZ (tab m1 k1 (parT hp k1 m1)).length cZ by rw [tab_length]] at hF
 refine sc hF rfl rfl rfl en26 rfl (Safe_ok B _ wb p hp fv _ _ (tab m1 k1 (parT hp k1 m1)) _ hS.inv (Nat.le_refl _) hf hZ (len20 (tab_lens (by omega) (by omega))).1 (len20 (tab_lens (by omega) (by omega))).2) ?_; clear hF a; intro v w' a hv hF
 obtain ⟨rfl, hS'⟩ := hv
 rw [hs3] at hF
 dsimp only at hF
 replace hf := hf.st hS'
 replace hY := (hY.st hS').mono hS'.ext.size
 replace hZ := (hZ.st hS').mono hS'.ext.size
 replace hV2 := (hV2.st hS').mono hS'.ext.size
 replace hS := hS.trans hS'
 clear hS'
 refine sv hF (v_move rfl) rfl ?_; clear hF a; intro a hF
 refine sv hF ((v_ext rfl rfl).as (congrArg Value.bool (rfl))) rfl ?_; clear hF a; intro a hF
 refine sv3 hF (v_ext rfl rfl) (v_assign rfl) (v_assign rfl) rfl rfl rfl ?_; clear hF a; intro a hF
 refine WL_nil (hK _ _ ?_)
 clear hK K
 replace hF := hF.sub _ (c_ 26 rfl (c_ 25 rfl (c_ 24 rfl (c_ 23 rfl (c_ 22 rfl (c_ 21 rfl (c_ 19 rfl (c_ 10 rfl (c_ 8 rfl (c_ 7 rfl (c_ 6 rfl (n_))))))))))))
 refine W_sr rfl (fun K hK => ?_)
 refine sv3 hF (v_move rfl) (v_move rfl) (v_move rfl) rfl rfl rfl ?_; clear hF a; intro a hF
 refine sv hF (v_slLo sl28 rfl rfl (by omega) (by omega)) rfl ?_; clear hF a; intro a hF
 rw [show k1 + m1 - k1 = (tab m1 k1 fun i j => sysT hp k1 (k1 + i) j).length by rw [tab_length]; omega] at hF
 refine sc hF rfl rfl rfl en26 rfl (Safe_ok B _ wb p hp fv _ _ (tab m1 k1 fun i j => sysT hp k1 (k1 + i) j) _ hS.inv (Nat.le_refl _) hf hV2 (len20 (tab_lens (by omega) (by omega))).1 (len20 (tab_lens (by omega) (by omega))).2) ?_; clear hF a; intro v w' a hv hF
 obtain ⟨rfl, hS'⟩ := hv
 rw [hs4] at hF
 dsimp only at hF
 replace hf := hf.st hS'
 replace hY := (hY.st hS').mono hS'.ext.size
 replace hZ := (hZ.st hS').mono hS'.ext.size
 replace hV2 := (hV2.st hS').mono hS'.ext.size
 replace hS := hS.trans hS'
 clear hS'
 refine sv hF (v_move rfl) rfl ?_; clear hF a; intro a hF
 refine sv hF ((v_ext rfl rfl).as (congrArg Value.bool (rfl))) rfl ?_; clear hF a; intro a hF
 refine sv3 hF (v_ext rfl rfl) (v_assign rfl) (v_assign rfl) rfl rfl rfl ?_; clear hF a; intro a hF
 refine WL_nil (hK _ _ ?_)
 clear hK K
 replace hF := hF.sub _ (c_ 28 rfl (c_ 27 rfl (c_ 26 rfl (c_ 25 rfl (c_ 24 rfl (c_ 23 rfl (c_ 22 rfl (c_ 21 rfl (c_ 7 rfl (c_ 6 rfl (n_)))))))))))
 refine W_sr rfl (fun K hK => ?_)
 refine sv2 hF (v_move rfl) (v_move rfl) rfl rfl ?_; clear hF a; intro a hF
 refine svg hF rfl ?_
 refine sv hF (v_move rfl) rfl ?_; clear hF a; intro a hF
 refine svg hF rfl ?_
 refine sv hF (v_move rfl) rfl ?_; clear hF a; intro a hF
 refine svg hF rfl ?_
 refine sv hF ((v_addI rfl rfl (by omega)).as (show Value.int .i64 (0 + 0) = .int .i64 0 from rfl)) rfl ?_; clear hF a; intro a hF
 refine svg hF rfl ?_
 refine sv hF (v_move rfl) rfl ?_; clear hF a; intro a hF
 refine svg hF rfl ?_
 refine sv hF ((v_addI rfl rfl (by omega)).as (show Value.int .i64 (0 + 0) = .int .i64 0 from rfl)) rfl ?_; clear hF a; intro a hF
 refine svg hF rfl ?_
 refine sv hF (v_move rfl) rfl ?_; clear hF a; intro a hF
 refine svg hF rfl ?_
 refine sv hF ((v_addI rfl rfl (by omega)).as (show Value.int .i64 (0 + 0) = .int .i64 0 from rfl)) rfl ?_; clear hF a; intro a hF
 refine svg hF rfl ?_
 refine sv hF ((v_eql rfl rfl).as (congrArg Value.bool (decide_eq_true (rfl)))) rfl ?_; clear hF a; intro a hF
 refine sv2 hF (v_pickT rfl rfl) (v_move rfl) rfl rfl ?_; clear hF a; intro a hF
 refine svg hF rfl ?_
 refine sv3 hF (v_move rfl) (v_pickT rfl rfl) (v_move rfl) rfl rfl rfl ?_; clear hF a; intro a hF
 refine svg hF rfl ?_
 refine sv3 hF (v_move rfl) (v_pickT rfl rfl) (v_move rfl) rfl rfl rfl ?_; clear hF a; intro a hF
 refine svg hF rfl ?_
 refine sv3 hF (v_move rfl) (v_pickT rfl rfl) (v_move rfl) rfl rfl rfl ?_; clear hF a; intro a hF
 refine svg hF rfl ?_
 refine sv3 hF (v_move rfl) (v_pickT rfl rfl) (v_assign rfl) rfl rfl rfl ?_; clear hF a; intro a hF
 refine WL_nil (hK _ _ ?_)
 clear hK K
 replace hF := hF.sub _ (c_ 6 rfl (n_))
 refine W_ret ?_
 refine ⟨_, _, hF, rfl, ?_⟩
 exact ⟨rfl, hS⟩

end Go.Proofs.Ytaeljbdpjiciaaa
