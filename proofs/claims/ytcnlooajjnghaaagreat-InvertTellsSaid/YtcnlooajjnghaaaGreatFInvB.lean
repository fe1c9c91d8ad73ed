/- The walks of package invert: rows reduced. -/
import Derived.Test.YtcnlooajjnghaaaGreatFInvA
set_option linter.unusedVariables false
set_option linter.unusedSimpArgs false
namespace Go.Proofs.YtcnlooajjnghaaaGreat
open Go Go.Gam


namespace FxFInvB
theorem en56 : Ent Tryz.prog 56 := ent Tryz.func56 (by kernel_rfl) (by kernel_rfl)
theorem hmix : Tryz.prog.follows .mixedOrders = true := by kernel_rfl
theorem on3 : Gam.One Tryz.prog 3 := by unfold Gam.One; kernel_rfl
theorem sc23 : Scalar Tryz.prog 23 := ⟨_, Tryz.underlying23, by simp, by simp⟩
theorem sc26 : Scalar Tryz.prog 26 := ⟨_, Tryz.underlying26, by simp, by simp⟩
theorem sc3 : Scalar Tryz.prog 3 := ⟨_, Tryz.underlying3, by simp, by simp⟩
theorem sc30 : Scalar Tryz.prog 30 := ⟨_, Tryz.underlying30, by simp, by simp⟩
theorem sl23 : Sl Tryz.prog 23 3 (.int .i64 0) 8 := sl_of Tryz.underlying23 rfl (by kernel_rfl)
theorem sl30 : Sl Tryz.prog 30 23 (.slice none 0 0) 24 := sl_of Tryz.underlying30 rfl (by kernel_rfl)
end FxFInvB
open FxFInvB

set_option maxRecDepth 100000 in
set_option maxHeartbeats 1000000 in
theorem clear_ok (B N KM wb p : Nat) (hp : Prm wb p) (fv : Value) (pf pa pt g cap n m : Nat) (bs rc : Nat → Nat) (f : Tb) (i t c : Nat) (w : World) (hI : Inv FDx B w) (hf : Fo FDx B w fv (some (wb, p))) (hkf : KC FDx B w ⟨pf, 0, none⟩ (fv)) (hka : KC FDx B w ⟨pa, 0, none⟩ (.slice (some ⟨g, 0, none⟩) n cap)) (hkt : KC FDx B w ⟨pt, 0, none⟩ (.int .i64 (t : Int))) (hKp : KM ≤ pf ∧ KM ≤ pa ∧ KM ≤ pt) (hO : Gam.Own FDx B N w 23 (.slice (some ⟨g, 0, none⟩) n cap) (some g) (vls n m bs rc)) (hW : Wr FDx B N KM w n m bs rc (f)) (hfb : hp.fld.Bd f) (hi : i < n) (ht : t < n) (hne : i ≠ t) (hc : c < m) (hnm : n ≤ 40 ∧ m ≤ 40) : Ret Tryz.prog 55 [.slice (some ⟨bs i, 0, none⟩) m (rc i), .int .i64 (c : Int), .pointer (some ⟨pf, 0, none⟩), .pointer (some ⟨pa, 0, none⟩), .pointer (some ⟨pt, 0, none⟩)] w fun v w' => v = .tuple #[] ∧ Gam.Own FDx B N w' 23 (.slice (some ⟨g, 0, none⟩) n cap) (some g) (vls n m bs rc) ∧ Wr FDx B N KM w' n m bs rc (hp.fld.clrF t i (f i c) m f) ∧ StZ FDx B (fun k => k = bs i) w w' := by
  refine enter0 35 [(0, .slice (some ⟨bs i, 0, none⟩) m (rc i)), (1, .int .i64 (c : Int)), (2, .pointer (some ⟨pf, 0, none⟩)), (3, .pointer (some ⟨pa, 0, none⟩)), (4, .pointer (some ⟨pt, 0, none⟩))]  Tryz.func55 rfl rfl rfl rfl rfl ?_; intro a hF
  have hS := StZ.refl (Z := fun k => k = bs i) hI
  have hfw := hp.fld_w
  refine W_sr rfl (fun K hK => ?_)
  refine sv hF (v_move rfl) rfl ?_; clear hF a; intro a hF
  refine sv hF (v_move rfl) rfl ?_; clear hF a; intro a hF
  refine sv hF (v_ixS sl23 rfl rfl (by omega) (by omega)) rfl ?_; clear hF a; intro a hF
  refine sv hF (v_load sc3 rfl (by rw [toNat_c]; exact (hW.rd hi hc).c)) rfl ?_; clear hF a; intro a hF
  refine sv hF (v_assign rfl) rfl ?_; clear hF a; intro a hF
  refine WL_nil (hK _ _ ?_)
  clear hK K
  replace hF := hF.sub _ (c_ 7 rfl (c_ 0 rfl (c_ 2 rfl (c_ 3 rfl (c_ 4 rfl (n_))))))
  refine W_sr rfl (fun K hK => ?_)
  refine sv hF (v_move rfl) rfl ?_; clear hF a; intro a hF
  refine sv hF (v_lenS rfl sl23 rfl) rfl ?_; clear hF a; intro a hF
  refine sv hF (v_move rfl) rfl ?_; clear hF a; intro a hF
  refine WL_nil (hK _ _ ?_)
  clear hK K
  replace hF := hF.sub _ (c_ 15 rfl (c_ 14 rfl (c_ 7 rfl (c_ 0 rfl (c_ 2 rfl (c_ 3 rfl (c_ 4 rfl (n_))))))))
  refine W_block ?_
  refine W_loop (fun q a w1 => ∃ (j : Nat), Fr 35 [(0, .slice (some ⟨bs i, 0, none⟩) m (rc i)), (2, .pointer (some ⟨pf, 0, none⟩)), (3, .pointer (some ⟨pa, 0, none⟩)), (4, .pointer (some ⟨pt, 0, none⟩)), (7, .int .i64 ((f i c : Nat) : Int)), (14, .int .i64 (m : Int)), (15, .int .i64 (j : Int))] a ∧ (StZ FDx B (fun k => k = bs i) w w1) ∧ (Fo FDx B w1 fv (some (wb, p))) ∧ (KC FDx B w1 ⟨pf, 0, none⟩ (fv)) ∧ (KC FDx B w1 ⟨pa, 0, none⟩ (.slice (some ⟨g, 0, none⟩) n cap)) ∧ (KC FDx B w1 ⟨pt, 0, none⟩ (.int .i64 (t : Int))) ∧ (Gam.Own FDx B N w1 23 (.slice (some ⟨g, 0, none⟩) n cap) (some g) (vls n m bs rc)) ∧ (Wr FDx B N KM w1 n m bs rc (hp.fld.clrF t i (f i c) j f)) ∧ (j ≤ m) ∧ (q + j = m)) (m) ?_ ?_
  · skip
    exact ⟨0, hF.sub _ (c_ 0 rfl (c_ 2 rfl (c_ 3 rfl (c_ 4 rfl (c_ 7 rfl (c_ 14 rfl (c_ 15 rfl (n_)))))))), hS, hf, hkf, hka, hkt, hO, hW.congr (fun a _ l _ => by unfold Fld.clrF; rw [if_neg (by omega)]), by omega, by omega⟩
  · skip
    clear hF
    clear hS hf hkf hka hkt hO hW
    rintro q a w1 ⟨j, hF, hS, hf, hkf, hka, hkt, hO, hW, hj, hq⟩
    refine W_sr rfl (fun K hK => ?_)
    refine sv hF (v_lss rfl rfl) rfl ?_; clear hF a; intro a hF
    refine WL_nil (hK _ _ ?_)
    clear hK K
    refine W_seq ?_
    refine W_if hF rfl (fun hc1 => ?_) (fun hc1 => ?_)
    · skip
      try simp only [decide_eq_true_eq, decide_eq_false_iff_not, Bool.not_eq_true', Bool.not_eq_false', Bool.not_true, Bool.not_false] at hc1
      have hlt : j < m := by omega
      have hb1 := hp.fld.clrF_bd (t := t) (i := i) (n := f i c) (J := j) hfb
      have hb2 := hfb i c
      have hb3 := hb1 t j
      have hb4 := hb1 i j
      have hb5 := hp.fld.lt (f i c) ((hp.fld.clrF t i (f i c) j f) t j)
      rw [hfw] at hb2 hb3 hb4 hb5
      have h16 : 2 ^ wb ≤ 65536 := by rcases hp.w with h | h <;> rw [h] <;> decide
      have hJt : (hp.fld.clrF t i (f i c) (j + 1) f) t j = (hp.fld.clrF t i (f i c) j f) t j := by unfold Fld.clrF; rw [if_neg (by omega), if_neg (by omega)]
      refine W_skip ?_
      refine W_seq ?_
      refine W_block ?_
      refine W_sr rfl (fun K hK => ?_)
      refine sv hF (v_move rfl) rfl ?_; clear hF a; intro a hF
      refine sv hF (v_assign rfl) rfl ?_; clear hF a; intro a hF
      refine WL_nil (hK _ _ ?_)
      clear hK K
      replace hF := hF.sub _ (c_ 8 rfl (c_ 0 rfl (c_ 2 rfl (c_ 3 rfl (c_ 4 rfl (c_ 7 rfl (c_ 14 rfl (c_ 15 rfl (n_)))))))))
      refine W_dS (fun (w2 : World) => w2.cell? ⟨pf, 0, none⟩ = some fv ∧ w2.cell? ⟨pa, 0, none⟩ = some (.slice (some ⟨g, 0, none⟩) n cap) ∧ w2.cell? ⟨pt, 0, none⟩ = some (.int .i64 (t : Int)) ∧ w2.cell? ⟨g, 0 + t, none⟩ = some (.slice (some ⟨bs t, 0, none⟩) m (rc t)) ∧ w2.cell? ⟨bs t, 0 + j, none⟩ = some (.int .i64 ((hp.fld.clrF t i (f i c) j f t j : Nat) : Int))) (m := 17) rfl hmix (fun K hK => ?_)
      have hS' := St.drew hS.inv
      replace hf := hf.st hS'
      replace hkf := hkf.st hS'
      replace hka := hka.st hS'
      replace hkt := hkt.st hS'
      replace hO := hO.st (by decide) hS'
      replace hW := hW.st hS'
      replace hS := hS.trans hS'
      clear hS'
      have hSS : (fun (w2 : World) => w2.cell? ⟨pf, 0, none⟩ = some fv ∧ w2.cell? ⟨pa, 0, none⟩ = some (.slice (some ⟨g, 0, none⟩) n cap) ∧ w2.cell? ⟨pt, 0, none⟩ = some (.int .i64 (t : Int)) ∧ w2.cell? ⟨g, 0 + t, none⟩ = some (.slice (some ⟨bs t, 0, none⟩) m (rc t)) ∧ w2.cell? ⟨bs t, 0 + j, none⟩ = some (.int .i64 ((hp.fld.clrF t i (f i c) j f t j : Nat) : Int))) _ := And.intro hkf.c (And.intro hka.c (And.intro hkt.c (And.intro (hO.kc (by decide) (vls_at ht)).c (by first | exact (hW.rd ht hlt).c | (have hct := (hW.rd ht hlt).c; rw [hJt] at hct; exact hct)))))
      refine b_v (i := 0) rfl (by kernel_rfl) hF (fun w2 hx => v_move rfl) rfl hSS ?_; clear hF a; intro a hF
      refine b_v (i := 1) rfl (by kernel_rfl) hF (fun w2 hx => v_move rfl) rfl hSS ?_; clear hF a; intro a hF
      refine b_v (i := 2) rfl (by kernel_rfl) hF (fun w2 hx => v_ixS sl23 rfl rfl (by omega) (by omega)) rfl hSS ?_; clear hF a; intro a hF
      refine b_v (i := 4) rfl (by kernel_rfl) hF (fun w2 hx => v_load sc26 rfl hx.1) rfl hSS ?_; clear hF a; intro a hF
      refine b_v (i := 5) rfl (by kernel_rfl) hF (fun w2 hx => v_move rfl) rfl hSS ?_; clear hF a; intro a hF
      refine b_v (i := 6) rfl (by kernel_rfl) hF (fun w2 hx => v_load sc30 rfl hx.2.1) rfl hSS ?_; clear hF a; intro a hF
      refine b_v (i := 7) rfl (by kernel_rfl) hF (fun w2 hx => v_load sc3 rfl hx.2.2.1) rfl hSS ?_; clear hF a; intro a hF
      refine b_v (i := 8) rfl (by kernel_rfl) hF (fun w2 hx => v_ixS sl30 rfl rfl (by omega) (by omega)) rfl hSS ?_; clear hF a; intro a hF
      refine b_v (i := 9) rfl (by kernel_rfl) hF (fun w2 hx => v_load sc23 rfl (by rw [toNat_c]; exact hx.2.2.2.1)) rfl hSS ?_; clear hF a; intro a hF
      refine b_v (i := 10) rfl (by kernel_rfl) hF (fun w2 hx => v_move rfl) rfl hSS ?_; clear hF a; intro a hF
      refine b_v (i := 11) rfl (by kernel_rfl) hF (fun w2 hx => v_ixS sl23 rfl rfl (by omega) (by omega)) rfl hSS ?_; clear hF a; intro a hF
      refine b_v (i := 12) rfl (by kernel_rfl) hF (fun w2 hx => v_load sc3 rfl (by rw [toNat_c]; exact hx.2.2.2.2)) rfl hSS ?_; clear hF a; intro a hF
      refine b_e2 (i := 3) (i' := 13) (by kernel_rfl) rfl rfl ?_ ?_
      · skip
        refine sv hF (v_load sc3 rfl (by rw [toNat_c]; exact (hW.rd hi hlt).c)) rfl ?_; clear hF a; intro a hF
        refine WL_nil ⟨hSS, ?_⟩
        refine b_e (i := 13) (by kernel_rfl) rfl ?_
        refine sc hF rfl rfl rfl en56 rfl (Mul_gf B (some (wb, p)) fv ((f i c : Nat) : Int) (((hp.fld.clrF t i (f i c) j f) t j : Nat) : Int) _ hS.inv hf) ?_; clear hF a; intro v w' a hv hF
        obtain ⟨rfl, hS'⟩ := hv
        replace hf := hf.st hS'
        replace hkf := hkf.st hS'
        replace hka := hka.st hS'
        replace hkt := hkt.st hS'
        replace hO := hO.st (by decide) hS'
        replace hW := hW.st hS'
        replace hS := hS.trans hS'
        clear hS'
        rw [gmul_num hp hb2 hb3] at hF
        clear hSS
        have hSS : (fun (w2 : World) => w2.cell? ⟨pf, 0, none⟩ = some fv ∧ w2.cell? ⟨pa, 0, none⟩ = some (.slice (some ⟨g, 0, none⟩) n cap) ∧ w2.cell? ⟨pt, 0, none⟩ = some (.int .i64 (t : Int)) ∧ w2.cell? ⟨g, 0 + t, none⟩ = some (.slice (some ⟨bs t, 0, none⟩) m (rc t)) ∧ w2.cell? ⟨bs t, 0 + j, none⟩ = some (.int .i64 ((hp.fld.clrF t i (f i c) j f t j : Nat) : Int))) _ := And.intro hkf.c (And.intro hka.c (And.intro hkt.c (And.intro (hO.kc (by decide) (vls_at ht)).c (by first | exact (hW.rd ht hlt).c | (have hct := (hW.rd ht hlt).c; rw [hJt] at hct; exact hct)))))
        refine WL_nil ⟨hSS, ?_⟩
        refine b_v (i := 14) rfl (by kernel_rfl) hF (fun w2 hx => v_xorN rfl rfl (fits_i64 (by omega)) (fits_i64 (by omega))) rfl hSS ?_; clear hF a; intro a hF
        refine b_v (i := 15) rfl (by kernel_rfl) hF (fun w2 hx => v_ixS sl23 rfl rfl (by omega) (by omega)) rfl hSS ?_; clear hF a; intro a hF
        refine b_e (i := 16) (by kernel_rfl) rfl ?_
        have hR0 := hW.row i hi
        refine s_set (D := FDx) (B := B) hF on3 rfl (by rw [toNat_c, zints_length, trow_length]; omega) rfl rfl hR0 (by decide) hS.inv ?_; intro w' hm hI' ho'
        replace hf := hf.mb hm
        replace hkf := hkf.mb hm (hW.ne hi hKp.1)
        replace hka := hka.mb hm (hW.ne hi hKp.2.1)
        replace hkt := hkt.mb hm (hW.ne hi hKp.2.2)
        replace hO := hO.mb hm (hO.ne_type hR0 (by decide))
        replace hW := hW.set (g := hp.fld.clrF t i (f i c) (j + 1) f) hi hm (ho'.cast (by rw [toNat_c, Nat.zero_add, zints_set, trow_set (g := hp.fld.clrF t i (f i c) (j + 1) f)]; intro l hl; exact Fld.clrF_at _ hne l)) (fun a ha hai l hl => by unfold Fld.clrF; rw [if_neg (by omega), if_neg (by omega)])
        replace hS := hS.mb hm (fun k e => ⟨by cases e; rfl, hR0.isrow k e⟩)
        replace hR0 := ho'
        clear hm hI' ho'
        clear hR0
        clear hSS
        have hSS : (fun (w2 : World) => w2.cell? ⟨pf, 0, none⟩ = some fv ∧ w2.cell? ⟨pa, 0, none⟩ = some (.slice (some ⟨g, 0, none⟩) n cap) ∧ w2.cell? ⟨pt, 0, none⟩ = some (.int .i64 (t : Int)) ∧ w2.cell? ⟨g, 0 + t, none⟩ = some (.slice (some ⟨bs t, 0, none⟩) m (rc t)) ∧ w2.cell? ⟨bs t, 0 + j, none⟩ = some (.int .i64 ((hp.fld.clrF t i (f i c) j f t j : Nat) : Int))) _ := And.intro hkf.c (And.intro hka.c (And.intro hkt.c (And.intro (hO.kc (by decide) (vls_at ht)).c (by first | exact (hW.rd ht hlt).c | (have hct := (hW.rd ht hlt).c; rw [hJt] at hct; exact hct)))))
        refine WL_nil ⟨hSS, ?_⟩
        refine b_done (by kernel_rfl) (hK _ _ ?_)
        clear hK K
        replace hF := hF.sub _ (c_ 0 rfl (c_ 2 rfl (c_ 3 rfl (c_ 4 rfl (c_ 7 rfl (c_ 14 rfl (c_ 15 rfl (n_))))))))
        refine W_reg rfl (fun K hK => ?_)
        refine sv hF (v_addI rfl rfl (by omega)) rfl ?_; clear hF a; intro a hF
        refine sv hF (v_move rfl) rfl ?_; clear hF a; intro a hF
        refine WL_nil (hK _ _ ?_)
        clear hK K
        exact ⟨q - 1, by omega, j + 1, hF.sub _ (c_ 0 rfl (c_ 2 rfl (c_ 3 rfl (c_ 4 rfl (c_ 7 rfl (c_ 14 rfl (c_ 15 rfl (n_)))))))), hS, hf, hkf, hka, hkt, hO, hW, by omega, by omega⟩
      · skip
        refine sc hF rfl rfl rfl en56 rfl (Mul_gf B (some (wb, p)) fv ((f i c : Nat) : Int) (((hp.fld.clrF t i (f i c) j f) t j : Nat) : Int) _ hS.inv hf) ?_; clear hF a; intro v w' a hv hF
        obtain ⟨rfl, hS'⟩ := hv
        replace hf := hf.st hS'
        replace hkf := hkf.st hS'
        replace hka := hka.st hS'
        replace hkt := hkt.st hS'
        replace hO := hO.st (by decide) hS'
        replace hW := hW.st hS'
        replace hS := hS.trans hS'
        clear hS'
        rw [gmul_num hp hb2 hb3] at hF
        clear hSS
        have hSS : (fun (w2 : World) => w2.cell? ⟨pf, 0, none⟩ = some fv ∧ w2.cell? ⟨pa, 0, none⟩ = some (.slice (some ⟨g, 0, none⟩) n cap) ∧ w2.cell? ⟨pt, 0, none⟩ = some (.int .i64 (t : Int)) ∧ w2.cell? ⟨g, 0 + t, none⟩ = some (.slice (some ⟨bs t, 0, none⟩) m (rc t)) ∧ w2.cell? ⟨bs t, 0 + j, none⟩ = some (.int .i64 ((hp.fld.clrF t i (f i c) j f t j : Nat) : Int))) _ := And.intro hkf.c (And.intro hka.c (And.intro hkt.c (And.intro (hO.kc (by decide) (vls_at ht)).c (by first | exact (hW.rd ht hlt).c | (have hct := (hW.rd ht hlt).c; rw [hJt] at hct; exact hct)))))
        refine WL_nil ⟨hSS, ?_⟩
        refine b_e (i := 3) (by kernel_rfl) rfl ?_
        refine sv hF (v_load sc3 rfl (by rw [toNat_c]; exact (hW.rd hi hlt).c)) rfl ?_; clear hF a; intro a hF
        refine WL_nil ⟨hSS, ?_⟩
        refine b_v (i := 14) rfl (by kernel_rfl) hF (fun w2 hx => v_xorN rfl rfl (fits_i64 (by omega)) (fits_i64 (by omega))) rfl hSS ?_; clear hF a; intro a hF
        refine b_v (i := 15) rfl (by kernel_rfl) hF (fun w2 hx => v_ixS sl23 rfl rfl (by omega) (by omega)) rfl hSS ?_; clear hF a; intro a hF
        refine b_e (i := 16) (by kernel_rfl) rfl ?_
        have hR0 := hW.row i hi
        refine s_set (D := FDx) (B := B) hF on3 rfl (by rw [toNat_c, zints_length, trow_length]; omega) rfl rfl hR0 (by decide) hS.inv ?_; intro w' hm hI' ho'
        replace hf := hf.mb hm
        replace hkf := hkf.mb hm (hW.ne hi hKp.1)
        replace hka := hka.mb hm (hW.ne hi hKp.2.1)
        replace hkt := hkt.mb hm (hW.ne hi hKp.2.2)
        replace hO := hO.mb hm (hO.ne_type hR0 (by decide))
        replace hW := hW.set (g := hp.fld.clrF t i (f i c) (j + 1) f) hi hm (ho'.cast (by rw [toNat_c, Nat.zero_add, zints_set, trow_set (g := hp.fld.clrF t i (f i c) (j + 1) f)]; intro l hl; exact Fld.clrF_at _ hne l)) (fun a ha hai l hl => by unfold Fld.clrF; rw [if_neg (by omega), if_neg (by omega)])
        replace hS := hS.mb hm (fun k e => ⟨by cases e; rfl, hR0.isrow k e⟩)
        replace hR0 := ho'
        clear hm hI' ho'
        clear hR0
        clear hSS
        have hSS : (fun (w2 : World) => w2.cell? ⟨pf, 0, none⟩ = some fv ∧ w2.cell? ⟨pa, 0, none⟩ = some (.slice (some ⟨g, 0, none⟩) n cap) ∧ w2.cell? ⟨pt, 0, none⟩ = some (.int .i64 (t : Int)) ∧ w2.cell? ⟨g, 0 + t, none⟩ = some (.slice (some ⟨bs t, 0, none⟩) m (rc t)) ∧ w2.cell? ⟨bs t, 0 + j, none⟩ = some (.int .i64 ((hp.fld.clrF t i (f i c) j f t j : Nat) : Int))) _ := And.intro hkf.c (And.intro hka.c (And.intro hkt.c (And.intro (hO.kc (by decide) (vls_at ht)).c (by first | exact (hW.rd ht hlt).c | (have hct := (hW.rd ht hlt).c; rw [hJt] at hct; exact hct)))))
        refine WL_nil ⟨hSS, ?_⟩
        refine b_done (by kernel_rfl) (hK _ _ ?_)
        clear hK K
        replace hF := hF.sub _ (c_ 0 rfl (c_ 2 rfl (c_ 3 rfl (c_ 4 rfl (c_ 7 rfl (c_ 14 rfl (c_ 15 rfl (n_))))))))
        refine W_reg rfl (fun K hK => ?_)
        refine sv hF (v_addI rfl rfl (by omega)) rfl ?_; clear hF a; intro a hF
        refine sv hF (v_move rfl) rfl ?_; clear hF a; intro a hF
        refine WL_nil (hK _ _ ?_)
        clear hK K
        exact ⟨q - 1, by omega, j + 1, hF.sub _ (c_ 0 rfl (c_ 2 rfl (c_ 3 rfl (c_ 4 rfl (c_ 7 rfl (c_ 14 rfl (c_ 15 rfl (n_)))))))), hS, hf, hkf, hka, hkt, hO, hW, by omega, by omega⟩
    · skip
      try simp only [decide_eq_true_eq, decide_eq_false_iff_not, Bool.not_eq_true', Bool.not_eq_false', Bool.not_true, Bool.not_false] at hc1
      refine W_exit rfl ?_
      refine ⟨_, hF, ?_⟩
      obtain rfl : j = m := by omega
      exact ⟨rfl, hO, hW, hS⟩

set_option maxRecDepth 100000 in
set_option maxHeartbeats 1000000 in
theorem red2_ok (B M pc c : Nat) (pr : Option Addr) (cr : Nat) (r : List Int) (w : World) (hI : Inv FDx B w) (hrow : Row FDx B M w (.slice pr r.length cr) (zints r)) (hkc : KC FDx B w ⟨pc, 0, none⟩ (.int .i64 (c : Int))) (hc : c < r.length) (hcl : c ≤ 40) : Ret Tryz.prog 58 [.slice pr r.length cr, .pointer (some ⟨pc, 0, none⟩)] w fun v w' => v = .bool (decide (r.getD c 0 ≠ 0)) ∧ St FDx B w w' := by
  refine enter 9 [(0, .slice pr r.length cr), (1, .pointer (some ⟨pc, 0, none⟩))] 3 Tryz.func58 rfl rfl rfl rfl rfl ?_; intro a hF
  have hS := St.refl hI
  obtain ⟨x, hx⟩ : ∃ z, r[c]? = some z := ⟨_, List.getElem?_eq_getElem hc⟩
  obtain ⟨gx, ox, hgx, hkx, -⟩ := hrow.kat (zints_at hx)
  subst hgx
  refine W_sr rfl (fun K hK => ?_)
  refine sv hF (v_assign rfl) rfl ?_; clear hF a; intro a hF
  refine WL_nil (hK _ _ ?_)
  clear hK K
  refine W_sr rfl (fun K hK => ?_)
  refine sv hF (v_move rfl) rfl ?_; clear hF a; intro a hF
  refine sv hF (v_load sc3 rfl hkc.c) rfl ?_; clear hF a; intro a hF
  refine sv hF (v_ixS sl23 rfl rfl (by omega) (by omega)) rfl ?_; clear hF a; intro a hF
  refine sv hF (v_load sc3 rfl (by rw [toNat_c]; exact hkx.c)) rfl ?_; clear hF a; intro a hF
  refine sv hF (v_neq rfl rfl) rfl ?_; clear hF a; intro a hF
  refine sv hF (v_assign rfl) rfl ?_; clear hF a; intro a hF
  refine WL_nil (hK _ _ ?_)
  clear hK K
  replace hF := hF.sub _ (c_ 3 rfl (n_))
  refine W_ret ?_
  refine ⟨_, _, hF, rfl, ?_⟩
  exact ⟨by rw [getD_at hx], hS⟩

end Go.Proofs.YtcnlooajjnghaaaGreat
