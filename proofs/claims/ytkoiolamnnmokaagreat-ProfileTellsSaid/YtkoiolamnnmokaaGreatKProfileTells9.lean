/- Texts of the claim ProfileTells (part 9), put together in the order of their imports. -/
import Derived.Test.YtkoiolamnnmokaaGreatKProfileTells8
/- The walks of package jvan: columns. -/
set_option linter.unusedVariables false
set_option linter.unusedSimpArgs false
namespace Go.Proofs.YtkoiolamnnmokaaGreat
open Go Go.Gam
namespace FxFJvb
theorem en51 : Ent Tryz.prog 51 := ent Tryz.func51 (by kernel_rfl) (by kernel_rfl)
theorem fa96_0 : FieldFact Tryz.prog 96 0 0 := ff_of (sz := 0) Tryz.underlying96 (by kernel_rfl)
theorem fa96_1 : FieldFact Tryz.prog 96 1 1 := ff_of (sz := 0) Tryz.underlying96 (by kernel_rfl)
theorem hmix : Tryz.prog.follows .mixedOrders = true := by kernel_rfl
theorem on3 : Gam.One Tryz.prog 3 := by unfold Gam.One; kernel_rfl
theorem sc3 : Scalar Tryz.prog 3 := ⟨_, Tryz.underlying3, by simp, by simp⟩
theorem sc36 : Scalar Tryz.prog 36 := ⟨_, Tryz.underlying36, by simp, by simp⟩
theorem sc42 : Scalar Tryz.prog 42 := ⟨_, Tryz.underlying42, by simp, by simp⟩
theorem sc53 : Scalar Tryz.prog 53 := ⟨_, Tryz.underlying53, by simp, by simp⟩
theorem sl36 : Sl Tryz.prog 36 53 (.slice none 0 0) 24 := sl_of Tryz.underlying36 rfl (by kernel_rfl)
theorem sl53 : Sl Tryz.prog 53 3 (.int .i64 0) 8 := sl_of Tryz.underlying53 rfl (by kernel_rfl)
end FxFJvb
open FxFJvb
set_option maxRecDepth 100000 in
set_option maxHeartbeats 1000000 in
theorem scale_ok (B N KM wb p : Nat) (hp : Prm wb p) (fv : Value) (g cap n k : Nat) (bs rc : Nat → Nat) (f : Tb) (fr j c : Nat) (w : World) (hI : Inv FDx B w) (hf : Fo FDx B w fv (some (wb, p))) (hO : Gam.Own FDx B N w 53 (.slice (some ⟨g, 0, none⟩) n cap) (some g) (vls n k bs rc)) (hW : Wr FDx B N KM w n k bs rc (f)) (hKM : KM ≤ w.heap.size) (hNM : N ≤ KM) (hfb : hp.fld.Bd f) (hnk : n ≤ 20 ∧ k ≤ 20) (hfr : fr < n) (hj : j < k) (hc : c < 2 ^ wb) : Ret Tryz.prog 50 [.agg #[fv, .slice (some ⟨g, 0, none⟩) n cap], .int .i64 (fr : Int), .int .i64 (j : Int), .int .i64 (c : Int)] w fun v w' => v = .tuple #[] ∧ Gam.Own FDx B N w' 53 (.slice (some ⟨g, 0, none⟩) n cap) (some g) (vls n k bs rc) ∧ Wr FDx B N KM w' n k bs rc (hp.fld.scC fr j c n f) ∧ StZ FDx B (fun x => N ≤ x ∧ x < KM) w w' := by
 refine enter0 31 [(0, .agg #[fv, .slice (some ⟨g, 0, none⟩) n cap]), (1, .int .i64 (fr : Int)), (2, .int .i64 (j : Int)), (3, .int .i64 (c : Int))]  Tryz.func50 rfl rfl rfl rfl rfl ?_; intro a hF
 have hS := StZ.refl (Z := (fun x => N ≤ x ∧ x < KM)) hI
 have hfw := hp.fld_w
 have h16 : 2 ^ wb ≤ 65536 := by rcases hp.w with h | h <;> rw [h] <;> decide
 refine W_sr rfl fun K hK => ?_
 obtain ⟨gr, hgr⟩ : ∃ x, x = w.heap.size := ⟨_, rfl⟩
 have hKgr : KM ≤ gr := by omega
 refine s_box (D := FDx) (B := B) hF rfl (by decide) hS.inv rfl ?_; clear hF a; intro w' a hm hbx hsz hF
 replace hf := hf.mb hm
 replace hO := hO.mb hm (fun _ _ => by simp)
 replace hW := hW.mb0 hm
 replace hS := hS.mb0 hm
 clear hm
 rw [← hgr] at hbx hF
 refine wn hK ?_
 clear hK K
 replace hF := hF.sub _ (c_ 4 rfl (c_ 1 rfl (c_ 2 rfl (c_ 3 rfl (n_)))))
 refine W_sr rfl fun K hK => ?_
 refine sv3 hF (v_fieldAddr fa96_1 rfl) (v_load sc36 rfl (hbx.at 1 rfl)) (v_move rfl) rfl rfl rfl ?_; clear hF a; intro a hF
 have hcap := (hO.row (by decide)).capd
 have hvl := vls_length n k bs rc
 refine sv3w hK hF (v_slLo sl36 rfl rfl (by omega) (by omega)) (v_lenS rfl sl36 rfl) (v_move rfl) rfl rfl rfl ?_; clear hF a hK K; intro a hF
 replace hF := hF.sub _ (c_ 15 rfl (c_ 14 rfl (c_ 13 rfl (c_ 4 rfl (c_ 2 rfl (c_ 3 rfl (n_)))))))
 refine W_block ?_
 refine W_loop (fun q a w1 => ∃ (l : Nat), Fr 31 [(2, .int .i64 (j : Int)), (3, .int .i64 (c : Int)), (4, .pointer (some ⟨gr, 0, none⟩)), (13, .slice (slA (some ⟨g, 0, none⟩) fr cap) (n - fr) (cap - fr)), (14, .int .i64 ((n - fr : Nat) : Int)), (15, .int .i64 (l : Int))] a ∧ (StZ FDx B (fun x => N ≤ x ∧ x < KM) w w1) ∧ (Fo FDx B w1 fv (some (wb, p))) ∧ (Blk w1 gr 96 [fv, .slice (some ⟨g, 0, none⟩) n cap]) ∧ (Gam.Own FDx B N w1 53 (.slice (some ⟨g, 0, none⟩) n cap) (some g) (vls n k bs rc)) ∧ (Wr FDx B N KM w1 n k bs rc (hp.fld.scC fr j c (fr + l) f)) ∧ (l ≤ n - fr) ∧ (q + l = n - fr)) (n - fr) ?_ ?_
 ·
  skip
  exact ⟨0, hF.sub _ (c_ 2 rfl (c_ 3 rfl (c_ 4 rfl (c_ 13 rfl (c_ 14 rfl (c_ 15 rfl (n_))))))), hS, hf, hbx, hO, hW.congr (fun a _ b _ => hp.fld.scC_zero.symm), by omega, by omega⟩
 ·
  skip
  clear hF
  clear hS hf hbx hO hW
  rintro q a w1 ⟨l, hF, hS, hf, hbx, hO, hW, hl, hq⟩
  refine W_sr rfl fun K hK => ?_
  refine svw hK hF (v_lss rfl rfl) rfl ?_; clear hF a hK K; intro a hF
  refine W_seq ?_
  refine W_if hF rfl (fun hc1 => ?_) (fun hc1 => ?_)
  ·
   skip
   try simp only [dcl] at hc1
   have hlt : l < n - fr := by omega
   have hx : fr + l < n := by omega
   have hb1 := hp.fld.scC_bd (fr := fr) (j := j) (c := c) (x := fr + l) hfb (fr + l) j
   rw [hfw] at hb1
   have hkr := hO.kc (by decide) (vls_at hx)
   have hsl : slA (some ⟨g, 0, none⟩) fr cap = some ⟨g, 0 + fr, none⟩ := slA_of (by omega)
   rw [hsl] at hF
   refine W_skip ?_
   refine W_seq ?_
   refine W_block ?_
   refine W_sr rfl fun K hK => ?_
   refine sv hF (v_ixS sl36 rfl rfl (by omega) (by omega)) rfl ?_; clear hF a; intro a hF
   refine sv hF (v_load sc53 rfl (by rw [toNat_c, Nat.add_assoc]; exact hkr.c)) rfl ?_; clear hF a; intro a hF
   refine svw hK hF (v_assign rfl) rfl ?_; clear hF a hK K; intro a hF
   replace hF := hF.sub _ (c_ 9 rfl (c_ 2 rfl (c_ 3 rfl (c_ 4 rfl (c_ 13 rfl (c_ 14 rfl (c_ 15 rfl (n_))))))))
   clear hkr
   refine W_dS (fun (w2 : World) => w2.cell? ⟨gr, 0, none⟩ = some fv) (m := 12) rfl hmix (fun K hK => ?_)
   have hS' := St.drew hS.inv
   replace hf := hf.st hS'
   replace hO := hO.st (by decide) hS'
   replace hW := hW.st hS'
   replace hbx := hbx.st (by decide) hS'
   replace hS := hS.trans hS'
   clear hS'
   have hSS : (fun (w2 : World) => w2.cell? ⟨gr, 0, none⟩ = some fv) _ := hbx.at 0 rfl
   refine b_v (i := 0) rfl (by kernel_rfl) hF (fun w2 hx => v_move rfl) rfl hSS ?_; clear hF a; intro a hF
   refine b_v (i := 1) rfl (by kernel_rfl) hF (fun w2 hx => v_move rfl) rfl hSS ?_; clear hF a; intro a hF
   refine b_v (i := 2) rfl (by kernel_rfl) hF (fun w2 hx => v_fieldAddr fa96_0 rfl) rfl hSS ?_; clear hF a; intro a hF
   refine b_v (i := 3) rfl (by kernel_rfl) hF (fun w2 hx => v_load sc42 rfl hx) rfl hSS ?_; clear hF a; intro a hF
   refine b_v (i := 4) rfl (by kernel_rfl) hF (fun w2 hx => v_move rfl) rfl hSS ?_; clear hF a; intro a hF
   refine b_v (i := 5) rfl (by kernel_rfl) hF (fun w2 hx => v_move rfl) rfl hSS ?_; clear hF a; intro a hF
   refine b_v (i := 6) rfl (by kernel_rfl) hF (fun w2 hx => v_ixS sl53 rfl rfl (by omega) (by omega)) rfl hSS ?_; clear hF a; intro a hF
   refine b_v (i := 8) rfl (by kernel_rfl) hF (fun w2 hx => v_move rfl) rfl hSS ?_; clear hF a; intro a hF
   refine b_e (i := 7) (by kernel_rfl) rfl ?_
   refine sv hF (v_load sc3 rfl (by rw [toNat_c]; exact (hW.rd hx hj).c)) rfl ?_; clear hF a; intro a hF
   refine WL_nil ⟨hSS, ?_⟩
   refine b_e (i := 9) (by kernel_rfl) rfl ?_
   refine sc hF rfl rfl rfl en51 rfl (Mul_gf B (some (wb, p)) fv (((hp.fld.scC fr j c (fr + l) f) (fr + l) j : Nat) : Int) (c : Int) _ hS.inv hf) ?_; clear hF a; intro v w' a hv hF
   obtain ⟨rfl, hS'⟩ := hv
   replace hf := hf.st hS'
   replace hO := hO.st (by decide) hS'
   replace hW := hW.st hS'
   replace hbx := hbx.st (by decide) hS'
   replace hS := hS.trans hS'
   clear hS'
   rw [gmul_num hp hb1 hc] at hF
   clear hSS
   have hSS : (fun (w2 : World) => w2.cell? ⟨gr, 0, none⟩ = some fv) _ := hbx.at 0 rfl
   refine WL_nil ⟨hSS, ?_⟩
   refine b_v (i := 10) rfl (by kernel_rfl) hF (fun w2 hx => v_ixS sl53 rfl rfl (by omega) (by omega)) rfl hSS ?_; clear hF a; intro a hF
   refine b_e (i := 11) (by kernel_rfl) rfl ?_
   have hR0 := hW.row _ hx
   have hge := hW.ge hx
   refine s_set (D := FDx) (B := B) hF on3 rfl (by rw [toNat_c, zints_length, trow_length]; omega) rfl rfl hR0 (by decide) hS.inv ?_; intro w' hm hI' ho'
   replace hf := hf.mb hm
   replace hO := hO.mb hm (hO.ne_type hR0 (by decide))
   replace hW := hW.set (g := hp.fld.scC fr j c (fr + l + 1) f) hx hm (ho'.cast (by rw [toNat_c, Nat.zero_add, zints_set, trow_set (g := hp.fld.scC fr j c (fr + l + 1) f)]; intro l hl; exact hp.fld.scC_at (by omega))) (fun a ha hai l hl => (hp.fld.scC_ne hai))
   replace hbx := hbx.mb hm (hW.ne hx hKgr)
   replace hS := hS.mb hm (fun k e => ⟨by cases e; exact ⟨hge.1, hW.lt _ hx⟩, hR0.isrow k e⟩)
   replace hR0 := ho'
   clear hm hI' ho'
   clear hR0 hge
   clear hSS
   have hSS : (fun (w2 : World) => w2.cell? ⟨gr, 0, none⟩ = some fv) _ := hbx.at 0 rfl
   refine WL_nil ⟨hSS, ?_⟩
   refine b_done (by kernel_rfl) (hK _ _ ?_)
   clear hK K
   replace hF := hF.sub _ (c_ 2 rfl (c_ 3 rfl (c_ 4 rfl (c_ 13 rfl (c_ 14 rfl (c_ 15 rfl (n_)))))))
   rw [← hsl] at hF
   refine W_reg rfl fun K hK => ?_
   refine sv2w hK hF (v_addI rfl rfl (by omega)) (v_move rfl) rfl rfl ?_; clear hF a hK K; intro a hF
   exact ⟨q - 1, by omega, l + 1, hF.sub _ (c_ 2 rfl (c_ 3 rfl (c_ 4 rfl (c_ 13 rfl (c_ 14 rfl (c_ 15 rfl (n_))))))), hS, hf, hbx, hO, hW, by omega, by omega⟩
  ·
   skip
   try simp only [dcl] at hc1
   refine W_exit rfl ?_
   refine ⟨_, hF, ?_⟩
   obtain rfl : l = n - fr := by omega
   rw [show fr + (n - fr) = n by omega] at hW
   exact ⟨rfl, hO, hW, hS⟩
set_option maxRecDepth 100000 in
set_option maxHeartbeats 1000000 in
theorem jclear_ok (B N KM wb p : Nat) (hp : Prm wb p) (fv : Value) (g cap n k : Nat) (bs rc : Nat → Nat) (f : Tb) (i : Nat) (w : World) (hI : Inv FDx B w) (hf : Fo FDx B w fv (some (wb, p))) (hO : Gam.Own FDx B N w 53 (.slice (some ⟨g, 0, none⟩) n cap) (some g) (vls n k bs rc)) (hW : Wr FDx B N KM w n k bs rc (f)) (hKM : KM ≤ w.heap.size) (hNM : N ≤ KM) (hfb : hp.fld.Bd f) (hnk : n ≤ 20 ∧ k ≤ 20) (hi : i < k) (hin : i < n) : Ret Tryz.prog 81 [.agg #[fv, .slice (some ⟨g, 0, none⟩) n cap], .int .i64 (i : Int)] w fun v w' => v = .tuple #[] ∧ Gam.Own FDx B N w' 53 (.slice (some ⟨g, 0, none⟩) n cap) (some g) (vls n k bs rc) ∧ Wr FDx B N KM w' n k bs rc (hp.fld.clC i (k) (0) f) ∧ StZ FDx B (fun x => N ≤ x ∧ x < KM) w w' := by
 refine enter0 49 [(0, .agg #[fv, .slice (some ⟨g, 0, none⟩) n cap]), (1, .int .i64 (i : Int))]  Tryz.func81 rfl rfl rfl rfl rfl ?_; intro a hF
 have hS := StZ.refl (Z := (fun x => N ≤ x ∧ x < KM)) hI
 have hfw := hp.fld_w
 have h16 : 2 ^ wb ≤ 65536 := by rcases hp.w with h | h <;> rw [h] <;> decide
 refine W_sr rfl fun K hK => ?_
 obtain ⟨gr, hgr⟩ : ∃ x, x = w.heap.size := ⟨_, rfl⟩
 have hKgr : KM ≤ gr := by omega
 refine s_box (D := FDx) (B := B) hF rfl (by decide) hS.inv rfl ?_; clear hF a; intro w' a hm hbx hsz hF
 replace hf := hf.mb hm
 replace hO := hO.mb hm (fun _ _ => by simp)
 replace hW := hW.mb0 hm
 replace hS := hS.mb0 hm
 clear hm
 rw [← hgr] at hbx hF
 refine wn hK ?_
 clear hK K
 replace hF := hF.sub _ (c_ 2 rfl (c_ 1 rfl (n_)))
 refine W_sr rfl fun K hK => ?_
 have hs0 := hS.ext.size
 refine s_bs (D := FDx) (B := B) hF sl53 rfl rfl (by decide) (by simp [Value.cells]) (by decide) hS.inv rfl ?_; clear hF a; intro w' a hm hI' hC hF
 replace hf := hf.mb hm
 replace hO := hO.mb hm (fun _ _ => by simp)
 replace hW := hW.mb0 hm
 replace hbx := hbx.mb hm (by simp)
 replace hS := hS.mb0 hm
 clear hm hI'
 replace hC := hC.le hs0
 clear hs0
 refine sv4 hF (v_fieldAddr fa96_1 rfl) (v_load sc36 rfl (hbx.at 1 rfl)) (v_move rfl) (v_ixS sl36 rfl rfl (by omega) (by omega)) rfl rfl rfl rfl ?_; clear hF a; intro a hF
 have hkr := hO.kc (by decide) (vls_at hin)
 refine sv hF (v_load sc53 rfl (by rw [toNat_c]; exact hkr.c)) rfl ?_; clear hF a; intro a hF
 clear hkr
 refine s_app (D := FDx) (B := B) hF rfl sl53 rfl rfl hC (((hW.row i hin).row (by decide))) (by intro u hu; obtain ⟨_, _, rfl⟩ := List.mem_map.1 hu; rfl) (by simp; omega) (by simp [maxLen]; omega) (hS.ext.size) (by decide) hS.inv rfl ?_; clear hF a; intro v' b' w' a ho' hm hI' hb' hF
 replace hf := hf.mb hm
 replace hO := hO.mb hm (hO.ne_type hC (by decide))
 replace hW := hW.mbx hm (fun k e => Nat.le_trans hKM (hC.lt k e).1)
 replace hbx := hbx.mb hm (Blk.ne_own hbx hC (by decide))
 replace hS := hS.mbn hm (fun k e => ⟨(hC.lt k e).1, hC.isrow k e⟩)
 replace hC := ho'
 clear hm hI' ho'
 refine svw hK hF (v_assign rfl) rfl ?_; clear hF a hK K; intro a hF
 replace hF := hF.sub _ (c_ 4 rfl (c_ 2 rfl (c_ 1 rfl (n_))))
 replace hC := hC.cast (List.nil_append _)
 obtain ⟨gc, cc, rfl, rfl⟩ := hC.ptr (by simp; omega)
 rw [zints_length, trow_length] at hC hF
 have hKgc : KM ≤ gc := Nat.le_trans hKM (hC.lt _ rfl).1
 refine W_sr rfl fun K hK => ?_
 refine sv3w hK hF (v_move rfl) (v_lenS rfl sl53 rfl) (v_move rfl) rfl rfl rfl ?_; clear hF a hK K; intro a hF
 replace hF := hF.sub _ (c_ 18 rfl (c_ 17 rfl (c_ 16 rfl (c_ 2 rfl (c_ 1 rfl (n_))))))
 refine W_block ?_
 refine W_loop (fun q a w1 => ∃ (j : Nat), Fr 49 [(1, .int .i64 (i : Int)), (2, .pointer (some ⟨gr, 0, none⟩)), (16, .slice (some ⟨gc, 0, none⟩) k cc), (17, .int .i64 (k : Int)), (18, .int .i64 (j : Int))] a ∧ (StZ FDx B (fun x => N ≤ x ∧ x < KM) w w1) ∧ (Fo FDx B w1 fv (some (wb, p))) ∧ (Blk w1 gr 96 [fv, .slice (some ⟨g, 0, none⟩) n cap]) ∧ (Gam.Own FDx B N w1 53 (.slice (some ⟨g, 0, none⟩) n cap) (some g) (vls n k bs rc)) ∧ (Wr FDx B N KM w1 n k bs rc (hp.fld.clC i (j) (0) f)) ∧ (Gam.Own FDx B w.heap.size w1 FDx.E (.slice (some ⟨gc, 0, none⟩) k cc) (some gc) (zints (trow k f i))) ∧ (j ≤ k) ∧ (q + j = k)) (k) ?_ ?_
 ·
  skip
  exact ⟨0, hF.sub _ (c_ 1 rfl (c_ 2 rfl (c_ 16 rfl (c_ 17 rfl (c_ 18 rfl (n_)))))), hS, hf, hbx, hO, hW.congr (fun a _ b _ => hp.fld.clC_zero.symm), hC, by omega, by omega⟩
 ·
  skip
  clear hF
  clear hS hf hbx hO hW hC
  rintro q a w1 ⟨j, hF, hS, hf, hbx, hO, hW, hC, hj, hq⟩
  refine W_sr rfl fun K hK => ?_
  refine svw hK hF (v_lss rfl rfl) rfl ?_; clear hF a hK K; intro a hF
  refine W_seq ?_
  refine W_if hF rfl (fun hc1 => ?_) (fun hc1 => ?_)
  ·
   skip
   try simp only [dcl] at hc1
   have hlt : j < k := by omega
   refine W_skip ?_
   refine W_seq ?_
   refine W_block ?_
   refine W_sr rfl fun K hK => ?_
   refine sv2 hF (v_move rfl) (v_ixS sl53 rfl rfl (by omega) (by omega)) rfl rfl ?_; clear hF a; intro a hF
   refine sv hF (v_load sc3 rfl (by rw [toNat_c]; exact (hC.kc (by decide) (zints_at (trow_at (f := f) (i := i) hlt))).c)) rfl ?_; clear hF a; intro a hF
   refine sv2w hK hF (v_assign rfl) (v_assign rfl) rfl rfl ?_; clear hF a hK K; intro a hF
   replace hF := hF.sub _ (c_ 6 rfl (c_ 5 rfl (c_ 1 rfl (c_ 2 rfl (c_ 16 rfl (c_ 17 rfl (c_ 18 rfl (n_))))))))
   refine W_sr rfl fun K hK => ?_
   refine sv4w hK hF (v_fieldAddr fa96_1 rfl) (v_load sc36 rfl (hbx.at 1 rfl)) (v_lenS rfl sl36 rfl) (v_move rfl) rfl rfl rfl rfl ?_; clear hF a hK K; intro a hF
   replace hF := hF.sub _ (c_ 26 rfl (c_ 25 rfl (c_ 24 rfl (c_ 6 rfl (c_ 5 rfl (c_ 1 rfl (c_ 2 rfl (c_ 16 rfl (c_ 17 rfl (c_ 18 rfl (n_)))))))))))
   refine W_block ?_
   refine W_loop (fun q2 a w3 => ∃ (x : Nat), Fr 49 [(1, .int .i64 (i : Int)), (2, .pointer (some ⟨gr, 0, none⟩)), (5, .int .i64 (j : Int)), (6, .int .i64 ((f i j : Nat) : Int)), (16, .slice (some ⟨gc, 0, none⟩) k cc), (17, .int .i64 (k : Int)), (18, .int .i64 (j : Int)), (24, .slice (some ⟨g, 0, none⟩) n cap), (25, .int .i64 (n : Int)), (26, .int .i64 (x : Int))] a ∧ (StZ FDx B (fun x => N ≤ x ∧ x < KM) w w3) ∧ (Fo FDx B w3 fv (some (wb, p))) ∧ (Blk w3 gr 96 [fv, .slice (some ⟨g, 0, none⟩) n cap]) ∧ (Gam.Own FDx B N w3 53 (.slice (some ⟨g, 0, none⟩) n cap) (some g) (vls n k bs rc)) ∧ (Wr FDx B N KM w3 n k bs rc (hp.fld.clC i (j) (x) f)) ∧ (Gam.Own FDx B w.heap.size w3 FDx.E (.slice (some ⟨gc, 0, none⟩) k cc) (some gc) (zints (trow k f i))) ∧ (x ≤ n) ∧ (q2 + x = n)) (n) ?_ ?_
   ·
    skip
    exact ⟨0, hF.sub _ (c_ 1 rfl (c_ 2 rfl (c_ 5 rfl (c_ 6 rfl (c_ 16 rfl (c_ 17 rfl (c_ 18 rfl (c_ 24 rfl (c_ 25 rfl (c_ 26 rfl (n_))))))))))), hS, hf, hbx, hO, hW, hC, by omega, by omega⟩
   ·
    skip
    clear hF
    clear hS hf hbx hO hW hC
    rintro q2 a w3 ⟨x, hF, hS, hf, hbx, hO, hW, hC, hxn, hq2⟩
    refine W_sr rfl fun K hK => ?_
    refine svw hK hF (v_lss rfl rfl) rfl ?_; clear hF a hK K; intro a hF
    refine W_seq ?_
    refine W_if hF rfl (fun hc2 => ?_) (fun hc2 => ?_)
    ·
     skip
     try simp only [dcl] at hc2
     have hx : x < n := by omega
     refine W_skip ?_
     refine W_seq ?_
     refine W_block ?_
     refine W_sr rfl fun K hK => ?_
     refine sv hF (v_ixS sl36 rfl rfl (by omega) (by omega)) rfl ?_; clear hF a; intro a hF
     refine sv hF (v_load sc53 rfl (by rw [toNat_c]; exact (hO.kc (by decide) (vls_at hx)).c)) rfl ?_; clear hF a; intro a hF
     refine svw hK hF (v_assign rfl) rfl ?_; clear hF a hK K; intro a hF
     replace hF := hF.sub _ (c_ 8 rfl (c_ 1 rfl (c_ 2 rfl (c_ 5 rfl (c_ 6 rfl (c_ 16 rfl (c_ 17 rfl (c_ 18 rfl (c_ 24 rfl (c_ 25 rfl (c_ 26 rfl (n_))))))))))))
     refine W_sr rfl fun K hK => ?_
     refine sv3w hK hF (v_move rfl) (v_move rfl) (v_neq rfl rfl) rfl rfl rfl ?_; clear hF a hK K; intro a hF
     replace hF := hF.sub _ (c_ 32 rfl (c_ 8 rfl (c_ 1 rfl (c_ 2 rfl (c_ 5 rfl (c_ 6 rfl (c_ 16 rfl (c_ 17 rfl (c_ 18 rfl (c_ 24 rfl (c_ 25 rfl (c_ 26 rfl (n_)))))))))))))
     refine W_if hF rfl (fun hc3 => ?_) (fun hc3 => ?_)
     ·
      skip
      try simp only [dcl] at hc3
      have hji : j ≠ i := by omega
      have hb1 := hfb x i
      have hb2 := hfb i j
      have hb3 := hp.fld.clC_bd (i := i) (j := j) (x := x) hfb x j
      have hb5 := hp.fld.lt (f x i) (f i j)
      rw [hfw] at hb1 hb2 hb3 hb5
      refine W_dS (fun (w2 : World) => w2.cell? ⟨gr, 0, none⟩ = some fv ∧ w2.cell? ⟨bs x, 0 + i, none⟩ = some (.int .i64 ((f x i : Nat) : Int))) (m := 15) rfl hmix (fun K hK => ?_)
      have hS' := St.drew hS.inv
      replace hf := hf.st hS'
      replace hO := hO.st (by decide) hS'
      replace hW := hW.st hS'
      replace hbx := hbx.st (by decide) hS'
      replace hC := hC.st (by decide) hS'
      replace hS := hS.trans hS'
      clear hS'
      have hSS : (fun (w2 : World) => w2.cell? ⟨gr, 0, none⟩ = some fv ∧ w2.cell? ⟨bs x, 0 + i, none⟩ = some (.int .i64 ((f x i : Nat) : Int))) _ := And.intro (hbx.at 0 rfl) (by have h := (hW.rd hx hi).c; rw [Fld.clC_self] at h; exact h)
      refine b_v (i := 0) rfl (by kernel_rfl) hF (fun w2 hx => v_move rfl) rfl hSS ?_; clear hF a; intro a hF
      refine b_v (i := 1) rfl (by kernel_rfl) hF (fun w2 hx => v_move rfl) rfl hSS ?_; clear hF a; intro a hF
      refine b_v (i := 2) rfl (by kernel_rfl) hF (fun w2 hx => v_ixS sl53 rfl rfl (by omega) (by omega)) rfl hSS ?_; clear hF a; intro a hF
      refine b_v (i := 4) rfl (by kernel_rfl) hF (fun w2 hx => v_fieldAddr fa96_0 rfl) rfl hSS ?_; clear hF a; intro a hF
      refine b_v (i := 5) rfl (by kernel_rfl) hF (fun w2 hx => v_load sc42 rfl hx.1) rfl hSS ?_; clear hF a; intro a hF
      refine b_v (i := 6) rfl (by kernel_rfl) hF (fun w2 hx => v_move rfl) rfl hSS ?_; clear hF a; intro a hF
      refine b_v (i := 7) rfl (by kernel_rfl) hF (fun w2 hx => v_move rfl) rfl hSS ?_; clear hF a; intro a hF
      refine b_v (i := 8) rfl (by kernel_rfl) hF (fun w2 hx => v_ixS sl53 rfl rfl (by omega) (by omega)) rfl hSS ?_; clear hF a; intro a hF
      refine b_v (i := 9) rfl (by kernel_rfl) hF (fun w2 hx => v_load sc3 rfl (by rw [toNat_c]; exact hx.2)) rfl hSS ?_; clear hF a; intro a hF
      refine b_v (i := 10) rfl (by kernel_rfl) hF (fun w2 hx => v_move rfl) rfl hSS ?_; clear hF a; intro a hF
      refine b_e2 (i := 3) (i' := 11) (by kernel_rfl) rfl rfl ?_ ?_
      ·
       skip
       refine sv hF (v_load sc3 rfl (by rw [toNat_c]; exact (hW.rd hx hlt).c)) rfl ?_; clear hF a; intro a hF
       refine WL_nil ⟨hSS, ?_⟩
       refine b_e (i := 11) (by kernel_rfl) rfl ?_
       refine sc hF rfl rfl rfl en51 rfl (Mul_gf B (some (wb, p)) fv ((f x i : Nat) : Int) ((f i j : Nat) : Int) _ hS.inv hf) ?_; clear hF a; intro v w' a hv hF
       obtain ⟨rfl, hS'⟩ := hv
       replace hf := hf.st hS'
       replace hO := hO.st (by decide) hS'
       replace hW := hW.st hS'
       replace hbx := hbx.st (by decide) hS'
       replace hC := hC.st (by decide) hS'
       replace hS := hS.trans hS'
       clear hS'
       rw [gmul_num hp hb1 hb2] at hF
       clear hSS
       have hSS : (fun (w2 : World) => w2.cell? ⟨gr, 0, none⟩ = some fv ∧ w2.cell? ⟨bs x, 0 + i, none⟩ = some (.int .i64 ((f x i : Nat) : Int))) _ := And.intro (hbx.at 0 rfl) (by have h := (hW.rd hx hi).c; rw [Fld.clC_self] at h; exact h)
       refine WL_nil ⟨hSS, ?_⟩
       refine b_v (i := 12) rfl (by kernel_rfl) hF (fun w2 hx => v_xorN rfl rfl (fits_i64 (by omega)) (fits_i64 (by omega))) rfl hSS ?_; clear hF a; intro a hF
       refine b_v (i := 13) rfl (by kernel_rfl) hF (fun w2 hx => v_ixS sl53 rfl rfl (by omega) (by omega)) rfl hSS ?_; clear hF a; intro a hF
       refine b_e (i := 14) (by kernel_rfl) rfl ?_
       have hR0 := hW.row _ hx
       have hge := hW.ge hx
       refine s_set (D := FDx) (B := B) hF on3 rfl (by rw [toNat_c, zints_length, trow_length]; omega) rfl rfl hR0 (by decide) hS.inv ?_; intro w' hm hI' ho'
       replace hf := hf.mb hm
       replace hO := hO.mb hm (hO.ne_type hR0 (by decide))
       replace hW := hW.set (g := hp.fld.clC i (j) (x + 1) f) hx hm (ho'.cast (by rw [toNat_c, Nat.zero_add, zints_set, trow_set (g := hp.fld.clC i (j) (x + 1) f)]; intro l hl; exact (by have e := hp.fld.clC_at (x := x) (l := l) (f := f) hji; rw [hp.fld.clC_self] at e; exact e))) (fun a ha hai l hl => (hp.fld.clC_ne hai))
       replace hbx := hbx.mb hm (hW.ne hx hKgr)
       replace hC := hC.mb hm (fun k e e2 => hW.ne hx hKgc (e2.trans e.symm))
       replace hS := hS.mb hm (fun k e => ⟨by cases e; exact ⟨hge.1, hW.lt _ hx⟩, hR0.isrow k e⟩)
       replace hR0 := ho'
       clear hm hI' ho'
       clear hR0 hge
       clear hSS
       have hSS : (fun (w2 : World) => w2.cell? ⟨gr, 0, none⟩ = some fv ∧ w2.cell? ⟨bs x, 0 + i, none⟩ = some (.int .i64 ((f x i : Nat) : Int))) _ := And.intro (hbx.at 0 rfl) (by have h := (hW.rd hx hi).c; rw [Fld.clC_self] at h; exact h)
       refine WL_nil ⟨hSS, ?_⟩
       refine b_done (by kernel_rfl) (hK _ _ ?_)
       clear hK K
       replace hF := hF.sub _ (c_ 1 rfl (c_ 2 rfl (c_ 5 rfl (c_ 6 rfl (c_ 16 rfl (c_ 17 rfl (c_ 18 rfl (c_ 24 rfl (c_ 25 rfl (c_ 26 rfl (n_)))))))))))
       refine W_reg rfl fun K hK => ?_
       refine sv2w hK hF (v_addI rfl rfl (by omega)) (v_move rfl) rfl rfl ?_; clear hF a hK K; intro a hF
       exact ⟨q2 - 1, by omega, x + 1, hF.sub _ (c_ 1 rfl (c_ 2 rfl (c_ 5 rfl (c_ 6 rfl (c_ 16 rfl (c_ 17 rfl (c_ 18 rfl (c_ 24 rfl (c_ 25 rfl (c_ 26 rfl (n_))))))))))), hS, hf, hbx, hO, hW, hC, by omega, by omega⟩
      ·
       skip
       refine sc hF rfl rfl rfl en51 rfl (Mul_gf B (some (wb, p)) fv ((f x i : Nat) : Int) ((f i j : Nat) : Int) _ hS.inv hf) ?_; clear hF a; intro v w' a hv hF
       obtain ⟨rfl, hS'⟩ := hv
       replace hf := hf.st hS'
       replace hO := hO.st (by decide) hS'
       replace hW := hW.st hS'
       replace hbx := hbx.st (by decide) hS'
       replace hC := hC.st (by decide) hS'
       replace hS := hS.trans hS'
       clear hS'
       rw [gmul_num hp hb1 hb2] at hF
       clear hSS
       have hSS : (fun (w2 : World) => w2.cell? ⟨gr, 0, none⟩ = some fv ∧ w2.cell? ⟨bs x, 0 + i, none⟩ = some (.int .i64 ((f x i : Nat) : Int))) _ := And.intro (hbx.at 0 rfl) (by have h := (hW.rd hx hi).c; rw [Fld.clC_self] at h; exact h)
       refine WL_nil ⟨hSS, ?_⟩
       refine b_e (i := 3) (by kernel_rfl) rfl ?_
       refine sv hF (v_load sc3 rfl (by rw [toNat_c]; exact (hW.rd hx hlt).c)) rfl ?_; clear hF a; intro a hF
       refine WL_nil ⟨hSS, ?_⟩
       refine b_v (i := 12) rfl (by kernel_rfl) hF (fun w2 hx => v_xorN rfl rfl (fits_i64 (by omega)) (fits_i64 (by omega))) rfl hSS ?_; clear hF a; intro a hF
       refine b_v (i := 13) rfl (by kernel_rfl) hF (fun w2 hx => v_ixS sl53 rfl rfl (by omega) (by omega)) rfl hSS ?_; clear hF a; intro a hF
       refine b_e (i := 14) (by kernel_rfl) rfl ?_
       have hR0 := hW.row _ hx
       have hge := hW.ge hx
       refine s_set (D := FDx) (B := B) hF on3 rfl (by rw [toNat_c, zints_length, trow_length]; omega) rfl rfl hR0 (by decide) hS.inv ?_; intro w' hm hI' ho'
       replace hf := hf.mb hm
       replace hO := hO.mb hm (hO.ne_type hR0 (by decide))
       replace hW := hW.set (g := hp.fld.clC i (j) (x + 1) f) hx hm (ho'.cast (by rw [toNat_c, Nat.zero_add, zints_set, trow_set (g := hp.fld.clC i (j) (x + 1) f)]; intro l hl; exact (by have e := hp.fld.clC_at (x := x) (l := l) (f := f) hji; rw [hp.fld.clC_self] at e; exact e))) (fun a ha hai l hl => (hp.fld.clC_ne hai))
       replace hbx := hbx.mb hm (hW.ne hx hKgr)
       replace hC := hC.mb hm (fun k e e2 => hW.ne hx hKgc (e2.trans e.symm))
       replace hS := hS.mb hm (fun k e => ⟨by cases e; exact ⟨hge.1, hW.lt _ hx⟩, hR0.isrow k e⟩)
       replace hR0 := ho'
       clear hm hI' ho'
       clear hR0 hge
       clear hSS
       have hSS : (fun (w2 : World) => w2.cell? ⟨gr, 0, none⟩ = some fv ∧ w2.cell? ⟨bs x, 0 + i, none⟩ = some (.int .i64 ((f x i : Nat) : Int))) _ := And.intro (hbx.at 0 rfl) (by have h := (hW.rd hx hi).c; rw [Fld.clC_self] at h; exact h)
       refine WL_nil ⟨hSS, ?_⟩
       refine b_done (by kernel_rfl) (hK _ _ ?_)
       clear hK K
       replace hF := hF.sub _ (c_ 1 rfl (c_ 2 rfl (c_ 5 rfl (c_ 6 rfl (c_ 16 rfl (c_ 17 rfl (c_ 18 rfl (c_ 24 rfl (c_ 25 rfl (c_ 26 rfl (n_)))))))))))
       refine W_reg rfl fun K hK => ?_
       refine sv2w hK hF (v_addI rfl rfl (by omega)) (v_move rfl) rfl rfl ?_; clear hF a hK K; intro a hF
       exact ⟨q2 - 1, by omega, x + 1, hF.sub _ (c_ 1 rfl (c_ 2 rfl (c_ 5 rfl (c_ 6 rfl (c_ 16 rfl (c_ 17 rfl (c_ 18 rfl (c_ 24 rfl (c_ 25 rfl (c_ 26 rfl (n_))))))))))), hS, hf, hbx, hO, hW, hC, by omega, by omega⟩
     ·
      skip
      try simp only [dcl] at hc3
      have hji : i = j := by omega
      replace hW := hW.congr (g := hp.fld.clC i (j) (x + 1) f) (fun a _ b _ => by subst hji; exact hp.fld.clC_skip.symm)
      refine W_skip ?_
      refine W_reg rfl fun K hK => ?_
      refine sv2w hK hF (v_addI rfl rfl (by omega)) (v_move rfl) rfl rfl ?_; clear hF a hK K; intro a hF
      replace hF := hF.sub _ (c_ 26 rfl (c_ 47 rfl (c_ 1 rfl (c_ 2 rfl (c_ 5 rfl (c_ 6 rfl (c_ 16 rfl (c_ 17 rfl (c_ 18 rfl (c_ 24 rfl (c_ 25 rfl (n_))))))))))))
      exact ⟨q2 - 1, by omega, x + 1, hF.sub _ (c_ 1 rfl (c_ 2 rfl (c_ 5 rfl (c_ 6 rfl (c_ 16 rfl (c_ 17 rfl (c_ 18 rfl (c_ 24 rfl (c_ 25 rfl (c_ 26 rfl (n_))))))))))), hS, hf, hbx, hO, hW, hC, by omega, by omega⟩
    ·
     skip
     try simp only [dcl] at hc2
     have hxe : x = n := by omega
     rw [hxe] at hW
     replace hW := hW.congr (fun a ha b _ => hp.fld.clC_next ha)
     refine W_exit rfl ?_
     refine W_reg rfl fun K hK => ?_
     refine sv2w hK hF (v_addI rfl rfl (by omega)) (v_move rfl) rfl rfl ?_; clear hF a hK K; intro a hF
     replace hF := hF.sub _ (c_ 18 rfl (c_ 48 rfl (c_ 1 rfl (c_ 2 rfl (c_ 5 rfl (c_ 6 rfl (c_ 16 rfl (c_ 17 rfl (c_ 24 rfl (c_ 25 rfl (c_ 26 rfl (n_))))))))))))
     exact ⟨q - 1, by omega, j + 1, hF.sub _ (c_ 1 rfl (c_ 2 rfl (c_ 16 rfl (c_ 17 rfl (c_ 18 rfl (n_)))))), hS, hf, hbx, hO, hW, hC, by omega, by omega⟩
  ·
   skip
   try simp only [dcl] at hc1
   refine W_exit rfl ?_
   refine ⟨_, hF, ?_⟩
   obtain rfl : j = k := by omega
   exact ⟨rfl, hO, hW, hS⟩
end Go.Proofs.YtkoiolamnnmokaaGreat

/- The walk of package jvan: one step. -/
namespace Go.Proofs.YtkoiolamnnmokaaGreat
open Go Go.Gam
namespace FxFJvc
theorem en49 : Ent Tryz.prog 49 := ent Tryz.func49 (by kernel_rfl) (by kernel_rfl)
theorem en50 : Ent Tryz.prog 50 := ent Tryz.func50 (by kernel_rfl) (by kernel_rfl)
theorem en81 : Ent Tryz.prog 81 := ent Tryz.func81 (by kernel_rfl) (by kernel_rfl)
theorem fa96_0 : FieldFact Tryz.prog 96 0 0 := ff_of (sz := 0) Tryz.underlying96 (by kernel_rfl)
theorem fa96_1 : FieldFact Tryz.prog 96 1 1 := ff_of (sz := 0) Tryz.underlying96 (by kernel_rfl)
theorem hmix : Tryz.prog.follows .mixedOrders = true := by kernel_rfl
theorem on3 : Gam.One Tryz.prog 3 := by unfold Gam.One; kernel_rfl
theorem rc96 : Rec2 Tryz.prog 96 (.pointer none) (.slice none 0 0) := rec2_of Tryz.underlying96 (by kernel_rfl) (by kernel_rfl) (by kernel_rfl)
theorem sc3 : Scalar Tryz.prog 3 := ⟨_, Tryz.underlying3, by simp, by simp⟩
theorem sc36 : Scalar Tryz.prog 36 := ⟨_, Tryz.underlying36, by simp, by simp⟩
theorem sc42 : Scalar Tryz.prog 42 := ⟨_, Tryz.underlying42, by simp, by simp⟩
theorem sc53 : Scalar Tryz.prog 53 := ⟨_, Tryz.underlying53, by simp, by simp⟩
theorem sl36 : Sl Tryz.prog 36 53 (.slice none 0 0) 24 := sl_of Tryz.underlying36 rfl (by kernel_rfl)
theorem sl53 : Sl Tryz.prog 53 3 (.int .i64 0) 8 := sl_of Tryz.underlying53 rfl (by kernel_rfl)
end FxFJvc
open FxFJvc
set_option maxRecDepth 100000 in
set_option maxHeartbeats 1000000 in
theorem step_ok (B N KM wb p : Nat) (hp : Prm wb p) (fv : Value) (g cap n k : Nat) (bs rc : Nat → Nat) (f : Tb) (i q : Nat) (w : World) (hI : Inv FDx B w) (hf : Fo FDx B w fv (some (wb, p))) (hO : Gam.Own FDx B N w 53 (.slice (some ⟨g, 0, none⟩) n cap) (some g) (vls n k bs rc)) (hW : Wr FDx B N KM w n k bs rc (f)) (hKM : KM ≤ w.heap.size) (hNM : N ≤ KM) (hfb : hp.fld.Bd f) (hnk : n ≤ 20 ∧ k ≤ 20) (hi : i < k) (hin : i < n) (hq : Fld.piv (Fld.tr f) k i i (k - i) = some q) : Ret Tryz.prog 48 [.agg #[fv, .slice (some ⟨g, 0, none⟩) n cap], .int .i64 (i : Int)] w fun v w' => v = .tuple #[] ∧ Gam.Own FDx B N w' 53 (.slice (some ⟨g, 0, none⟩) n cap) (some g) (vls n k bs rc) ∧ Wr FDx B N KM w' n k bs rc (hp.fld.stC n k i f) ∧ StZ FDx B (fun x => N ≤ x ∧ x < KM) w w' := by
 refine enter0 72 [(0, .agg #[fv, .slice (some ⟨g, 0, none⟩) n cap]), (1, .int .i64 (i : Int))]  Tryz.func48 rfl rfl rfl rfl rfl ?_; intro a hF
 have hS := StZ.refl (Z := (fun x => N ≤ x ∧ x < KM)) hI
 have hfw := hp.fld_w
 have h16 : 2 ^ wb ≤ 65536 := by rcases hp.w with h | h <;> rw [h] <;> decide
 obtain ⟨hiq, hqk0, hfq0, hmin⟩ := Fld.piv_some hq
 have hqk : q < k := by omega
 have hfq : f i q ≠ 0 := hfq0
 have hfqb := hfb i q
 have hsb := hp.fld.inv_lt (f i q)
 rw [hfw] at hfqb hsb
 refine W_sr rfl fun K hK => ?_
 obtain ⟨gr, hgr⟩ : ∃ x, x = w.heap.size := ⟨_, rfl⟩
 have hKgr : KM ≤ gr := by omega
 refine s_box (D := FDx) (B := B) hF rfl (by decide) hS.inv rfl ?_; clear hF a; intro w' a hm hbx hsz hF
 replace hf := hf.mb hm
 replace hO := hO.mb hm (fun _ _ => by simp)
 replace hW := hW.mb0 hm
 replace hS := hS.mb0 hm
 clear hm
 rw [← hgr] at hbx hF
 refine wn hK ?_
 clear hK K
 replace hF := hF.sub _ (c_ 2 rfl (c_ 1 rfl (n_)))
 refine W_seq ?_
 refine W_sr rfl fun K hK => ?_
 refine sv4 hF (v_fieldAddr fa96_1 rfl) (v_load sc36 rfl (hbx.at 1 rfl)) (v_move rfl) (v_ixS sl36 rfl rfl (by omega) (by omega)) rfl rfl rfl rfl ?_; clear hF a; intro a hF
 have hkr := hO.kc (by decide) (vls_at hin)
 refine sv hF (v_load sc53 rfl (by rw [toNat_c]; exact hkr.c)) rfl ?_; clear hF a; intro a hF
 clear hkr
 refine sv2w hK hF (v_lenS rfl sl53 rfl) (v_move rfl) rfl rfl ?_; clear hF a hK K; intro a hF
 replace hF := hF.sub _ (c_ 16 rfl (c_ 15 rfl (c_ 14 rfl (c_ 2 rfl (c_ 1 rfl (n_))))))
 refine W_block ?_
 refine W_loop (fun d a w1 => ∃ (j : Nat), Fr 72 [(1, .int .i64 (i : Int)), (2, .pointer (some ⟨gr, 0, none⟩)), (14, .slice (some ⟨bs i, 0, none⟩) k (rc i)), (15, .int .i64 (k : Int)), (16, .int .i64 (j : Int))] a ∧ (StZ FDx B (fun x => N ≤ x ∧ x < KM) w w1) ∧ (Fo FDx B w1 fv (some (wb, p))) ∧ (Blk w1 gr 96 [fv, .slice (some ⟨g, 0, none⟩) n cap]) ∧ (Gam.Own FDx B N w1 53 (.slice (some ⟨g, 0, none⟩) n cap) (some g) (vls n k bs rc)) ∧ (Wr FDx B N KM w1 n k bs rc (f)) ∧ (j ≤ q) ∧ (d + j = k)) (k) ?_ ?_
 ·
  skip
  exact ⟨0, hF.sub _ (c_ 1 rfl (c_ 2 rfl (c_ 14 rfl (c_ 15 rfl (c_ 16 rfl (n_)))))), hS, hf, hbx, hO, hW, by omega, by omega⟩
 ·
  skip
  clear hF
  clear hS hf hbx hO hW
  rintro d a w1 ⟨j, hF, hS, hf, hbx, hO, hW, hj, hd⟩
  refine W_sr rfl fun K hK => ?_
  refine svw hK hF ((v_lss rfl rfl).as (congrArg Value.bool (decide_eq_true (by omega)))) rfl ?_; clear hF a hK K; intro a hF
  refine W_seq ?_
  refine W_ifT hF rfl ?_
  refine W_skip ?_
  refine W_seq ?_
  refine W_block ?_
  have hjk : j < k := by omega
  refine W_sr rfl fun K hK => ?_
  refine sv2 hF (v_move rfl) (v_ixS sl53 rfl rfl (by omega) (by omega)) rfl rfl ?_; clear hF a; intro a hF
  refine sv hF (v_load sc3 rfl (by rw [toNat_c]; exact (hW.rd hin hjk).c)) rfl ?_; clear hF a; intro a hF
  refine sv2w hK hF (v_assign rfl) (v_assign rfl) rfl rfl ?_; clear hF a hK K; intro a hF
  replace hF := hF.sub _ (c_ 5 rfl (c_ 4 rfl (c_ 1 rfl (c_ 2 rfl (c_ 14 rfl (c_ 15 rfl (c_ 16 rfl (n_))))))))
  refine W_seq ?_
  refine W_sr rfl fun K hK => ?_
  refine sv2 hF (v_move rfl) (v_move rfl) rfl rfl ?_; clear hF a; intro a hF
  refine sb hF (v_lss rfl rfl) rfl ?_ ?_
  ·
   clear hF a; intro hc1 a hF
   try simp only [dcl] at hc1
   refine sv hF (v_move rfl) rfl ?_; clear hF a; intro a hF
   refine svn2 hF rfl rfl rfl rfl rfl rfl ?_; clear hF a; intro a hF
   refine svw hK hF (v_pickT rfl rfl) rfl ?_; clear hF a hK K; intro a hF
   replace hF := hF.sub _ (c_ 27 rfl (c_ 4 rfl (c_ 1 rfl (c_ 2 rfl (c_ 14 rfl (c_ 15 rfl (c_ 16 rfl (n_))))))))
   refine W_ifT hF rfl ?_
   refine W_exit rfl ?_
   refine W_reg rfl fun K hK => ?_
   refine sv2w hK hF (v_addI rfl rfl (by omega)) (v_move rfl) rfl rfl ?_; clear hF a hK K; intro a hF
   replace hF := hF.sub _ (c_ 16 rfl (c_ 50 rfl (c_ 1 rfl (c_ 2 rfl (c_ 14 rfl (c_ 15 rfl (n_)))))))
   exact ⟨d - 1, by omega, j + 1, hF.sub _ (c_ 1 rfl (c_ 2 rfl (c_ 14 rfl (c_ 15 rfl (c_ 16 rfl (n_)))))), hS, hf, hbx, hO, hW, by omega, by omega⟩
  ·
   clear hF a; intro hc1 a hF
   try simp only [dcl] at hc1
   refine sv hF (v_move rfl) rfl ?_; clear hF a; intro a hF
   refine svg hF rfl ?_
   refine sv hF (v_move rfl) rfl ?_; clear hF a; intro a hF
   refine svg hF rfl ?_
   refine sv2w hK hF (v_eql rfl rfl) (v_pickF rfl rfl) rfl rfl ?_; clear hF a hK K; intro a hF
   replace hF := hF.sub _ (c_ 27 rfl (c_ 4 rfl (c_ 1 rfl (c_ 2 rfl (c_ 14 rfl (c_ 15 rfl (c_ 16 rfl (n_))))))))
   refine W_if hF rfl (fun hc2 => ?_) (fun hc2 => ?_)
   ·
    skip
    try simp only [dcl] at hc2
    have hjq : j ≠ q := by rintro rfl; omega
    refine W_exit rfl ?_
    refine W_reg rfl fun K hK => ?_
    refine sv2w hK hF (v_addI rfl rfl (by omega)) (v_move rfl) rfl rfl ?_; clear hF a hK K; intro a hF
    replace hF := hF.sub _ (c_ 16 rfl (c_ 50 rfl (c_ 1 rfl (c_ 2 rfl (c_ 14 rfl (c_ 15 rfl (n_)))))))
    exact ⟨d - 1, by omega, j + 1, hF.sub _ (c_ 1 rfl (c_ 2 rfl (c_ 14 rfl (c_ 15 rfl (c_ 16 rfl (n_)))))), hS, hf, hbx, hO, hW, by omega, by omega⟩
   ·
    skip
    try simp only [dcl] at hc2
    obtain rfl : q = j := by
     by_cases e : j < q
     ·
      exact absurd (hmin j (by omega) e) (by show f i j ≠ 0; omega)
     ·
      omega
    refine W_skip ?_
    refine W_seq ?_
    refine W_sr rfl fun K hK => ?_
    refine sv4w hK hF (v_fieldAddr fa96_1 rfl) (v_load sc36 rfl (hbx.at 1 rfl)) (v_lenS rfl sl36 rfl) (v_move rfl) rfl rfl rfl rfl ?_; clear hF a hK K; intro a hF
    replace hF := hF.sub _ (c_ 31 rfl (c_ 30 rfl (c_ 29 rfl (c_ 4 rfl (c_ 1 rfl (c_ 2 rfl (c_ 14 rfl (c_ 15 rfl (c_ 16 rfl (n_))))))))))
    refine W_block ?_
    refine W_loop (fun d2 a w3 => ∃ (x : Nat), Fr 72 [(1, .int .i64 (i : Int)), (2, .pointer (some ⟨gr, 0, none⟩)), (4, .int .i64 (q : Int)), (29, .slice (some ⟨g, 0, none⟩) n cap), (30, .int .i64 (n : Int)), (31, .int .i64 (x : Int))] a ∧ (StZ FDx B (fun x => N ≤ x ∧ x < KM) w w3) ∧ (Fo FDx B w3 fv (some (wb, p))) ∧ (Blk w3 gr 96 [fv, .slice (some ⟨g, 0, none⟩) n cap]) ∧ (Gam.Own FDx B N w3 53 (.slice (some ⟨g, 0, none⟩) n cap) (some g) (vls n k bs rc)) ∧ (Wr FDx B N KM w3 n k bs rc (colS i q (x) f)) ∧ (x ≤ n) ∧ (d2 + x = n)) (n) ?_ ?_
    ·
     skip
     exact ⟨0, hF.sub _ (c_ 1 rfl (c_ 2 rfl (c_ 4 rfl (c_ 29 rfl (c_ 30 rfl (c_ 31 rfl (n_))))))), hS, hf, hbx, hO, hW.congr (fun a _ b _ => colS_zero.symm), by omega, by omega⟩
    ·
     skip
     clear hF
     clear hS hf hbx hO hW
     rintro d2 a w3 ⟨x, hF, hS, hf, hbx, hO, hW, hxn, hd2⟩
     refine W_sr rfl fun K hK => ?_
     refine svw hK hF (v_lss rfl rfl) rfl ?_; clear hF a hK K; intro a hF
     refine W_seq ?_
     refine W_if hF rfl (fun hc3 => ?_) (fun hc3 => ?_)
     ·
      skip
      try simp only [dcl] at hc3
      have hx : x < n := by omega
      refine W_skip ?_
      refine W_seq ?_
      refine W_block ?_
      refine W_sr rfl fun K hK => ?_
      refine sv hF (v_ixS sl36 rfl rfl (by omega) (by omega)) rfl ?_; clear hF a; intro a hF
      refine sv hF (v_load sc53 rfl (by rw [toNat_c]; exact (hO.kc (by decide) (vls_at hx)).c)) rfl ?_; clear hF a; intro a hF
      refine svw hK hF (v_assign rfl) rfl ?_; clear hF a hK K; intro a hF
      replace hF := hF.sub _ (c_ 7 rfl (c_ 1 rfl (c_ 2 rfl (c_ 4 rfl (c_ 29 rfl (c_ 30 rfl (c_ 31 rfl (n_))))))))
      refine W_dS (fun (w2 : World) => w2.cell? ⟨gr, 0, none⟩ = some fv) (m := 16) rfl hmix (fun K hK => ?_)
      have hS' := St.drew hS.inv
      replace hf := hf.st hS'
      replace hO := hO.st (by decide) hS'
      replace hW := hW.st hS'
      replace hbx := hbx.st (by decide) hS'
      replace hS := hS.trans hS'
      clear hS'
      have hSS : (fun (w2 : World) => w2.cell? ⟨gr, 0, none⟩ = some fv) _ := hbx.at 0 rfl
      refine b_v (i := 0) rfl (by kernel_rfl) hF (fun w2 hx => v_move rfl) rfl hSS ?_; clear hF a; intro a hF
      refine b_v (i := 1) rfl (by kernel_rfl) hF (fun w2 hx => v_move rfl) rfl hSS ?_; clear hF a; intro a hF
      refine b_v (i := 2) rfl (by kernel_rfl) hF (fun w2 hx => v_move rfl) rfl hSS ?_; clear hF a; intro a hF
      refine b_v (i := 3) rfl (by kernel_rfl) hF (fun w2 hx => v_move rfl) rfl hSS ?_; clear hF a; intro a hF
      refine b_v (i := 4) rfl (by kernel_rfl) hF (fun w2 hx => v_move rfl) rfl hSS ?_; clear hF a; intro a hF
      refine b_v (i := 5) rfl (by kernel_rfl) hF (fun w2 hx => v_move rfl) rfl hSS ?_; clear hF a; intro a hF
      refine b_v (i := 6) rfl (by kernel_rfl) hF (fun w2 hx => v_ixS sl53 rfl rfl (by omega) (by omega)) rfl hSS ?_; clear hF a; intro a hF
      refine b_v (i := 8) rfl (by kernel_rfl) hF (fun w2 hx => v_move rfl) rfl hSS ?_; clear hF a; intro a hF
      refine b_v (i := 9) rfl (by kernel_rfl) hF (fun w2 hx => v_move rfl) rfl hSS ?_; clear hF a; intro a hF
      refine b_v (i := 10) rfl (by kernel_rfl) hF (fun w2 hx => v_ixS sl53 rfl rfl (by omega) (by omega)) rfl hSS ?_; clear hF a; intro a hF
      refine b_e2 (i := 7) (i' := 11) (by kernel_rfl) rfl rfl ?_ ?_
      ·
       skip
       refine sv hF (v_load sc3 rfl (by rw [toNat_c]; have h := (hW.rd hx hqk).c; rw [colS_old] at h; exact h)) rfl ?_; clear hF a; intro a hF
       refine WL_nil ⟨hSS, ?_⟩
       refine b_e (i := 11) (by kernel_rfl) rfl ?_
       refine sv hF (v_load sc3 rfl (by rw [toNat_c]; have h := (hW.rd hx hi).c; rw [colS_old] at h; exact h)) rfl ?_; clear hF a; intro a hF
       refine WL_nil ⟨hSS, ?_⟩
       refine b_v (i := 12) rfl (by kernel_rfl) hF (fun w2 hx => v_ixS sl53 rfl rfl (by omega) (by omega)) rfl hSS ?_; clear hF a; intro a hF
       refine b_e (i := 13) (by kernel_rfl) rfl ?_
       have hR0 := hW.row _ hx
       have hge := hW.ge hx
       refine s_set (D := FDx) (B := B) hF on3 rfl (by rw [toNat_c, zints_length, trow_length]; omega) rfl rfl hR0 (by decide) hS.inv ?_; intro w' hm hI' ho'
       replace hf := hf.mb hm
       replace hO := hO.mb hm (hO.ne_type hR0 (by decide))
       replace hW := hW.set (g := colH i q x f) hx hm (ho'.cast (by rw [toNat_c, Nat.zero_add, zints_set, trow_set (g := colH i q x f)]; intro l hl; exact colH_at)) (fun a ha hai l hl => (colH_ne hai))
       replace hbx := hbx.mb hm (hW.ne hx hKgr)
       replace hS := hS.mb hm (fun k e => ⟨by cases e; exact ⟨hge.1, hW.lt _ hx⟩, hR0.isrow k e⟩)
       replace hR0 := ho'
       clear hm hI' ho'
       clear hR0 hge
       clear hSS
       have hSS : (fun (w2 : World) => w2.cell? ⟨gr, 0, none⟩ = some fv) _ := hbx.at 0 rfl
       refine WL_nil ⟨hSS, ?_⟩
       refine b_v (i := 14) rfl (by kernel_rfl) hF (fun w2 hx => v_ixS sl53 rfl rfl (by omega) (by omega)) rfl hSS ?_; clear hF a; intro a hF
       refine b_e (i := 15) (by kernel_rfl) rfl ?_
       have hR0 := hW.row _ hx
       have hge := hW.ge hx
       refine s_set (D := FDx) (B := B) hF on3 rfl (by rw [toNat_c, zints_length, trow_length]; omega) rfl rfl hR0 (by decide) hS.inv ?_; intro w' hm hI' ho'
       replace hf := hf.mb hm
       replace hO := hO.mb hm (hO.ne_type hR0 (by decide))
       replace hW := hW.set (g := colS i q (x + 1) f) hx hm (ho'.cast (by rw [toNat_c, Nat.zero_add, zints_set, trow_set (g := colS i q (x + 1) f)]; intro l hl; exact colS_at)) (fun a ha hai l hl => (colS_ne hai))
       replace hbx := hbx.mb hm (hW.ne hx hKgr)
       replace hS := hS.mb hm (fun k e => ⟨by cases e; exact ⟨hge.1, hW.lt _ hx⟩, hR0.isrow k e⟩)
       replace hR0 := ho'
       clear hm hI' ho'
       clear hR0 hge
       clear hSS
       have hSS : (fun (w2 : World) => w2.cell? ⟨gr, 0, none⟩ = some fv) _ := hbx.at 0 rfl
       refine WL_nil ⟨hSS, ?_⟩
       refine b_done (by kernel_rfl) (hK _ _ ?_)
       clear hK K
       replace hF := hF.sub _ (c_ 1 rfl (c_ 2 rfl (c_ 4 rfl (c_ 29 rfl (c_ 30 rfl (c_ 31 rfl (n_)))))))
       refine W_reg rfl fun K hK => ?_
       refine sv2w hK hF (v_addI rfl rfl (by omega)) (v_move rfl) rfl rfl ?_; clear hF a hK K; intro a hF
       exact ⟨d2 - 1, by omega, x + 1, hF.sub _ (c_ 1 rfl (c_ 2 rfl (c_ 4 rfl (c_ 29 rfl (c_ 30 rfl (c_ 31 rfl (n_))))))), hS, hf, hbx, hO, hW, by omega, by omega⟩
      ·
       skip
       refine sv hF (v_load sc3 rfl (by rw [toNat_c]; have h := (hW.rd hx hi).c; rw [colS_old] at h; exact h)) rfl ?_; clear hF a; intro a hF
       refine WL_nil ⟨hSS, ?_⟩
       refine b_e (i := 7) (by kernel_rfl) rfl ?_
       refine sv hF (v_load sc3 rfl (by rw [toNat_c]; have h := (hW.rd hx hqk).c; rw [colS_old] at h; exact h)) rfl ?_; clear hF a; intro a hF
       refine WL_nil ⟨hSS, ?_⟩
       refine b_v (i := 12) rfl (by kernel_rfl) hF (fun w2 hx => v_ixS sl53 rfl rfl (by omega) (by omega)) rfl hSS ?_; clear hF a; intro a hF
       refine b_e (i := 13) (by kernel_rfl) rfl ?_
       have hR0 := hW.row _ hx
       have hge := hW.ge hx
       refine s_set (D := FDx) (B := B) hF on3 rfl (by rw [toNat_c, zints_length, trow_length]; omega) rfl rfl hR0 (by decide) hS.inv ?_; intro w' hm hI' ho'
       replace hf := hf.mb hm
       replace hO := hO.mb hm (hO.ne_type hR0 (by decide))
       replace hW := hW.set (g := colH i q x f) hx hm (ho'.cast (by rw [toNat_c, Nat.zero_add, zints_set, trow_set (g := colH i q x f)]; intro l hl; exact colH_at)) (fun a ha hai l hl => (colH_ne hai))
       replace hbx := hbx.mb hm (hW.ne hx hKgr)
       replace hS := hS.mb hm (fun k e => ⟨by cases e; exact ⟨hge.1, hW.lt _ hx⟩, hR0.isrow k e⟩)
       replace hR0 := ho'
       clear hm hI' ho'
       clear hR0 hge
       clear hSS
       have hSS : (fun (w2 : World) => w2.cell? ⟨gr, 0, none⟩ = some fv) _ := hbx.at 0 rfl
       refine WL_nil ⟨hSS, ?_⟩
       refine b_v (i := 14) rfl (by kernel_rfl) hF (fun w2 hx => v_ixS sl53 rfl rfl (by omega) (by omega)) rfl hSS ?_; clear hF a; intro a hF
       refine b_e (i := 15) (by kernel_rfl) rfl ?_
       have hR0 := hW.row _ hx
       have hge := hW.ge hx
       refine s_set (D := FDx) (B := B) hF on3 rfl (by rw [toNat_c, zints_length, trow_length]; omega) rfl rfl hR0 (by decide) hS.inv ?_; intro w' hm hI' ho'
       replace hf := hf.mb hm
       replace hO := hO.mb hm (hO.ne_type hR0 (by decide))
       replace hW := hW.set (g := colS i q (x + 1) f) hx hm (ho'.cast (by rw [toNat_c, Nat.zero_add, zints_set, trow_set (g := colS i q (x + 1) f)]; intro l hl; exact colS_at)) (fun a ha hai l hl => (colS_ne hai))
       replace hbx := hbx.mb hm (hW.ne hx hKgr)
       replace hS := hS.mb hm (fun k e => ⟨by cases e; exact ⟨hge.1, hW.lt _ hx⟩, hR0.isrow k e⟩)
       replace hR0 := ho'
       clear hm hI' ho'
       clear hR0 hge
       clear hSS
       have hSS : (fun (w2 : World) => w2.cell? ⟨gr, 0, none⟩ = some fv) _ := hbx.at 0 rfl
       refine WL_nil ⟨hSS, ?_⟩
       refine b_done (by kernel_rfl) (hK _ _ ?_)
       clear hK K
       replace hF := hF.sub _ (c_ 1 rfl (c_ 2 rfl (c_ 4 rfl (c_ 29 rfl (c_ 30 rfl (c_ 31 rfl (n_)))))))
       refine W_reg rfl fun K hK => ?_
       refine sv2w hK hF (v_addI rfl rfl (by omega)) (v_move rfl) rfl rfl ?_; clear hF a hK K; intro a hF
       exact ⟨d2 - 1, by omega, x + 1, hF.sub _ (c_ 1 rfl (c_ 2 rfl (c_ 4 rfl (c_ 29 rfl (c_ 30 rfl (c_ 31 rfl (n_))))))), hS, hf, hbx, hO, hW, by omega, by omega⟩
     ·
      skip
      try simp only [dcl] at hc3
      have hxe : x = n := by omega
      rw [hxe] at hW
      clear hxe
      refine W_exit rfl ?_
      refine W_exit rfl ?_
      refine W_sd (m := 16) rfl hmix hS.inv (fun K hK w1 hS' hh => ?_)
      replace hf := hf.st hS'
      replace hO := hO.st (by decide) hS'
      replace hW := hW.st hS'
      replace hbx := hbx.st (by decide) hS'
      replace hS := hS.trans hS'
      clear hS'
      clear hh
      refine a_v (i := 0) rfl (by kernel_rfl) hF (fun w2 hx => v_fieldAddr fa96_0 rfl) rfl ?_; clear hF a; intro a hF
      refine a_v (i := 1) rfl (by kernel_rfl) hF (fun w2 hx => v_load sc42 rfl (hbx.ld (by decide) hx 0 rfl)) rfl ?_; clear hF a; intro a hF
      refine a_v (i := 2) rfl (by kernel_rfl) hF (fun w2 hx => v_fieldAddr fa96_1 rfl) rfl ?_; clear hF a; intro a hF
      refine a_v (i := 3) rfl (by kernel_rfl) hF (fun w2 hx => v_load sc36 rfl (hbx.ld (by decide) hx 1 rfl)) rfl ?_; clear hF a; intro a hF
      refine a_v (i := 4) rfl (by kernel_rfl) hF (fun w2 hx => v_move rfl) rfl ?_; clear hF a; intro a hF
      refine a_v (i := 5) rfl (by kernel_rfl) hF (fun w2 hx => v_ixS sl36 rfl rfl (by omega) (by omega)) rfl ?_; clear hF a; intro a hF
      refine a_v (i := 6) rfl (by kernel_rfl) hF (fun w2 hx => v_load sc53 rfl (by rw [toNat_c]; exact (hO.kc (by decide) (vls_at hin)).ld hx)) rfl ?_; clear hF a; intro a hF
      refine a_v (i := 7) rfl (by kernel_rfl) hF (fun w2 hx => v_move rfl) rfl ?_; clear hF a; intro a hF
      refine a_v (i := 8) rfl (by kernel_rfl) hF (fun w2 hx => v_ixS sl53 rfl rfl (by omega) (by omega)) rfl ?_; clear hF a; intro a hF
      have hrk := hW.rd hin hi
      rw [show colS i q n f i i = f i q by unfold colS Fld.sw; rw [if_pos hin, if_pos rfl]] at hrk
      refine a_v (i := 9) rfl (by kernel_rfl) hF (fun w2 hx => v_load sc3 rfl (by rw [toNat_c]; exact hrk.ld hx)) rfl ?_; clear hF a; intro a hF
      refine a_e (i := 10) rfl (by kernel_rfl) ?_
      refine sc hF rfl rfl rfl en49 rfl (Inv_gf B (some (wb, p)) fv ((f i q : Nat) : Int) _ hS.inv hf) ?_; clear hF a; intro v w' a hv hF
      obtain ⟨rfl, hS'⟩ := hv
      refine WL_nil ⟨hS'.ext, ?_⟩
      replace hf := hf.st hS'
      replace hO := hO.st (by decide) hS'
      replace hW := hW.st hS'
      replace hbx := hbx.st (by decide) hS'
      replace hS := hS.trans hS'
      clear hS'
      clear hrk
      rw [ginv_fld hp hfqb hfq] at hF
      refine a_v (i := 11) rfl (by kernel_rfl) hF (fun w2 hx => v_move rfl) rfl ?_; clear hF a; intro a hF
      refine a_v (i := 12) rfl (by kernel_rfl) hF (fun w2 hx => v_ext rfl rfl) rfl ?_; clear hF a; intro a hF
      refine a_v (i := 13) rfl (by kernel_rfl) hF (fun w2 hx => v_ext rfl rfl) rfl ?_; clear hF a; intro a hF
      refine a_v (i := 14) rfl (by kernel_rfl) hF (fun w2 hx => v_assign rfl) rfl ?_; clear hF a; intro a hF
      refine a_v (i := 15) rfl (by kernel_rfl) hF (fun w2 hx => v_assign rfl) rfl ?_; clear hF a; intro a hF
      refine a_done (by kernel_rfl) (hK _ _ ?_)
      clear hK K
      replace hF := hF.sub _ (c_ 8 rfl (c_ 64 rfl (c_ 63 rfl (c_ 51 rfl (c_ 62 rfl (c_ 61 rfl (c_ 60 rfl (c_ 59 rfl (c_ 58 rfl (c_ 57 rfl (c_ 56 rfl (c_ 55 rfl (c_ 54 rfl (c_ 53 rfl (c_ 52 rfl (c_ 1 rfl (c_ 2 rfl (c_ 4 rfl (c_ 29 rfl (c_ 30 rfl (c_ 31 rfl (n_))))))))))))))))))))))
      refine W_sr rfl fun K hK => ?_
      refine sv3 hF (v_loadR rc96 rfl hbx) (v_move rfl) (v_move rfl) rfl rfl rfl ?_; clear hF a; intro a hF
      refine sc hF rfl rfl rfl en50 rfl (scale_ok B N KM wb p hp fv g cap n k bs rc (colS i q (n) f) 0 i (hp.fld.inv (f i q)) _ hS.inv hf hO hW (Nat.le_trans hKM hS.ext.size) hNM (Fld.colS_bd hp.fld hfb) hnk (by omega) hi hsb) ?_; clear hF a; intro v w' a hv hF
      obtain ⟨-, hO', hW', hz⟩ := hv
      replace hf := hf.stz hz
      replace hbx := hbx.stz (by decide) hz (fun h => Nat.not_lt.2 hKgr h.2)
      replace hS := hS.transZ hz
      replace hO := hO'
      replace hW := hW'
      clear hO' hW' hz
      refine wn hK ?_
      clear hK K
      replace hF := hF.sub _ (c_ 67 rfl (c_ 66 rfl (c_ 65 rfl (c_ 8 rfl (c_ 64 rfl (c_ 63 rfl (c_ 51 rfl (c_ 62 rfl (c_ 61 rfl (c_ 60 rfl (c_ 59 rfl (c_ 58 rfl (c_ 57 rfl (c_ 56 rfl (c_ 55 rfl (c_ 54 rfl (c_ 53 rfl (c_ 52 rfl (c_ 1 rfl (c_ 2 rfl (c_ 4 rfl (c_ 29 rfl (c_ 30 rfl (c_ 31 rfl (n_)))))))))))))))))))))))))
      refine W_reg rfl fun K hK => ?_
      refine sv2 hF (v_loadR rc96 rfl hbx) (v_move rfl) rfl rfl ?_; clear hF a; intro a hF
      refine sc hF rfl rfl rfl en81 rfl (jclear_ok B N KM wb p hp fv g cap n k bs rc (hp.fld.scC 0 i (hp.fld.inv (f i q)) n (colS i q (n) f)) i _ hS.inv hf hO hW (Nat.le_trans hKM hS.ext.size) hNM (hp.fld.scC_bd (Fld.colS_bd hp.fld hfb)) hnk hi hin) ?_; clear hF a; intro v w' a hv hF
      obtain ⟨-, hO', hW', hz⟩ := hv
      replace hf := hf.stz hz
      replace hbx := hbx.stz (by decide) hz (fun h => Nat.not_lt.2 hKgr h.2)
      replace hS := hS.transZ hz
      replace hO := hO'
      replace hW := hW'
      clear hO' hW' hz
      refine wn hK ?_
      clear hK K
      replace hF := hF.sub _ (c_ 70 rfl (c_ 69 rfl (c_ 67 rfl (c_ 66 rfl (c_ 65 rfl (c_ 8 rfl (c_ 64 rfl (c_ 63 rfl (c_ 51 rfl (c_ 62 rfl (c_ 61 rfl (c_ 60 rfl (c_ 59 rfl (c_ 58 rfl (c_ 57 rfl (c_ 56 rfl (c_ 55 rfl (c_ 54 rfl (c_ 53 rfl (c_ 52 rfl (c_ 1 rfl (c_ 2 rfl (c_ 4 rfl (c_ 29 rfl (c_ 30 rfl (c_ 31 rfl (n_)))))))))))))))))))))))))))
      refine ⟨_, hF, ?_⟩
      exact ⟨rfl, hO, hW.congr (fun r hr l hl => hp.fld.stC_is hq hin r hr l hl), hS⟩
end Go.Proofs.YtkoiolamnnmokaaGreat

/- The walk of package jvan: parity rows. -/
namespace Go.Proofs.YtkoiolamnnmokaaGreat
open Go Go.Gam
namespace FxFJvd
theorem en47 : Ent Tryz.prog 47 := ent Tryz.func47 (by kernel_rfl) (by kernel_rfl)
theorem en48 : Ent Tryz.prog 48 := ent Tryz.func48 (by kernel_rfl) (by kernel_rfl)
theorem en49 : Ent Tryz.prog 49 := ent Tryz.func49 (by kernel_rfl) (by kernel_rfl)
theorem en50 : Ent Tryz.prog 50 := ent Tryz.func50 (by kernel_rfl) (by kernel_rfl)
theorem en51 : Ent Tryz.prog 51 := ent Tryz.func51 (by kernel_rfl) (by kernel_rfl)
theorem on3 : Gam.One Tryz.prog 3 := by unfold Gam.One; kernel_rfl
theorem rc96 : Rec2 Tryz.prog 96 (.pointer none) (.slice none 0 0) := rec2_of Tryz.underlying96 (by kernel_rfl) (by kernel_rfl) (by kernel_rfl)
theorem sc3 : Scalar Tryz.prog 3 := ⟨_, Tryz.underlying3, by simp, by simp⟩
theorem sc53 : Scalar Tryz.prog 53 := ⟨_, Tryz.underlying53, by simp, by simp⟩
theorem sl36 : Sl Tryz.prog 36 53 (.slice none 0 0) 24 := sl_of Tryz.underlying36 rfl (by kernel_rfl)
theorem sl53 : Sl Tryz.prog 53 3 (.int .i64 0) 8 := sl_of Tryz.underlying53 rfl (by kernel_rfl)
end FxFJvd
open FxFJvd
theorem Extended_fit (B : Nat) (o : Fq) (fv : Value) (kn mn : Nat) (w : World) (hI : Inv FDx B w) (hf : Fo FDx B w fv o) (hb : fitB o (kn : Int) (mn : Int) = true) : Ret Tryz.prog 47 [fv, .int .i64 (kn : Int), .int .i64 (mn : Int)] w fun v w' => ∃ g cap bs rc, v = .tuple #[.slice (some ⟨g, 0, none⟩) (kn + mn) cap, .int .i64 0] ∧ Gam.Own FDx B w.heap.size w' 53 (.slice (some ⟨g, 0, none⟩) (kn + mn) cap) (some g) (vls (kn + mn) kn bs rc) ∧ Wr FDx B w.heap.size w'.heap.size w' (kn + mn) kn bs rc (extT o kn mn) ∧ St FDx B w w' := by
 refine (Extended_ok B o fv (kn : Int) (mn : Int) w hI hf).mono fun v w' h => ?_
 rcases h with ⟨⟨h, _⟩ | ⟨_, g, cap, bs, rc, h1, h2, h3⟩, hS⟩
 ·
  rw [hb] at h; cases h
 ·
  rw [show ((kn : Int) + (mn : Int)).toNat = kn + mn by omega] at h1 h2 h3
  simp only [Int.toNat_natCast] at h2 h3
  exact ⟨g, cap, bs, rc, h1, h2, h3, hS⟩
set_option maxRecDepth 100000 in
set_option maxHeartbeats 1000000 in
theorem Parity_fit (B wb p : Nat) (hp : Prm wb p) (fv : Value) (kn mn : Nat) (w : World) (hI : Inv FDx B w) (hf : Fo FDx B w fv (some (wb, p))) (hb : fitB (some (wb, p)) (kn : Int) (mn : Int) = true) : Ret Tryz.prog 26 [fv, .int .i64 (kn : Int), .int .i64 (mn : Int)] w fun v w' => ∃ sa cap, v = .tuple #[.slice sa mn cap, .int .i64 0] ∧ Mat FDx B w'.heap.size w' sa cap (tab mn kn (parT hp kn mn)) ∧ St FDx B w w' := by
 refine enter2 104 [(0, fv), (1, .int .i64 (kn : Int)), (2, .int .i64 (mn : Int))] 6 7 Tryz.func26 rfl rfl rfl rfl rfl ?_; intro a hF
 have hS := St.refl hI
 obtain ⟨-, hb2⟩ := fitB_iff.1 hb
 have hfw := hp.fld_w
 have h16 : 2 ^ wb ≤ 65536 := by rcases hp.w with h | h <;> rw [h] <;> decide
 have hk1 : 1 ≤ kn := by omega
 have hm1 : 1 ≤ mn := by omega
 have h20 : kn + mn ≤ 20 := by omega
 refine W_sr rfl fun K hK => ?_
 refine sv2w hK hF (v_assign rfl) (v_assign rfl) rfl rfl ?_; clear hF a hK K; intro a hF
 refine W_sr rfl fun K hK => ?_
 refine sv3 hF (v_move rfl) (v_move rfl) (v_move rfl) rfl rfl rfl ?_; clear hF a; intro a hF
 refine sc hF rfl rfl rfl en47 rfl (Extended_fit B (some (wb, p)) fv kn mn _ hS.inv hf hb) ?_; clear hF a; intro v w' a hv hF
 obtain ⟨g, cap, bs, rc, rfl, hO, hW, hS'⟩ := hv
 have hs0 := hS.ext.size
 replace hO := hO.le hs0
 replace hW := hW.le hs0
 clear hs0
 obtain ⟨KM, hKe⟩ : ∃ K, K = w'.heap.size := ⟨_, rfl⟩
 rw [← hKe] at hW
 have hKs : KM ≤ w'.heap.size := by omega
 have hNK : w.heap.size ≤ KM := by have := hS'.ext.size; have := hS.ext.size; omega
 clear hKe
 replace hf := hf.st hS'
 replace hS := hS.trans hS'
 clear hS'
 refine sv5w hK hF (v_move rfl) (v_ext rfl rfl) (v_ext rfl rfl) (v_assign rfl) (v_assign rfl) rfl rfl rfl rfl rfl ?_; clear hF a hK K; intro a hF
 replace hF := hF.sub _ (c_ 9 rfl (c_ 8 rfl (c_ 7 rfl (c_ 6 rfl (c_ 0 rfl (c_ 1 rfl (n_)))))))
 refine W_seq ?_
 refine W_sr rfl fun K hK => ?_
 refine sv2w hK hF (v_move rfl) ((v_neq rfl rfl).as (congrArg Value.bool (decide_eq_false (fun h => h rfl)))) rfl rfl ?_; clear hF a hK K; intro a hF
 replace hF := hF.sub _ (c_ 31 rfl (c_ 9 rfl (c_ 8 rfl (c_ 7 rfl (c_ 6 rfl (c_ 0 rfl (c_ 1 rfl (n_))))))))
 refine W_ifF hF rfl ?_
 refine W_skip ?_
 refine W_sr rfl fun K hK => ?_
 refine sv3 hF (v_move rfl) (v_move rfl) (v_buildR rc96 rfl rfl hf.cells1 rfl) rfl rfl rfl ?_; clear hF a; intro a hF
 obtain ⟨gr, hgr⟩ : ∃ x, x = w'.heap.size := ⟨_, rfl⟩
 have hKgr : KM ≤ gr := by omega
 refine s_newR (D := FDx) (B := B) hF rc96 (by decide) (fun q => rfl) (by obtain ⟨a_, h_, -⟩ := hf.ptr; rw [h_]; rfl) rfl rfl ?_; clear hF a; intro w' a hm hbx hsz hF
 rw [← hgr] at hbx hF
 replace hf := hf.mb hm
 replace hO := hO.mb hm (fun _ _ => by simp)
 replace hW := hW.mb0 hm
 replace hS := hS.mb0 hm
 replace hKs := Nat.le_trans hKs hm.size
 clear hm hgr hsz
 skip
 refine wn hK ?_
 clear hK K
 replace hF := hF.sub _ (c_ 10 rfl (c_ 8 rfl (c_ 7 rfl (c_ 6 rfl (c_ 0 rfl (c_ 1 rfl (n_)))))))
 skip
 refine W_sr rfl fun K hK => ?_
 refine sv3w hK hF (v_loadR rc96 rfl hbx) (v_mkfF (cs := [.tmp 36]) (vs := [.agg #[fv, .slice (some ⟨g, 0, none⟩) (kn + mn) cap]]) rfl) (v_assign rfl) rfl rfl rfl ?_; clear hF a hK K; intro a hF
 replace hF := hF.sub _ (c_ 11 rfl (c_ 10 rfl (c_ 8 rfl (c_ 7 rfl (c_ 6 rfl (c_ 0 rfl (c_ 1 rfl (n_))))))))
 refine W_seq ?_
 refine W_sr rfl fun K hK => ?_
 refine sv2w hK hF (v_move rfl) (v_move rfl) rfl rfl ?_; clear hF a hK K; intro a hF
 refine W_block ?_
 refine W_loop (fun q a w1 => ∃ (i : Nat), Fr 104 [(0, fv), (1, .int .i64 (kn : Int)), (8, .slice (some ⟨g, 0, none⟩) (kn + mn) cap), (10, .pointer (some ⟨gr, 0, none⟩)), (11, .func (.func 48) ([.agg #[fv, .slice (some ⟨g, 0, none⟩) (kn + mn) cap]] : List Value).toArray ([] : List Value).toArray), (38, .int .i64 (kn : Int)), (39, .int .i64 (i : Int))] a ∧ (St FDx B w w1) ∧ (Fo FDx B w1 fv (some (wb, p))) ∧ (Blk w1 gr 96 [fv, .slice (some ⟨g, 0, none⟩) (kn + mn) cap]) ∧ (Gam.Own FDx B w.heap.size w1 53 (.slice (some ⟨g, 0, none⟩) (kn + mn) cap) (some g) (vls (kn + mn) kn bs rc)) ∧ (Wr FDx B w.heap.size KM w1 (kn + mn) kn bs rc (redC hp kn mn i)) ∧ (KM ≤ w1.heap.size) ∧ (i ≤ kn) ∧ (q + i = kn)) (kn) ?_ ?_
 ·
  skip
  exact ⟨0, hF.sub _ (c_ 0 rfl (c_ 1 rfl (c_ 8 rfl (c_ 10 rfl (c_ 11 rfl (c_ 38 rfl (c_ 39 rfl (n_)))))))), hS, hf, hbx, hO, hW, hKs, by omega, by omega⟩
 ·
  skip
  clear hF
  clear hS hf hbx hO hW hKs
  rintro q a w1 ⟨i, hF, hS, hf, hbx, hO, hW, hKs, hi, hq⟩
  refine W_sr rfl fun K hK => ?_
  refine svw hK hF (v_lss rfl rfl) rfl ?_; clear hF a hK K; intro a hF
  refine W_seq ?_
  refine W_if hF rfl (fun hc1 => ?_) (fun hc1 => ?_)
  ·
   skip
   try simp only [dcl] at hc1
   have hlt : i < kn := by omega
   obtain ⟨pv, hpv, hrd⟩ := redC_piv hp (k := kn) (m := mn) hk1 hm1 h20 hlt
   refine W_skip ?_
   refine W_seq ?_
   refine W_block ?_
   refine W_sr rfl fun K hK => ?_
   refine sv2w hK hF (v_move rfl) (v_assign rfl) rfl rfl ?_; clear hF a hK K; intro a hF
   replace hF := hF.sub _ (c_ 12 rfl (c_ 0 rfl (c_ 1 rfl (c_ 8 rfl (c_ 10 rfl (c_ 11 rfl (c_ 38 rfl (c_ 39 rfl (n_)))))))))
   refine W_reg rfl fun K hK => ?_
   refine sv2 hF (v_move rfl) (v_move rfl) rfl rfl ?_; clear hF a; intro a hF
   refine sc hF rfl rfl rfl en48 rfl (step_ok B w.heap.size KM wb p hp fv g cap (kn + mn) kn bs rc (redC hp kn mn i) i pv _ hS.inv hf hO hW hKs hNK (redC_bd hp kn mn i) ⟨h20, by omega⟩ hlt (by omega) hpv) ?_; clear hF a; intro v w' a hv hF
   obtain ⟨-, hO', hW', hz⟩ := hv
   replace hf := hf.stz hz
   replace hbx := hbx.stz (by decide) hz (fun h => Nat.not_lt.2 hKgr h.2)
   replace hS := hS.thenZ hz (fun k hk h => Nat.not_lt.2 h.1 hk)
   have hsz := hz.ext.size
   replace hKs := Nat.le_trans hKs hsz
   clear hsz
   replace hO := hO'
   replace hW := hW'
   clear hO' hW' hz
   rw [← hrd] at hW
   refine wn hK ?_
   clear hK K
   replace hF := hF.sub _ (c_ 0 rfl (c_ 1 rfl (c_ 8 rfl (c_ 10 rfl (c_ 11 rfl (c_ 38 rfl (c_ 39 rfl (n_))))))))
   refine W_reg rfl fun K hK => ?_
   refine sv2w hK hF (v_addI rfl rfl (by omega)) (v_move rfl) rfl rfl ?_; clear hF a hK K; intro a hF
   exact ⟨q - 1, by omega, i + 1, hF.sub _ (c_ 0 rfl (c_ 1 rfl (c_ 8 rfl (c_ 10 rfl (c_ 11 rfl (c_ 38 rfl (c_ 39 rfl (n_)))))))), hS, hf, hbx, hO, hW, hKs, by omega, by omega⟩
  ·
   skip
   try simp only [dcl] at hc1
   have hik : i = kn := by omega
   rw [hik] at hW
   refine W_exit rfl ?_
   refine W_seq ?_
   refine W_sr rfl fun K hK => ?_
   refine sv3 hF (v_move rfl) (v_move rfl) (v_ixS sl36 rfl rfl (by omega) (by omega)) rfl rfl rfl ?_; clear hF a; intro a hF
   have hkr := hO.kc (by decide) (vls_at (show kn < kn + mn by omega))
   refine sv hF (v_load sc53 rfl (by rw [toNat_c]; exact hkr.c)) rfl ?_; clear hF a; intro a hF
   clear hkr
   refine sv2w hK hF (v_lenS rfl sl53 rfl) (v_move rfl) rfl rfl ?_; clear hF a hK K; intro a hF
   replace hF := hF.sub _ (c_ 51 rfl (c_ 50 rfl (c_ 49 rfl (c_ 48 rfl (c_ 47 rfl (c_ 46 rfl (c_ 0 rfl (c_ 1 rfl (c_ 8 rfl (c_ 10 rfl (c_ 11 rfl (c_ 38 rfl (c_ 39 rfl (n_))))))))))))))
   refine W_block ?_
   refine W_loop (fun q2 a w3 => ∃ (j : Nat), Fr 104 [(0, fv), (1, .int .i64 (kn : Int)), (8, .slice (some ⟨g, 0, none⟩) (kn + mn) cap), (10, .pointer (some ⟨gr, 0, none⟩)), (49, .slice (some ⟨bs kn, 0, none⟩) kn (rc kn)), (50, .int .i64 (kn : Int)), (51, .int .i64 (j : Int))] a ∧ (St FDx B w w3) ∧ (Fo FDx B w3 fv (some (wb, p))) ∧ (Blk w3 gr 96 [fv, .slice (some ⟨g, 0, none⟩) (kn + mn) cap]) ∧ (Gam.Own FDx B w.heap.size w3 53 (.slice (some ⟨g, 0, none⟩) (kn + mn) cap) (some g) (vls (kn + mn) kn bs rc)) ∧ (Wr FDx B w.heap.size KM w3 (kn + mn) kn bs rc (colI hp kn mn j)) ∧ (KM ≤ w3.heap.size) ∧ (j ≤ kn) ∧ (q2 + j = kn)) (kn) ?_ ?_
   ·
    skip
    exact ⟨0, hF.sub _ (c_ 0 rfl (c_ 1 rfl (c_ 8 rfl (c_ 10 rfl (c_ 49 rfl (c_ 50 rfl (c_ 51 rfl (n_)))))))), hS, hf, hbx, hO, hW.congr (fun a _ b _ => (colI_zero hp).symm), hKs, by omega, by omega⟩
   ·
    skip
    clear hF
    clear hS hf hbx hO hW hKs
    rintro q2 a w3 ⟨j, hF, hS, hf, hbx, hO, hW, hKs, hj, hq2⟩
    refine W_sr rfl fun K hK => ?_
    refine svw hK hF (v_lss rfl rfl) rfl ?_; clear hF a hK K; intro a hF
    refine W_seq ?_
    refine W_if hF rfl (fun hc2 => ?_) (fun hc2 => ?_)
    ·
     skip
     try simp only [dcl] at hc2
     have hlt : j < kn := by omega
     have hg0 := jG_ne hp hk1 hm1 h20 (r := 0) (j := j) (by omega) hlt
     have hgb := jG_bd hp kn mn 0 j
     have hib := hp.fld.inv_lt (jG hp kn mn 0 j)
     rw [hfw] at hgb hib
     refine W_skip ?_
     refine W_seq ?_
     refine W_block ?_
     refine W_sr rfl fun K hK => ?_
     refine sv2 hF (v_move rfl) (v_ixS sl53 rfl rfl (by omega) (by omega)) rfl rfl ?_; clear hF a; intro a hF
     refine sv hF (v_load sc3 rfl (by rw [toNat_c]; exact (by have h := (hW.rd (show kn < kn + mn by omega) hlt).c; rw [colI_at hp] at h; exact h))) rfl ?_; clear hF a; intro a hF
     refine sv2w hK hF (v_assign rfl) (v_assign rfl) rfl rfl ?_; clear hF a hK K; intro a hF
     refine W_sr rfl fun K hK => ?_
     refine sv2 hF (v_move rfl) (v_move rfl) rfl rfl ?_; clear hF a; intro a hF
     refine sc hF rfl rfl rfl en49 rfl (Inv_gf B (some (wb, p)) fv ((jG hp kn mn 0 j : Nat) : Int) _ hS.inv hf) ?_; clear hF a; intro v w' a hv hF
     obtain ⟨rfl, hS'⟩ := hv
     replace hf := hf.st hS'
     replace hO := hO.st (by decide) hS'
     replace hW := hW.st hS'
     replace hbx := hbx.st (by decide) hS'
     replace hKs := Nat.le_trans hKs hS'.ext.size
     replace hS := hS.trans hS'
     clear hS'
     rw [ginv_fld hp hgb hg0] at hF
     refine sv5w hK hF (v_move rfl) (v_ext rfl rfl) (v_ext rfl rfl) (v_assign rfl) (v_assign rfl) rfl rfl rfl rfl rfl ?_; clear hF a hK K; intro a hF
     replace hF := hF.sub _ (c_ 15 rfl (c_ 61 rfl (c_ 60 rfl (c_ 56 rfl (c_ 59 rfl (c_ 58 rfl (c_ 57 rfl (c_ 14 rfl (c_ 13 rfl (c_ 55 rfl (c_ 54 rfl (c_ 53 rfl (c_ 52 rfl (c_ 0 rfl (c_ 1 rfl (c_ 8 rfl (c_ 10 rfl (c_ 49 rfl (c_ 50 rfl (c_ 51 rfl (n_)))))))))))))))))))))
     refine W_reg rfl fun K hK => ?_
     refine sv4 hF (v_loadR rc96 rfl hbx) (v_move rfl) (v_move rfl) (v_move rfl) rfl rfl rfl rfl ?_; clear hF a; intro a hF
     refine sc hF rfl rfl rfl en50 rfl (scale_ok B w.heap.size KM wb p hp fv g cap (kn + mn) kn bs rc (colI hp kn mn j) kn j (hp.fld.inv (jG hp kn mn 0 j)) _ hS.inv hf hO hW hKs hNK (colI_bd hp) ⟨h20, by omega⟩ (by omega) hlt hib) ?_; clear hF a; intro v w' a hv hF
     obtain ⟨-, hO', hW', hz⟩ := hv
     replace hf := hf.stz hz
     replace hbx := hbx.stz (by decide) hz (fun h => Nat.not_lt.2 hKgr h.2)
     replace hS := hS.thenZ hz (fun k hk h => Nat.not_lt.2 h.1 hk)
     have hsz := hz.ext.size
     replace hKs := Nat.le_trans hKs hsz
     clear hsz
     replace hO := hO'
     replace hW := hW'
     clear hO' hW' hz
     replace hW := hW.congr (g := colI hp kn mn (j + 1)) (fun a ha b _ => colI_step hp ha)
     refine wn hK ?_
     clear hK K
     replace hF := hF.sub _ (c_ 65 rfl (c_ 64 rfl (c_ 63 rfl (c_ 62 rfl (c_ 15 rfl (c_ 61 rfl (c_ 60 rfl (c_ 56 rfl (c_ 59 rfl (c_ 58 rfl (c_ 57 rfl (c_ 14 rfl (c_ 13 rfl (c_ 55 rfl (c_ 54 rfl (c_ 53 rfl (c_ 52 rfl (c_ 0 rfl (c_ 1 rfl (c_ 8 rfl (c_ 10 rfl (c_ 49 rfl (c_ 50 rfl (c_ 51 rfl (n_)))))))))))))))))))))))))
     refine W_reg rfl fun K hK => ?_
     refine sv2w hK hF (v_addI rfl rfl (by omega)) (v_move rfl) rfl rfl ?_; clear hF a hK K; intro a hF
     exact ⟨q2 - 1, by omega, j + 1, hF.sub _ (c_ 0 rfl (c_ 1 rfl (c_ 8 rfl (c_ 10 rfl (c_ 49 rfl (c_ 50 rfl (c_ 51 rfl (n_)))))))), hS, hf, hbx, hO, hW, hKs, by omega, by omega⟩
    ·
     skip
     try simp only [dcl] at hc2
     have hjk : j = kn := by omega
     rw [hjk] at hW
     refine W_exit rfl ?_
     refine W_seq ?_
     refine W_sr rfl fun K hK => ?_
     refine sv2 hF (v_move rfl) (v_move rfl) rfl rfl ?_; clear hF a; intro a hF
     refine sv hF ((v_addI rfl rfl (by omega)).as (show Value.int .i64 ((kn : Int) + 1) = .int .i64 ((kn + 1 : Nat) : Int) by simp)) rfl ?_; clear hF a; intro a hF
     have hcap := (hO.row (by decide)).capd
     have hvl := vls_length (kn + mn) kn bs rc
     refine sv3w hK hF (v_slLo sl36 rfl rfl (by omega) (by omega)) (v_lenS rfl sl36 rfl) (v_move rfl) rfl rfl rfl ?_; clear hF a hK K; intro a hF
     refine W_block ?_
     refine W_loop (fun q3 a w4 => ∃ (x : Nat), Fr 104 [(0, fv), (1, .int .i64 (kn : Int)), (8, .slice (some ⟨g, 0, none⟩) (kn + mn) cap), (71, .slice (slA (some ⟨g, 0, none⟩) (kn + 1) cap) (kn + mn - (kn + 1)) (cap - (kn + 1))), (72, .int .i64 ((kn + mn - (kn + 1) : Nat) : Int)), (73, .int .i64 (x : Int))] a ∧ (St FDx B w w4) ∧ (Fo FDx B w4 fv (some (wb, p))) ∧ (Blk w4 gr 96 [fv, .slice (some ⟨g, 0, none⟩) (kn + mn) cap]) ∧ (Gam.Own FDx B w.heap.size w4 53 (.slice (some ⟨g, 0, none⟩) (kn + mn) cap) (some g) (vls (kn + mn) kn bs rc)) ∧ (Wr FDx B w.heap.size KM w4 (kn + mn) kn bs rc (rowI hp kn mn (x) (0))) ∧ (KM ≤ w4.heap.size) ∧ (x ≤ kn + mn - (kn + 1)) ∧ (q3 + x = mn)) (mn) ?_ ?_
     ·
      skip
      exact ⟨0, hF.sub _ (c_ 0 rfl (c_ 1 rfl (c_ 8 rfl (c_ 71 rfl (c_ 72 rfl (c_ 73 rfl (n_))))))), hS, hf, hbx, hO, hW.congr (fun a _ b _ => (rowI_zero hp).symm), hKs, by omega, by omega⟩
     ·
      skip
      clear hF
      clear hS hf hbx hO hW hKs
      rintro q3 a w4 ⟨x, hF, hS, hf, hbx, hO, hW, hKs, hxm, hq3⟩
      refine W_sr rfl fun K hK => ?_
      refine svw hK hF (v_lss rfl rfl) rfl ?_; clear hF a hK K; intro a hF
      refine W_seq ?_
      refine W_if hF rfl (fun hc3 => ?_) (fun hc3 => ?_)
      ·
       skip
       try simp only [dcl] at hc3
       have hx : kn + 1 + x < kn + mn := by omega
       have hx0 := jC_ne hp hk1 hm1 h20 (r := x + 1) (j := 0) (by omega) (by omega)
       have hxb := jC_bd hp kn mn (x + 1) 0
       have hib := hp.fld.inv_lt (jC hp kn mn (x + 1) 0)
       rw [hfw] at hxb hib
       have hkr := hO.kc (by decide) (vls_at hx)
       have hsl : slA (some ⟨g, 0, none⟩) (kn + 1) cap = some ⟨g, 0 + (kn + 1), none⟩ := slA_of (by omega)
       rw [hsl] at hF
       refine W_skip ?_
       refine W_seq ?_
       refine W_block ?_
       refine W_sr rfl fun K hK => ?_
       refine sv hF (v_ixS sl36 rfl rfl (by omega) (by omega)) rfl ?_; clear hF a; intro a hF
       refine sv hF (v_load sc53 rfl (by rw [toNat_c, Nat.add_assoc]; exact hkr.c)) rfl ?_; clear hF a; intro a hF
       refine svw hK hF (v_assign rfl) rfl ?_; clear hF a hK K; intro a hF
       clear hkr
       refine W_sr rfl fun K hK => ?_
       refine sv3 hF (v_move rfl) (v_move rfl) (v_ixS sl53 rfl rfl (by decide) (by omega)) rfl rfl rfl ?_; clear hF a; intro a hF
       refine sv hF (v_load sc3 rfl (by have h := (hW.rd hx (show 0 < kn by omega)).c; rw [rowI_at hp] at h; exact h)) rfl ?_; clear hF a; intro a hF
       refine sc hF rfl rfl rfl en49 rfl (Inv_gf B (some (wb, p)) fv ((jC hp kn mn (x + 1) 0 : Nat) : Int) _ hS.inv hf) ?_; clear hF a; intro v w' a hv hF
       obtain ⟨rfl, hS'⟩ := hv
       replace hf := hf.st hS'
       replace hO := hO.st (by decide) hS'
       replace hW := hW.st hS'
       replace hbx := hbx.st (by decide) hS'
       replace hKs := Nat.le_trans hKs hS'.ext.size
       replace hS := hS.trans hS'
       clear hS'
       rw [ginv_fld hp hxb hx0] at hF
       refine sv5w hK hF (v_move rfl) (v_ext rfl rfl) (v_ext rfl rfl) (v_assign rfl) (v_assign rfl) rfl rfl rfl rfl rfl ?_; clear hF a hK K; intro a hF
       replace hF := hF.sub _ (c_ 19 rfl (c_ 84 rfl (c_ 83 rfl (c_ 77 rfl (c_ 82 rfl (c_ 81 rfl (c_ 80 rfl (c_ 79 rfl (c_ 78 rfl (c_ 18 rfl (c_ 76 rfl (c_ 75 rfl (c_ 74 rfl (c_ 0 rfl (c_ 1 rfl (c_ 8 rfl (c_ 71 rfl (c_ 72 rfl (c_ 73 rfl (n_))))))))))))))))))))
       refine W_sr rfl fun K hK => ?_
       refine sv3w hK hF (v_move rfl) (v_lenS rfl sl53 rfl) (v_move rfl) rfl rfl rfl ?_; clear hF a hK K; intro a hF
       refine W_block ?_
       refine W_loop (fun q4 a w5 => ∃ (j : Nat), Fr 104 [(0, fv), (1, .int .i64 (kn : Int)), (8, .slice (some ⟨g, 0, none⟩) (kn + mn) cap), (18, .slice (some ⟨bs (kn + 1 + x), 0, none⟩) kn (rc (kn + 1 + x))), (19, .int .i64 ((hp.fld.inv (jC hp kn mn (x + 1) 0) : Nat) : Int)), (71, .slice (some ⟨g, 0 + (kn + 1), none⟩) (kn + mn - (kn + 1)) (cap - (kn + 1))), (72, .int .i64 ((kn + mn - (kn + 1) : Nat) : Int)), (73, .int .i64 (x : Int)), (85, .slice (some ⟨bs (kn + 1 + x), 0, none⟩) kn (rc (kn + 1 + x))), (86, .int .i64 (kn : Int)), (87, .int .i64 (j : Int))] a ∧ (St FDx B w w5) ∧ (Fo FDx B w5 fv (some (wb, p))) ∧ (Blk w5 gr 96 [fv, .slice (some ⟨g, 0, none⟩) (kn + mn) cap]) ∧ (Gam.Own FDx B w.heap.size w5 53 (.slice (some ⟨g, 0, none⟩) (kn + mn) cap) (some g) (vls (kn + mn) kn bs rc)) ∧ (Wr FDx B w.heap.size KM w5 (kn + mn) kn bs rc (rowI hp kn mn (x) (j))) ∧ (KM ≤ w5.heap.size) ∧ (j ≤ kn) ∧ (q4 + j = kn)) (kn) ?_ ?_
       ·
        skip
        exact ⟨0, hF.sub _ (c_ 0 rfl (c_ 1 rfl (c_ 8 rfl (c_ 18 rfl (c_ 19 rfl (c_ 71 rfl (c_ 72 rfl (c_ 73 rfl (c_ 85 rfl (c_ 86 rfl (c_ 87 rfl (n_)))))))))))), hS, hf, hbx, hO, hW, hKs, by omega, by omega⟩
       ·
        skip
        clear hF
        clear hS hf hbx hO hW hKs
        rintro q4 a w5 ⟨j, hF, hS, hf, hbx, hO, hW, hKs, hj, hq4⟩
        refine W_sr rfl fun K hK => ?_
        refine svw hK hF (v_lss rfl rfl) rfl ?_; clear hF a hK K; intro a hF
        refine W_seq ?_
        refine W_if hF rfl (fun hc4 => ?_) (fun hc4 => ?_)
        ·
         skip
         try simp only [dcl] at hc4
         have hlt : j < kn := by omega
         have hcb := jC_bd hp kn mn (x + 1) j
         rw [hfw] at hcb
         refine W_skip ?_
         refine W_seq ?_
         refine W_block ?_
         refine W_sr rfl fun K hK => ?_
         refine sv2 hF (v_move rfl) (v_ixS sl53 rfl rfl (by omega) (by omega)) rfl rfl ?_; clear hF a; intro a hF
         refine sv hF (v_load sc3 rfl (by rw [toNat_c]; exact (by have h := (hW.rd hx hlt).c; rw [rowI_at hp] at h; exact h))) rfl ?_; clear hF a; intro a hF
         refine sv2w hK hF (v_assign rfl) (v_assign rfl) rfl rfl ?_; clear hF a hK K; intro a hF
         refine W_reg rfl fun K hK => ?_
         refine sv5 hF (v_move rfl) (v_move rfl) (v_move rfl) (v_move rfl) (v_move rfl) rfl rfl rfl rfl rfl ?_; clear hF a; intro a hF
         refine sc hF rfl rfl rfl en51 rfl (Mul_gf B (some (wb, p)) fv ((jC hp kn mn (x + 1) j : Nat) : Int) ((hp.fld.inv (jC hp kn mn (x + 1) 0) : Nat) : Int) _ hS.inv hf) ?_; clear hF a; intro v w' a hv hF
         obtain ⟨rfl, hS'⟩ := hv
         replace hf := hf.st hS'
         replace hO := hO.st (by decide) hS'
         replace hW := hW.st hS'
         replace hbx := hbx.st (by decide) hS'
         replace hKs := Nat.le_trans hKs hS'.ext.size
         replace hS := hS.trans hS'
         clear hS'
         rw [gmul_num hp hcb hib] at hF
         refine sv hF (v_ixS sl53 rfl rfl (by omega) (by omega)) rfl ?_; clear hF a; intro a hF
         have hR0 := hW.row _ hx
         have hge := hW.ge hx
         refine s_set (D := FDx) (B := B) hF on3 rfl (by rw [toNat_c, zints_length, trow_length]; omega) rfl rfl hR0 (by decide) hS.inv ?_; intro w' hm hI' ho'
         replace hf := hf.mb hm
         replace hO := hO.mb hm (hO.ne_type hR0 (by decide))
         replace hW := hW.set (g := rowI hp kn mn (x) (j + 1)) hx hm (ho'.cast (by rw [toNat_c, Nat.zero_add, zints_set, trow_set (g := rowI hp kn mn (x) (j + 1))]; intro l hl; exact rowI_col hp)) (fun a ha hai l hl => (rowI_ne hp hai))
         replace hbx := hbx.mb hm (hW.ne hx hKgr)
         replace hKs := Nat.le_trans hKs hm.size
         replace hS := hS.mb hm (fun k e => (hR0.lt k e).1)
         replace hR0 := ho'
         clear hm hI' ho'
         clear hR0 hge
         refine wn hK ?_
         clear hK K
         refine W_reg rfl fun K hK => ?_
         refine sv2w hK hF (v_addI rfl rfl (by omega)) (v_move rfl) rfl rfl ?_; clear hF a hK K; intro a hF
         exact ⟨q4 - 1, by omega, j + 1, hF.sub _ (c_ 0 rfl (c_ 1 rfl (c_ 8 rfl (c_ 18 rfl (c_ 19 rfl (c_ 71 rfl (c_ 72 rfl (c_ 73 rfl (c_ 85 rfl (c_ 86 rfl (c_ 87 rfl (n_)))))))))))), hS, hf, hbx, hO, hW, hKs, by omega, by omega⟩
        ·
         skip
         try simp only [dcl] at hc4
         have hjk : j = kn := by omega
         rw [hjk] at hW
         replace hW := hW.congr (g := rowI hp kn mn (x + 1) (0)) (fun a _ b hb => rowI_next hp hb)
         refine W_exit rfl ?_
         rw [← hsl] at hF
         refine W_reg rfl fun K hK => ?_
         refine sv2w hK hF (v_addI rfl rfl (by omega)) (v_move rfl) rfl rfl ?_; clear hF a hK K; intro a hF
         exact ⟨q3 - 1, by omega, x + 1, hF.sub _ (c_ 0 rfl (c_ 1 rfl (c_ 8 rfl (c_ 71 rfl (c_ 72 rfl (c_ 73 rfl (n_))))))), hS, hf, hbx, hO, hW, hKs, by omega, by omega⟩
      ·
       skip
       try simp only [dcl] at hc3
       have hxe : x = mn - 1 := by omega
       rw [hxe] at hW
       have hM0 := (hW.mat (gb := g) hO (by decide)).from (lo := kn) (b := tab mn kn (parT hp kn mn)) (by rw [tab_length]; omega) (rowI_end hp hm1)
       have hcap := (hO.row (by decide)).capd
       have hvl := vls_length (kn + mn) kn bs rc
       refine W_exit rfl ?_
       refine W_sr rfl fun K hK => ?_
       refine sv3 hF (v_move rfl) (v_move rfl) (v_slLo sl36 rfl rfl (by omega) (by omega)) rfl rfl rfl ?_; clear hF a; intro a hF
       rw [show kn + mn - kn = mn by omega] at hF
       refine sv2w hK hF (v_assign rfl) (v_assign rfl) rfl rfl ?_; clear hF a hK K; intro a hF
       refine W_ret ?_
       refine ⟨_, _, _, hF, rfl, rfl, ?_⟩
       exact ⟨_, _, rfl, hM0, hS⟩
end Go.Proofs.YtkoiolamnnmokaaGreat

/- The walk of package profile: parity rows, one text for each profile. -/
namespace Go.Proofs.YtkoiolamnnmokaaGreat
open Go Go.Gam
namespace FxFProf2
theorem en13 : Ent Tryz.prog 13 := ent Tryz.func13 (by kernel_rfl) (by kernel_rfl)
theorem en14 : Ent Tryz.prog 14 := ent Tryz.func14 (by kernel_rfl) (by kernel_rfl)
theorem en26 : Ent Tryz.prog 26 := ent Tryz.func26 (by kernel_rfl) (by kernel_rfl)
theorem en27 : Ent Tryz.prog 27 := ent Tryz.func27 (by kernel_rfl) (by kernel_rfl)
theorem en28 : Ent Tryz.prog 28 := ent Tryz.func28 (by kernel_rfl) (by kernel_rfl)
theorem en29 : Ent Tryz.prog 29 := ent Tryz.func29 (by kernel_rfl) (by kernel_rfl)
theorem en30 : Ent Tryz.prog 30 := ent Tryz.func30 (by kernel_rfl) (by kernel_rfl)
theorem ar65 : ArrOf Tryz.prog 65 6 := ar_of Tryz.underlying65 (by kernel_rfl)
theorem fa23_0 : FieldFact Tryz.prog 23 0 0 := ff_of (sz := 0) Tryz.underlying23 (by kernel_rfl)
theorem fa23_1 : FieldFact Tryz.prog 23 1 1 := ff_of (sz := 0) Tryz.underlying23 (by kernel_rfl)
theorem fa23_2 : FieldFact Tryz.prog 23 2 2 := ff_of (sz := 0) Tryz.underlying23 (by kernel_rfl)
theorem hmix : Tryz.prog.follows .mixedOrders = true := by kernel_rfl
theorem sc3 : Scalar Tryz.prog 3 := ⟨_, Tryz.underlying3, by simp, by simp⟩
theorem sc64 : Scalar Tryz.prog 64 := ⟨_, Tryz.underlying64, by simp, by simp⟩
end FxFProf2
open FxFProf2
theorem PMay_ok (B : Nat) (p k m : Int) (w : World) (hI : Inv FDx B w) : Ret Tryz.prog 14 [.agg #[.int .i64 p, .int .i64 k, .int .i64 m]] w fun v w' => v = .bool (mayP p k m) ∧ St FDx B w w' := by
 by_cases h : 1 ≤ p ∧ p ≤ 6
 ·
  exact PMay_in B p k m w hI h
 ·
  exact PMay_out B p k m w hI h
set_option maxRecDepth 100000 in
set_option maxHeartbeats 1000000 in
theorem PPar_bad (B : Nat) (p k m : Int) (w : World) (hI : Inv FDx B w) (h : mayP p k m = false) : Ret Tryz.prog 11 [.agg #[.int .i64 p, .int .i64 k, .int .i64 m]] w fun v w' => v = .tuple #[.slice none 0 0, .int .i64 1] ∧ St FDx B w w' := by
 refine enter2 24 [(0, .agg #[.int .i64 p, .int .i64 k, .int .i64 m])] 2 3 Tryz.func11 rfl rfl rfl rfl rfl ?_; intro a hF
 have hS := St.refl hI
 refine W_sr rfl fun K hK => ?_
 refine s_box (D := FDx) (B := B) hF rfl (by decide) hS.inv rfl ?_; clear hF a; intro w' a hm hbx hsz hF
 replace hS := hS.mb0 hm
 clear hm
 refine sv2w hK hF (v_assign rfl) (v_assign rfl) rfl rfl ?_; clear hF a hK K; intro a hF
 replace hF := hF.sub _ (c_ 3 rfl (c_ 2 rfl (c_ 1 rfl (n_))))
 refine W_seq ?_
 refine W_sr rfl fun K hK => ?_
 refine sv hF (v_loadN Tryz.underlying23 rfl (by kernel_rfl) rfl hbx) rfl ?_; clear hF a; intro a hF
 refine sc hF rfl rfl rfl en14 rfl (PMay_ok B p k m _ hS.inv) ?_; clear hF a; intro v w' a hv hF
 obtain ⟨rfl, hS'⟩ := hv
 replace hbx := hbx.st (by decide) hS'
 replace hS := hS.trans hS'
 clear hS'
 rw [h] at hF
 refine svw hK hF (v_not rfl) rfl ?_; clear hF a hK K; intro a hF
 replace hF := hF.sub _ (c_ 7 rfl (c_ 3 rfl (c_ 2 rfl (c_ 1 rfl (n_)))))
 refine W_ifT hF rfl ?_
 refine W_sr rfl fun K hK => ?_
 refine sv2w hK hF (v_assign rfl) (v_assign rfl) rfl rfl ?_; clear hF a hK K; intro a hF
 replace hF := hF.sub _ (c_ 3 rfl (c_ 2 rfl (c_ 1 rfl (n_))))
 refine W_ret ?_
 refine ⟨_, _, _, hF, rfl, rfl, ?_⟩
 exact ⟨rfl, hS⟩
set_option maxRecDepth 100000 in
set_option maxHeartbeats 1000000 in
theorem PPar_1 (B kn mn : Nat) (w : World) (hI : Inv FDx B w) (h1 : 1 ≤ kn ∧ kn ≤ 8) (h2 : 1 ≤ mn ∧ mn ≤ 4) : Ret Tryz.prog 11 [.agg #[.int .i64 1, .int .i64 (kn : Int), .int .i64 (mn : Int)]] w fun v w' => ∃ sa cap, v = .tuple #[.slice sa mn cap, .int .i64 0] ∧ Mat FDx B w'.heap.size w' sa cap (tab mn kn (prT 1 kn mn)) ∧ St FDx B w w' := by
 refine enter2 24 [(0, .agg #[.int .i64 1, .int .i64 (kn : Int), .int .i64 (mn : Int)])] 2 3 Tryz.func11 rfl rfl rfl rfl rfl ?_; intro a hF
 have hS := St.refl hI
 refine W_sr rfl fun K hK => ?_
 refine s_box (D := FDx) (B := B) hF rfl (by decide) hS.inv rfl ?_; clear hF a; intro w' a hm hbx hsz hF
 replace hS := hS.mb0 hm
 clear hm
 refine sv2w hK hF (v_assign rfl) (v_assign rfl) rfl rfl ?_; clear hF a hK K; intro a hF
 replace hF := hF.sub _ (c_ 3 rfl (c_ 2 rfl (c_ 1 rfl (n_))))
 refine W_seq ?_
 refine W_sr rfl fun K hK => ?_
 refine sv hF (v_loadN Tryz.underlying23 rfl (by kernel_rfl) rfl hbx) rfl ?_; clear hF a; intro a hF
 refine sc hF rfl rfl rfl en14 rfl (PMay_ok B 1 kn mn _ hS.inv) ?_; clear hF a; intro v w' a hv hF
 obtain ⟨rfl, hS'⟩ := hv
 replace hbx := hbx.st (by decide) hS'
 replace hS := hS.trans hS'
 clear hS'
 rw [mayP_is (by omega) h1 h2 (by omega)] at hF
 refine svw hK hF (v_not rfl) rfl ?_; clear hF a hK K; intro a hF
 replace hF := hF.sub _ (c_ 7 rfl (c_ 3 rfl (c_ 2 rfl (c_ 1 rfl (n_)))))
 refine W_ifF hF rfl ?_
 refine W_skip ?_
 refine W_sr rfl fun K hK => ?_
 refine sv hF (v_build (cs := (fns 26 27 28 29 30 30).toArray) rfl (by kernel_rfl)) rfl ?_; clear hF a; intro a hF
 have hs0 := hS.ext.size
 refine s_allocN (D := FDx) (B := B) (z := .agg (#[.nilFunc, .nilFunc, .nilFunc, .nilFunc, .nilFunc, .nilFunc])) hF (by kernel_rfl) (by decide) hS.inv rfl ?_; clear hF a; intro gT w' a hm hI' hT hF
 replace hbx := hbx.mb hm (by simp)
 replace hS := hS.mb0 hm
 clear hm hI'
 replace hT := hT.le hs0
 clear hs0
 refine s_storeN (D := FDx) (B := B) hF (by kernel_rfl) rfl rfl (rfl) (by rfl) hT hS.inv ?_; intro w' hm hI' hrc'
 replace hbx := hbx.mb hm (by intro e; cases e; exact absurd hT.blk (by intro e2; have := hbx.symm.trans e2; cases this))
 replace hS := hS.mb hm (fun k h => by cases h; exact hT.low)
 replace hT := hrc'
 clear hm hI' hrc'
 refine wn hK ?_
 clear hK K
 replace hF := hF.sub _ (c_ 4 rfl (c_ 3 rfl (c_ 2 rfl (c_ 1 rfl (n_)))))
 refine W_sd (m := 17) rfl hmix hS.inv (fun K hK w1 hS' hh => ?_)
 replace hbx := hbx.st (by decide) hS'
 replace hT := hT.st hS'
 replace hS := hS.trans hS'
 clear hS'
 clear hh
 refine a_v (i := 0) rfl (by kernel_rfl) hF (fun w2 hx => v_fieldAddr fa23_0 rfl) rfl ?_; clear hF a; intro a hF
 refine a_v (i := 1) rfl (by kernel_rfl) hF (fun w2 hx => v_load sc3 rfl (hbx.ld (by decide) hx 0 rfl)) rfl ?_; clear hF a; intro a hF
 refine a_v (i := 2) rfl (by kernel_rfl) hF (fun w2 hx => (v_subI rfl rfl (by omega)).as (show Value.int .i64 (1 - 1) = .int .i64 ((0 : Nat) : Int) from rfl)) rfl ?_; clear hF a; intro a hF
 refine a_v (i := 3) rfl (by kernel_rfl) hF (fun w2 hx => v_ixA ar65 rfl rfl (by omega) (by omega)) rfl ?_; clear hF a; intro a hF
 refine a_v (i := 4) rfl (by kernel_rfl) hF (fun w2 hx => v_load sc64 rfl ((hT.kc 0 rfl).ld hx)) rfl ?_; clear hF a; intro a hF
 refine a_v (i := 5) rfl (by kernel_rfl) hF (fun w2 hx => v_fieldAddr fa23_0 rfl) rfl ?_; clear hF a; intro a hF
 refine a_v (i := 6) rfl (by kernel_rfl) hF (fun w2 hx => v_load sc3 rfl (hbx.ld (by decide) hx 0 rfl)) rfl ?_; clear hF a; intro a hF
 refine a_v (i := 8) rfl (by kernel_rfl) hF (fun w2 hx => v_fieldAddr fa23_1 rfl) rfl ?_; clear hF a; intro a hF
 refine a_v (i := 9) rfl (by kernel_rfl) hF (fun w2 hx => v_load sc3 rfl (hbx.ld (by decide) hx 1 rfl)) rfl ?_; clear hF a; intro a hF
 refine a_v (i := 10) rfl (by kernel_rfl) hF (fun w2 hx => v_fieldAddr fa23_2 rfl) rfl ?_; clear hF a; intro a hF
 refine a_v (i := 11) rfl (by kernel_rfl) hF (fun w2 hx => v_load sc3 rfl (hbx.ld (by decide) hx 2 rfl)) rfl ?_; clear hF a; intro a hF
 refine a_e (i := 7) rfl (by kernel_rfl) ?_
 refine sc hF rfl rfl rfl en13 rfl (PField_in B 1 _ hS.inv (by omega)) ?_; clear hF a; intro v w' a hv hF
 obtain ⟨fv, hfv⟩ : ∃ x, x = v := ⟨_, rfl⟩
 subst hfv
 obtain ⟨hf, hS'⟩ := hv
 replace hf : Fo FDx B _ fv (some (8, 285)) := hf
 refine WL_nil ⟨hS'.ext, ?_⟩
 replace hbx := hbx.st (by decide) hS'
 replace hT := hT.st hS'
 replace hS := hS.trans hS'
 clear hS'
 refine a_e (i := 12) rfl (by kernel_rfl) ?_
 refine sc hF rfl rfl rfl en26 rfl (Parity_fit B 8 285 prm_285 fv kn mn _ hS.inv hf (fitB_ok rfl (by omega) (by omega) (by omega))) ?_; clear hF a; intro v w' a hv hF
 obtain ⟨sX, cX, rfl, hX, hS'⟩ := hv
 refine WL_nil ⟨hS'.ext, ?_⟩
 replace hbx := hbx.st (by decide) hS'
 replace hT := hT.st hS'
 replace hf := hf.st hS'
 replace hS := hS.trans hS'
 clear hS'
 refine a_v (i := 13) rfl (by kernel_rfl) hF (fun w2 hx => v_ext rfl rfl) rfl ?_; clear hF a; intro a hF
 refine a_v (i := 14) rfl (by kernel_rfl) hF (fun w2 hx => v_ext rfl rfl) rfl ?_; clear hF a; intro a hF
 refine a_v (i := 15) rfl (by kernel_rfl) hF (fun w2 hx => v_assign rfl) rfl ?_; clear hF a; intro a hF
 refine a_v (i := 16) rfl (by kernel_rfl) hF (fun w2 hx => v_assign rfl) rfl ?_; clear hF a; intro a hF
 refine a_done (by kernel_rfl) (hK _ _ ?_)
 clear hK K
 replace hF := hF.sub _ (c_ 3 rfl (c_ 2 rfl (n_)))
 refine W_ret ?_
 refine ⟨_, _, _, hF, rfl, rfl, ?_⟩
 exact ⟨_, _, by first | rfl | (rw [tab_length]; rfl), by unfold prT; simpa using hX, hS⟩
set_option maxRecDepth 100000 in
set_option maxHeartbeats 1000000 in
theorem PPar_2 (B kn mn : Nat) (w : World) (hI : Inv FDx B w) (h1 : 1 ≤ kn ∧ kn ≤ 8) (h2 : 1 ≤ mn ∧ mn ≤ 4) : Ret Tryz.prog 11 [.agg #[.int .i64 2, .int .i64 (kn : Int), .int .i64 (mn : Int)]] w fun v w' => ∃ sa cap, v = .tuple #[.slice sa mn cap, .int .i64 0] ∧ Mat FDx B w'.heap.size w' sa cap (tab mn kn (prT 2 kn mn)) ∧ St FDx B w w' := by
 refine enter2 24 [(0, .agg #[.int .i64 2, .int .i64 (kn : Int), .int .i64 (mn : Int)])] 2 3 Tryz.func11 rfl rfl rfl rfl rfl ?_; intro a hF
 have hS := St.refl hI
 refine W_sr rfl fun K hK => ?_
 refine s_box (D := FDx) (B := B) hF rfl (by decide) hS.inv rfl ?_; clear hF a; intro w' a hm hbx hsz hF
 replace hS := hS.mb0 hm
 clear hm
 refine sv2w hK hF (v_assign rfl) (v_assign rfl) rfl rfl ?_; clear hF a hK K; intro a hF
 replace hF := hF.sub _ (c_ 3 rfl (c_ 2 rfl (c_ 1 rfl (n_))))
 refine W_seq ?_
 refine W_sr rfl fun K hK => ?_
 refine sv hF (v_loadN Tryz.underlying23 rfl (by kernel_rfl) rfl hbx) rfl ?_; clear hF a; intro a hF
 refine sc hF rfl rfl rfl en14 rfl (PMay_ok B 2 kn mn _ hS.inv) ?_; clear hF a; intro v w' a hv hF
 obtain ⟨rfl, hS'⟩ := hv
 replace hbx := hbx.st (by decide) hS'
 replace hS := hS.trans hS'
 clear hS'
 rw [mayP_is (by omega) h1 h2 (by omega)] at hF
 refine svw hK hF (v_not rfl) rfl ?_; clear hF a hK K; intro a hF
 replace hF := hF.sub _ (c_ 7 rfl (c_ 3 rfl (c_ 2 rfl (c_ 1 rfl (n_)))))
 refine W_ifF hF rfl ?_
 refine W_skip ?_
 refine W_sr rfl fun K hK => ?_
 refine sv hF (v_build (cs := (fns 26 27 28 29 30 30).toArray) rfl (by kernel_rfl)) rfl ?_; clear hF a; intro a hF
 have hs0 := hS.ext.size
 refine s_allocN (D := FDx) (B := B) (z := .agg (#[.nilFunc, .nilFunc, .nilFunc, .nilFunc, .nilFunc, .nilFunc])) hF (by kernel_rfl) (by decide) hS.inv rfl ?_; clear hF a; intro gT w' a hm hI' hT hF
 replace hbx := hbx.mb hm (by simp)
 replace hS := hS.mb0 hm
 clear hm hI'
 replace hT := hT.le hs0
 clear hs0
 refine s_storeN (D := FDx) (B := B) hF (by kernel_rfl) rfl rfl (rfl) (by rfl) hT hS.inv ?_; intro w' hm hI' hrc'
 replace hbx := hbx.mb hm (by intro e; cases e; exact absurd hT.blk (by intro e2; have := hbx.symm.trans e2; cases this))
 replace hS := hS.mb hm (fun k h => by cases h; exact hT.low)
 replace hT := hrc'
 clear hm hI' hrc'
 refine wn hK ?_
 clear hK K
 replace hF := hF.sub _ (c_ 4 rfl (c_ 3 rfl (c_ 2 rfl (c_ 1 rfl (n_)))))
 refine W_sd (m := 17) rfl hmix hS.inv (fun K hK w1 hS' hh => ?_)
 replace hbx := hbx.st (by decide) hS'
 replace hT := hT.st hS'
 replace hS := hS.trans hS'
 clear hS'
 clear hh
 refine a_v (i := 0) rfl (by kernel_rfl) hF (fun w2 hx => v_fieldAddr fa23_0 rfl) rfl ?_; clear hF a; intro a hF
 refine a_v (i := 1) rfl (by kernel_rfl) hF (fun w2 hx => v_load sc3 rfl (hbx.ld (by decide) hx 0 rfl)) rfl ?_; clear hF a; intro a hF
 refine a_v (i := 2) rfl (by kernel_rfl) hF (fun w2 hx => (v_subI rfl rfl (by omega)).as (show Value.int .i64 (2 - 1) = .int .i64 ((1 : Nat) : Int) from rfl)) rfl ?_; clear hF a; intro a hF
 refine a_v (i := 3) rfl (by kernel_rfl) hF (fun w2 hx => v_ixA ar65 rfl rfl (by omega) (by omega)) rfl ?_; clear hF a; intro a hF
 refine a_v (i := 4) rfl (by kernel_rfl) hF (fun w2 hx => v_load sc64 rfl ((hT.kc 1 rfl).ld hx)) rfl ?_; clear hF a; intro a hF
 refine a_v (i := 5) rfl (by kernel_rfl) hF (fun w2 hx => v_fieldAddr fa23_0 rfl) rfl ?_; clear hF a; intro a hF
 refine a_v (i := 6) rfl (by kernel_rfl) hF (fun w2 hx => v_load sc3 rfl (hbx.ld (by decide) hx 0 rfl)) rfl ?_; clear hF a; intro a hF
 refine a_v (i := 8) rfl (by kernel_rfl) hF (fun w2 hx => v_fieldAddr fa23_1 rfl) rfl ?_; clear hF a; intro a hF
 refine a_v (i := 9) rfl (by kernel_rfl) hF (fun w2 hx => v_load sc3 rfl (hbx.ld (by decide) hx 1 rfl)) rfl ?_; clear hF a; intro a hF
 refine a_v (i := 10) rfl (by kernel_rfl) hF (fun w2 hx => v_fieldAddr fa23_2 rfl) rfl ?_; clear hF a; intro a hF
 refine a_v (i := 11) rfl (by kernel_rfl) hF (fun w2 hx => v_load sc3 rfl (hbx.ld (by decide) hx 2 rfl)) rfl ?_; clear hF a; intro a hF
 refine a_e (i := 7) rfl (by kernel_rfl) ?_
 refine sc hF rfl rfl rfl en13 rfl (PField_in B 2 _ hS.inv (by omega)) ?_; clear hF a; intro v w' a hv hF
 obtain ⟨fv, hfv⟩ : ∃ x, x = v := ⟨_, rfl⟩
 subst hfv
 obtain ⟨hf, hS'⟩ := hv
 replace hf : Fo FDx B _ fv (some (16, 69643)) := hf
 refine WL_nil ⟨hS'.ext, ?_⟩
 replace hbx := hbx.st (by decide) hS'
 replace hT := hT.st hS'
 replace hS := hS.trans hS'
 clear hS'
 refine a_e (i := 12) rfl (by kernel_rfl) ?_
 refine sc hF rfl rfl rfl en27 rfl (Orig_ok B 16 69643 prm_69643 fv (kn : Int) (mn : Int) _ hS.inv hf) ?_; clear hF a; intro v w' a hv hF
 obtain ⟨obX, uX, rfl, hoX, hS'⟩ := hv
 rw [(origM_is prm_69643 (k := kn) (m := mn) (by omega) (by omega) (by omega))] at hoX hF
 try simp only [Option.getD_some, Option.getD_none] at hoX
 obtain ⟨sX, cX, rfl, hX⟩ := hoX.mat (by decide) (Nat.zero_le _)
 clear hoX
 refine WL_nil ⟨hS'.ext, ?_⟩
 replace hbx := hbx.st (by decide) hS'
 replace hT := hT.st hS'
 replace hf := hf.st hS'
 replace hS := hS.trans hS'
 clear hS'
 refine a_v (i := 13) rfl (by kernel_rfl) hF (fun w2 hx => v_ext rfl rfl) rfl ?_; clear hF a; intro a hF
 refine a_v (i := 14) rfl (by kernel_rfl) hF (fun w2 hx => v_ext rfl rfl) rfl ?_; clear hF a; intro a hF
 refine a_v (i := 15) rfl (by kernel_rfl) hF (fun w2 hx => v_assign rfl) rfl ?_; clear hF a; intro a hF
 refine a_v (i := 16) rfl (by kernel_rfl) hF (fun w2 hx => v_assign rfl) rfl ?_; clear hF a; intro a hF
 refine a_done (by kernel_rfl) (hK _ _ ?_)
 clear hK K
 replace hF := hF.sub _ (c_ 3 rfl (c_ 2 rfl (n_)))
 refine W_ret ?_
 refine ⟨_, _, _, hF, rfl, rfl, ?_⟩
 exact ⟨_, _, by first | rfl | (rw [tab_length]; rfl), by unfold prT; simpa using hX, hS⟩
set_option maxRecDepth 100000 in
set_option maxHeartbeats 1000000 in
theorem PPar_3 (B kn mn : Nat) (w : World) (hI : Inv FDx B w) (h1 : 1 ≤ kn ∧ kn ≤ 8) (h2 : 1 ≤ mn ∧ mn ≤ 4) (h3 : mn ≤ 3) : Ret Tryz.prog 11 [.agg #[.int .i64 3, .int .i64 (kn : Int), .int .i64 (mn : Int)]] w fun v w' => ∃ sa cap, v = .tuple #[.slice sa mn cap, .int .i64 0] ∧ Mat FDx B w'.heap.size w' sa cap (tab mn kn (prT 3 kn mn)) ∧ St FDx B w w' := by
 refine enter2 24 [(0, .agg #[.int .i64 3, .int .i64 (kn : Int), .int .i64 (mn : Int)])] 2 3 Tryz.func11 rfl rfl rfl rfl rfl ?_; intro a hF
 have hS := St.refl hI
 refine W_sr rfl fun K hK => ?_
 refine s_box (D := FDx) (B := B) hF rfl (by decide) hS.inv rfl ?_; clear hF a; intro w' a hm hbx hsz hF
 replace hS := hS.mb0 hm
 clear hm
 refine sv2w hK hF (v_assign rfl) (v_assign rfl) rfl rfl ?_; clear hF a hK K; intro a hF
 replace hF := hF.sub _ (c_ 3 rfl (c_ 2 rfl (c_ 1 rfl (n_))))
 refine W_seq ?_
 refine W_sr rfl fun K hK => ?_
 refine sv hF (v_loadN Tryz.underlying23 rfl (by kernel_rfl) rfl hbx) rfl ?_; clear hF a; intro a hF
 refine sc hF rfl rfl rfl en14 rfl (PMay_ok B 3 kn mn _ hS.inv) ?_; clear hF a; intro v w' a hv hF
 obtain ⟨rfl, hS'⟩ := hv
 replace hbx := hbx.st (by decide) hS'
 replace hS := hS.trans hS'
 clear hS'
 rw [mayP_is (by omega) h1 h2 (by omega)] at hF
 refine svw hK hF (v_not rfl) rfl ?_; clear hF a hK K; intro a hF
 replace hF := hF.sub _ (c_ 7 rfl (c_ 3 rfl (c_ 2 rfl (c_ 1 rfl (n_)))))
 refine W_ifF hF rfl ?_
 refine W_skip ?_
 refine W_sr rfl fun K hK => ?_
 refine sv hF (v_build (cs := (fns 26 27 28 29 30 30).toArray) rfl (by kernel_rfl)) rfl ?_; clear hF a; intro a hF
 have hs0 := hS.ext.size
 refine s_allocN (D := FDx) (B := B) (z := .agg (#[.nilFunc, .nilFunc, .nilFunc, .nilFunc, .nilFunc, .nilFunc])) hF (by kernel_rfl) (by decide) hS.inv rfl ?_; clear hF a; intro gT w' a hm hI' hT hF
 replace hbx := hbx.mb hm (by simp)
 replace hS := hS.mb0 hm
 clear hm hI'
 replace hT := hT.le hs0
 clear hs0
 refine s_storeN (D := FDx) (B := B) hF (by kernel_rfl) rfl rfl (rfl) (by rfl) hT hS.inv ?_; intro w' hm hI' hrc'
 replace hbx := hbx.mb hm (by intro e; cases e; exact absurd hT.blk (by intro e2; have := hbx.symm.trans e2; cases this))
 replace hS := hS.mb hm (fun k h => by cases h; exact hT.low)
 replace hT := hrc'
 clear hm hI' hrc'
 refine wn hK ?_
 clear hK K
 replace hF := hF.sub _ (c_ 4 rfl (c_ 3 rfl (c_ 2 rfl (c_ 1 rfl (n_)))))
 refine W_sd (m := 17) rfl hmix hS.inv (fun K hK w1 hS' hh => ?_)
 replace hbx := hbx.st (by decide) hS'
 replace hT := hT.st hS'
 replace hS := hS.trans hS'
 clear hS'
 clear hh
 refine a_v (i := 0) rfl (by kernel_rfl) hF (fun w2 hx => v_fieldAddr fa23_0 rfl) rfl ?_; clear hF a; intro a hF
 refine a_v (i := 1) rfl (by kernel_rfl) hF (fun w2 hx => v_load sc3 rfl (hbx.ld (by decide) hx 0 rfl)) rfl ?_; clear hF a; intro a hF
 refine a_v (i := 2) rfl (by kernel_rfl) hF (fun w2 hx => (v_subI rfl rfl (by omega)).as (show Value.int .i64 (3 - 1) = .int .i64 ((2 : Nat) : Int) from rfl)) rfl ?_; clear hF a; intro a hF
 refine a_v (i := 3) rfl (by kernel_rfl) hF (fun w2 hx => v_ixA ar65 rfl rfl (by omega) (by omega)) rfl ?_; clear hF a; intro a hF
 refine a_v (i := 4) rfl (by kernel_rfl) hF (fun w2 hx => v_load sc64 rfl ((hT.kc 2 rfl).ld hx)) rfl ?_; clear hF a; intro a hF
 refine a_v (i := 5) rfl (by kernel_rfl) hF (fun w2 hx => v_fieldAddr fa23_0 rfl) rfl ?_; clear hF a; intro a hF
 refine a_v (i := 6) rfl (by kernel_rfl) hF (fun w2 hx => v_load sc3 rfl (hbx.ld (by decide) hx 0 rfl)) rfl ?_; clear hF a; intro a hF
 refine a_v (i := 8) rfl (by kernel_rfl) hF (fun w2 hx => v_fieldAddr fa23_1 rfl) rfl ?_; clear hF a; intro a hF
 refine a_v (i := 9) rfl (by kernel_rfl) hF (fun w2 hx => v_load sc3 rfl (hbx.ld (by decide) hx 1 rfl)) rfl ?_; clear hF a; intro a hF
 refine a_v (i := 10) rfl (by kernel_rfl) hF (fun w2 hx => v_fieldAddr fa23_2 rfl) rfl ?_; clear hF a; intro a hF
 refine a_v (i := 11) rfl (by kernel_rfl) hF (fun w2 hx => v_load sc3 rfl (hbx.ld (by decide) hx 2 rfl)) rfl ?_; clear hF a; intro a hF
 refine a_e (i := 7) rfl (by kernel_rfl) ?_
 refine sc hF rfl rfl rfl en13 rfl (PField_in B 3 _ hS.inv (by omega)) ?_; clear hF a; intro v w' a hv hF
 obtain ⟨fv, hfv⟩ : ∃ x, x = v := ⟨_, rfl⟩
 subst hfv
 obtain ⟨hf, hS'⟩ := hv
 replace hf : Fo FDx B _ fv (some (8, 285)) := hf
 refine WL_nil ⟨hS'.ext, ?_⟩
 replace hbx := hbx.st (by decide) hS'
 replace hT := hT.st hS'
 replace hS := hS.trans hS'
 clear hS'
 refine a_e (i := 12) rfl (by kernel_rfl) ?_
 refine sc hF rfl rfl rfl en28 rfl (Isal_ok B (some (8, 285)) fv (kn : Int) (mn : Int) _ hS.inv hf) ?_; clear hF a; intro v w' a hv hF
 obtain ⟨obX, uX, rfl, hoX, hS'⟩ := hv
 rw [(isalM_is (o := some (8, 285)) rfl (k := kn) (m := mn) (by omega) (by omega) (by omega))] at hoX hF
 try simp only [Option.getD_some, Option.getD_none] at hoX
 obtain ⟨sX, cX, rfl, hX⟩ := hoX.mat (by decide) (Nat.zero_le _)
 clear hoX
 refine WL_nil ⟨hS'.ext, ?_⟩
 replace hbx := hbx.st (by decide) hS'
 replace hT := hT.st hS'
 replace hf := hf.st hS'
 replace hS := hS.trans hS'
 clear hS'
 refine a_v (i := 13) rfl (by kernel_rfl) hF (fun w2 hx => v_ext rfl rfl) rfl ?_; clear hF a; intro a hF
 refine a_v (i := 14) rfl (by kernel_rfl) hF (fun w2 hx => v_ext rfl rfl) rfl ?_; clear hF a; intro a hF
 refine a_v (i := 15) rfl (by kernel_rfl) hF (fun w2 hx => v_assign rfl) rfl ?_; clear hF a; intro a hF
 refine a_v (i := 16) rfl (by kernel_rfl) hF (fun w2 hx => v_assign rfl) rfl ?_; clear hF a; intro a hF
 refine a_done (by kernel_rfl) (hK _ _ ?_)
 clear hK K
 replace hF := hF.sub _ (c_ 3 rfl (c_ 2 rfl (n_)))
 refine W_ret ?_
 refine ⟨_, _, _, hF, rfl, rfl, ?_⟩
 exact ⟨_, _, by first | rfl | (rw [tab_length]; rfl), by unfold prT; simpa using hX, hS⟩
set_option maxRecDepth 100000 in
set_option maxHeartbeats 1000000 in
theorem PPar_4 (B kn mn : Nat) (w : World) (hI : Inv FDx B w) (h1 : 1 ≤ kn ∧ kn ≤ 8) (h2 : 1 ≤ mn ∧ mn ≤ 4) : Ret Tryz.prog 11 [.agg #[.int .i64 4, .int .i64 (kn : Int), .int .i64 (mn : Int)]] w fun v w' => ∃ sa cap, v = .tuple #[.slice sa mn cap, .int .i64 0] ∧ Mat FDx B w'.heap.size w' sa cap (tab mn kn (prT 4 kn mn)) ∧ St FDx B w w' := by
 refine enter2 24 [(0, .agg #[.int .i64 4, .int .i64 (kn : Int), .int .i64 (mn : Int)])] 2 3 Tryz.func11 rfl rfl rfl rfl rfl ?_; intro a hF
 have hS := St.refl hI
 refine W_sr rfl fun K hK => ?_
 refine s_box (D := FDx) (B := B) hF rfl (by decide) hS.inv rfl ?_; clear hF a; intro w' a hm hbx hsz hF
 replace hS := hS.mb0 hm
 clear hm
 refine sv2w hK hF (v_assign rfl) (v_assign rfl) rfl rfl ?_; clear hF a hK K; intro a hF
 replace hF := hF.sub _ (c_ 3 rfl (c_ 2 rfl (c_ 1 rfl (n_))))
 refine W_seq ?_
 refine W_sr rfl fun K hK => ?_
 refine sv hF (v_loadN Tryz.underlying23 rfl (by kernel_rfl) rfl hbx) rfl ?_; clear hF a; intro a hF
 refine sc hF rfl rfl rfl en14 rfl (PMay_ok B 4 kn mn _ hS.inv) ?_; clear hF a; intro v w' a hv hF
 obtain ⟨rfl, hS'⟩ := hv
 replace hbx := hbx.st (by decide) hS'
 replace hS := hS.trans hS'
 clear hS'
 rw [mayP_is (by omega) h1 h2 (by omega)] at hF
 refine svw hK hF (v_not rfl) rfl ?_; clear hF a hK K; intro a hF
 replace hF := hF.sub _ (c_ 7 rfl (c_ 3 rfl (c_ 2 rfl (c_ 1 rfl (n_)))))
 refine W_ifF hF rfl ?_
 refine W_skip ?_
 refine W_sr rfl fun K hK => ?_
 refine sv hF (v_build (cs := (fns 26 27 28 29 30 30).toArray) rfl (by kernel_rfl)) rfl ?_; clear hF a; intro a hF
 have hs0 := hS.ext.size
 refine s_allocN (D := FDx) (B := B) (z := .agg (#[.nilFunc, .nilFunc, .nilFunc, .nilFunc, .nilFunc, .nilFunc])) hF (by kernel_rfl) (by decide) hS.inv rfl ?_; clear hF a; intro gT w' a hm hI' hT hF
 replace hbx := hbx.mb hm (by simp)
 replace hS := hS.mb0 hm
 clear hm hI'
 replace hT := hT.le hs0
 clear hs0
 refine s_storeN (D := FDx) (B := B) hF (by kernel_rfl) rfl rfl (rfl) (by rfl) hT hS.inv ?_; intro w' hm hI' hrc'
 replace hbx := hbx.mb hm (by intro e; cases e; exact absurd hT.blk (by intro e2; have := hbx.symm.trans e2; cases this))
 replace hS := hS.mb hm (fun k h => by cases h; exact hT.low)
 replace hT := hrc'
 clear hm hI' hrc'
 refine wn hK ?_
 clear hK K
 replace hF := hF.sub _ (c_ 4 rfl (c_ 3 rfl (c_ 2 rfl (c_ 1 rfl (n_)))))
 refine W_sd (m := 17) rfl hmix hS.inv (fun K hK w1 hS' hh => ?_)
 replace hbx := hbx.st (by decide) hS'
 replace hT := hT.st hS'
 replace hS := hS.trans hS'
 clear hS'
 clear hh
 refine a_v (i := 0) rfl (by kernel_rfl) hF (fun w2 hx => v_fieldAddr fa23_0 rfl) rfl ?_; clear hF a; intro a hF
 refine a_v (i := 1) rfl (by kernel_rfl) hF (fun w2 hx => v_load sc3 rfl (hbx.ld (by decide) hx 0 rfl)) rfl ?_; clear hF a; intro a hF
 refine a_v (i := 2) rfl (by kernel_rfl) hF (fun w2 hx => (v_subI rfl rfl (by omega)).as (show Value.int .i64 (4 - 1) = .int .i64 ((3 : Nat) : Int) from rfl)) rfl ?_; clear hF a; intro a hF
 refine a_v (i := 3) rfl (by kernel_rfl) hF (fun w2 hx => v_ixA ar65 rfl rfl (by omega) (by omega)) rfl ?_; clear hF a; intro a hF
 refine a_v (i := 4) rfl (by kernel_rfl) hF (fun w2 hx => v_load sc64 rfl ((hT.kc 3 rfl).ld hx)) rfl ?_; clear hF a; intro a hF
 refine a_v (i := 5) rfl (by kernel_rfl) hF (fun w2 hx => v_fieldAddr fa23_0 rfl) rfl ?_; clear hF a; intro a hF
 refine a_v (i := 6) rfl (by kernel_rfl) hF (fun w2 hx => v_load sc3 rfl (hbx.ld (by decide) hx 0 rfl)) rfl ?_; clear hF a; intro a hF
 refine a_v (i := 8) rfl (by kernel_rfl) hF (fun w2 hx => v_fieldAddr fa23_1 rfl) rfl ?_; clear hF a; intro a hF
 refine a_v (i := 9) rfl (by kernel_rfl) hF (fun w2 hx => v_load sc3 rfl (hbx.ld (by decide) hx 1 rfl)) rfl ?_; clear hF a; intro a hF
 refine a_v (i := 10) rfl (by kernel_rfl) hF (fun w2 hx => v_fieldAddr fa23_2 rfl) rfl ?_; clear hF a; intro a hF
 refine a_v (i := 11) rfl (by kernel_rfl) hF (fun w2 hx => v_load sc3 rfl (hbx.ld (by decide) hx 2 rfl)) rfl ?_; clear hF a; intro a hF
 refine a_e (i := 7) rfl (by kernel_rfl) ?_
 refine sc hF rfl rfl rfl en13 rfl (PField_in B 4 _ hS.inv (by omega)) ?_; clear hF a; intro v w' a hv hF
 obtain ⟨fv, hfv⟩ : ∃ x, x = v := ⟨_, rfl⟩
 subst hfv
 obtain ⟨hf, hS'⟩ := hv
 replace hf : Fo FDx B _ fv (some (8, 285)) := hf
 refine WL_nil ⟨hS'.ext, ?_⟩
 replace hbx := hbx.st (by decide) hS'
 replace hT := hT.st hS'
 replace hS := hS.trans hS'
 clear hS'
 refine a_e (i := 12) rfl (by kernel_rfl) ?_
 refine sc hF rfl rfl rfl en29 rfl (CIsal_ok B 8 285 prm_285 fv (kn : Int) (mn : Int) _ hS.inv hf) ?_; clear hF a; intro v w' a hv hF
 obtain ⟨obX, uX, rfl, hoX, hS'⟩ := hv
 rw [(cisaM_is prm_285 (k := kn) (m := mn) (by omega) (by omega) (by omega))] at hoX hF
 try simp only [Option.getD_some, Option.getD_none] at hoX
 obtain ⟨sX, cX, rfl, hX⟩ := hoX.mat (by decide) (Nat.zero_le _)
 clear hoX
 refine WL_nil ⟨hS'.ext, ?_⟩
 replace hbx := hbx.st (by decide) hS'
 replace hT := hT.st hS'
 replace hf := hf.st hS'
 replace hS := hS.trans hS'
 clear hS'
 refine a_v (i := 13) rfl (by kernel_rfl) hF (fun w2 hx => v_ext rfl rfl) rfl ?_; clear hF a; intro a hF
 refine a_v (i := 14) rfl (by kernel_rfl) hF (fun w2 hx => v_ext rfl rfl) rfl ?_; clear hF a; intro a hF
 refine a_v (i := 15) rfl (by kernel_rfl) hF (fun w2 hx => v_assign rfl) rfl ?_; clear hF a; intro a hF
 refine a_v (i := 16) rfl (by kernel_rfl) hF (fun w2 hx => v_assign rfl) rfl ?_; clear hF a; intro a hF
 refine a_done (by kernel_rfl) (hK _ _ ?_)
 clear hK K
 replace hF := hF.sub _ (c_ 3 rfl (c_ 2 rfl (n_)))
 refine W_ret ?_
 refine ⟨_, _, _, hF, rfl, rfl, ?_⟩
 exact ⟨_, _, by first | rfl | (rw [tab_length]; rfl), by unfold prT; simpa using hX, hS⟩
set_option maxRecDepth 100000 in
set_option maxHeartbeats 1000000 in
theorem PPar_5 (B kn mn : Nat) (w : World) (hI : Inv FDx B w) (h1 : 1 ≤ kn ∧ kn ≤ 8) (h2 : 1 ≤ mn ∧ mn ≤ 4) : Ret Tryz.prog 11 [.agg #[.int .i64 5, .int .i64 (kn : Int), .int .i64 (mn : Int)]] w fun v w' => ∃ sa cap, v = .tuple #[.slice sa mn cap, .int .i64 0] ∧ Mat FDx B w'.heap.size w' sa cap (tab mn kn (prT 5 kn mn)) ∧ St FDx B w w' := by
 refine enter2 24 [(0, .agg #[.int .i64 5, .int .i64 (kn : Int), .int .i64 (mn : Int)])] 2 3 Tryz.func11 rfl rfl rfl rfl rfl ?_; intro a hF
 have hS := St.refl hI
 refine W_sr rfl fun K hK => ?_
 refine s_box (D := FDx) (B := B) hF rfl (by decide) hS.inv rfl ?_; clear hF a; intro w' a hm hbx hsz hF
 replace hS := hS.mb0 hm
 clear hm
 refine sv2w hK hF (v_assign rfl) (v_assign rfl) rfl rfl ?_; clear hF a hK K; intro a hF
 replace hF := hF.sub _ (c_ 3 rfl (c_ 2 rfl (c_ 1 rfl (n_))))
 refine W_seq ?_
 refine W_sr rfl fun K hK => ?_
 refine sv hF (v_loadN Tryz.underlying23 rfl (by kernel_rfl) rfl hbx) rfl ?_; clear hF a; intro a hF
 refine sc hF rfl rfl rfl en14 rfl (PMay_ok B 5 kn mn _ hS.inv) ?_; clear hF a; intro v w' a hv hF
 obtain ⟨rfl, hS'⟩ := hv
 replace hbx := hbx.st (by decide) hS'
 replace hS := hS.trans hS'
 clear hS'
 rw [mayP_is (by omega) h1 h2 (by omega)] at hF
 refine svw hK hF (v_not rfl) rfl ?_; clear hF a hK K; intro a hF
 replace hF := hF.sub _ (c_ 7 rfl (c_ 3 rfl (c_ 2 rfl (c_ 1 rfl (n_)))))
 refine W_ifF hF rfl ?_
 refine W_skip ?_
 refine W_sr rfl fun K hK => ?_
 refine sv hF (v_build (cs := (fns 26 27 28 29 30 30).toArray) rfl (by kernel_rfl)) rfl ?_; clear hF a; intro a hF
 have hs0 := hS.ext.size
 refine s_allocN (D := FDx) (B := B) (z := .agg (#[.nilFunc, .nilFunc, .nilFunc, .nilFunc, .nilFunc, .nilFunc])) hF (by kernel_rfl) (by decide) hS.inv rfl ?_; clear hF a; intro gT w' a hm hI' hT hF
 replace hbx := hbx.mb hm (by simp)
 replace hS := hS.mb0 hm
 clear hm hI'
 replace hT := hT.le hs0
 clear hs0
 refine s_storeN (D := FDx) (B := B) hF (by kernel_rfl) rfl rfl (rfl) (by rfl) hT hS.inv ?_; intro w' hm hI' hrc'
 replace hbx := hbx.mb hm (by intro e; cases e; exact absurd hT.blk (by intro e2; have := hbx.symm.trans e2; cases this))
 replace hS := hS.mb hm (fun k h => by cases h; exact hT.low)
 replace hT := hrc'
 clear hm hI' hrc'
 refine wn hK ?_
 clear hK K
 replace hF := hF.sub _ (c_ 4 rfl (c_ 3 rfl (c_ 2 rfl (c_ 1 rfl (n_)))))
 refine W_sd (m := 17) rfl hmix hS.inv (fun K hK w1 hS' hh => ?_)
 replace hbx := hbx.st (by decide) hS'
 replace hT := hT.st hS'
 replace hS := hS.trans hS'
 clear hS'
 clear hh
 refine a_v (i := 0) rfl (by kernel_rfl) hF (fun w2 hx => v_fieldAddr fa23_0 rfl) rfl ?_; clear hF a; intro a hF
 refine a_v (i := 1) rfl (by kernel_rfl) hF (fun w2 hx => v_load sc3 rfl (hbx.ld (by decide) hx 0 rfl)) rfl ?_; clear hF a; intro a hF
 refine a_v (i := 2) rfl (by kernel_rfl) hF (fun w2 hx => (v_subI rfl rfl (by omega)).as (show Value.int .i64 (5 - 1) = .int .i64 ((4 : Nat) : Int) from rfl)) rfl ?_; clear hF a; intro a hF
 refine a_v (i := 3) rfl (by kernel_rfl) hF (fun w2 hx => v_ixA ar65 rfl rfl (by omega) (by omega)) rfl ?_; clear hF a; intro a hF
 refine a_v (i := 4) rfl (by kernel_rfl) hF (fun w2 hx => v_load sc64 rfl ((hT.kc 4 rfl).ld hx)) rfl ?_; clear hF a; intro a hF
 refine a_v (i := 5) rfl (by kernel_rfl) hF (fun w2 hx => v_fieldAddr fa23_0 rfl) rfl ?_; clear hF a; intro a hF
 refine a_v (i := 6) rfl (by kernel_rfl) hF (fun w2 hx => v_load sc3 rfl (hbx.ld (by decide) hx 0 rfl)) rfl ?_; clear hF a; intro a hF
 refine a_v (i := 8) rfl (by kernel_rfl) hF (fun w2 hx => v_fieldAddr fa23_1 rfl) rfl ?_; clear hF a; intro a hF
 refine a_v (i := 9) rfl (by kernel_rfl) hF (fun w2 hx => v_load sc3 rfl (hbx.ld (by decide) hx 1 rfl)) rfl ?_; clear hF a; intro a hF
 refine a_v (i := 10) rfl (by kernel_rfl) hF (fun w2 hx => v_fieldAddr fa23_2 rfl) rfl ?_; clear hF a; intro a hF
 refine a_v (i := 11) rfl (by kernel_rfl) hF (fun w2 hx => v_load sc3 rfl (hbx.ld (by decide) hx 2 rfl)) rfl ?_; clear hF a; intro a hF
 refine a_e (i := 7) rfl (by kernel_rfl) ?_
 refine sc hF rfl rfl rfl en13 rfl (PField_in B 5 _ hS.inv (by omega)) ?_; clear hF a; intro v w' a hv hF
 obtain ⟨fv, hfv⟩ : ∃ x, x = v := ⟨_, rfl⟩
 subst hfv
 obtain ⟨hf, hS'⟩ := hv
 replace hf : Fo FDx B _ fv (some (8, 285)) := hf
 refine WL_nil ⟨hS'.ext, ?_⟩
 replace hbx := hbx.st (by decide) hS'
 replace hT := hT.st hS'
 replace hS := hS.trans hS'
 clear hS'
 refine a_e (i := 12) rfl (by kernel_rfl) ?_
 refine sc hF rfl rfl rfl en30 rfl (behind_fit B 8 285 prm_285 fv kn mn _ hS.inv hf (by omega) (by omega) (by omega)) ?_; clear hF a; intro v w' a hv hF
 obtain ⟨sX, cX, rfl, hX, hS'⟩ := hv
 refine WL_nil ⟨hS'.ext, ?_⟩
 replace hbx := hbx.st (by decide) hS'
 replace hT := hT.st hS'
 replace hf := hf.st hS'
 replace hS := hS.trans hS'
 clear hS'
 refine a_v (i := 13) rfl (by kernel_rfl) hF (fun w2 hx => v_ext rfl rfl) rfl ?_; clear hF a; intro a hF
 refine a_v (i := 14) rfl (by kernel_rfl) hF (fun w2 hx => v_ext rfl rfl) rfl ?_; clear hF a; intro a hF
 refine a_v (i := 15) rfl (by kernel_rfl) hF (fun w2 hx => v_assign rfl) rfl ?_; clear hF a; intro a hF
 refine a_v (i := 16) rfl (by kernel_rfl) hF (fun w2 hx => v_assign rfl) rfl ?_; clear hF a; intro a hF
 refine a_done (by kernel_rfl) (hK _ _ ?_)
 clear hK K
 replace hF := hF.sub _ (c_ 3 rfl (c_ 2 rfl (n_)))
 refine W_ret ?_
 refine ⟨_, _, _, hF, rfl, rfl, ?_⟩
 exact ⟨_, _, by first | rfl | (rw [tab_length]; rfl), by unfold prT; simpa using hX, hS⟩
set_option maxRecDepth 100000 in
set_option maxHeartbeats 1000000 in
theorem PPar_6 (B kn mn : Nat) (w : World) (hI : Inv FDx B w) (h1 : 1 ≤ kn ∧ kn ≤ 8) (h2 : 1 ≤ mn ∧ mn ≤ 4) : Ret Tryz.prog 11 [.agg #[.int .i64 6, .int .i64 (kn : Int), .int .i64 (mn : Int)]] w fun v w' => ∃ sa cap, v = .tuple #[.slice sa mn cap, .int .i64 0] ∧ Mat FDx B w'.heap.size w' sa cap (tab mn kn (prT 6 kn mn)) ∧ St FDx B w w' := by
 refine enter2 24 [(0, .agg #[.int .i64 6, .int .i64 (kn : Int), .int .i64 (mn : Int)])] 2 3 Tryz.func11 rfl rfl rfl rfl rfl ?_; intro a hF
 have hS := St.refl hI
 refine W_sr rfl fun K hK => ?_
 refine s_box (D := FDx) (B := B) hF rfl (by decide) hS.inv rfl ?_; clear hF a; intro w' a hm hbx hsz hF
 replace hS := hS.mb0 hm
 clear hm
 refine sv2w hK hF (v_assign rfl) (v_assign rfl) rfl rfl ?_; clear hF a hK K; intro a hF
 replace hF := hF.sub _ (c_ 3 rfl (c_ 2 rfl (c_ 1 rfl (n_))))
 refine W_seq ?_
 refine W_sr rfl fun K hK => ?_
 refine sv hF (v_loadN Tryz.underlying23 rfl (by kernel_rfl) rfl hbx) rfl ?_; clear hF a; intro a hF
 refine sc hF rfl rfl rfl en14 rfl (PMay_ok B 6 kn mn _ hS.inv) ?_; clear hF a; intro v w' a hv hF
 obtain ⟨rfl, hS'⟩ := hv
 replace hbx := hbx.st (by decide) hS'
 replace hS := hS.trans hS'
 clear hS'
 rw [mayP_is (by omega) h1 h2 (by omega)] at hF
 refine svw hK hF (v_not rfl) rfl ?_; clear hF a hK K; intro a hF
 replace hF := hF.sub _ (c_ 7 rfl (c_ 3 rfl (c_ 2 rfl (c_ 1 rfl (n_)))))
 refine W_ifF hF rfl ?_
 refine W_skip ?_
 refine W_sr rfl fun K hK => ?_
 refine sv hF (v_build (cs := (fns 26 27 28 29 30 30).toArray) rfl (by kernel_rfl)) rfl ?_; clear hF a; intro a hF
 have hs0 := hS.ext.size
 refine s_allocN (D := FDx) (B := B) (z := .agg (#[.nilFunc, .nilFunc, .nilFunc, .nilFunc, .nilFunc, .nilFunc])) hF (by kernel_rfl) (by decide) hS.inv rfl ?_; clear hF a; intro gT w' a hm hI' hT hF
 replace hbx := hbx.mb hm (by simp)
 replace hS := hS.mb0 hm
 clear hm hI'
 replace hT := hT.le hs0
 clear hs0
 refine s_storeN (D := FDx) (B := B) hF (by kernel_rfl) rfl rfl (rfl) (by rfl) hT hS.inv ?_; intro w' hm hI' hrc'
 replace hbx := hbx.mb hm (by intro e; cases e; exact absurd hT.blk (by intro e2; have := hbx.symm.trans e2; cases this))
 replace hS := hS.mb hm (fun k h => by cases h; exact hT.low)
 replace hT := hrc'
 clear hm hI' hrc'
 refine wn hK ?_
 clear hK K
 replace hF := hF.sub _ (c_ 4 rfl (c_ 3 rfl (c_ 2 rfl (c_ 1 rfl (n_)))))
 refine W_sd (m := 17) rfl hmix hS.inv (fun K hK w1 hS' hh => ?_)
 replace hbx := hbx.st (by decide) hS'
 replace hT := hT.st hS'
 replace hS := hS.trans hS'
 clear hS'
 clear hh
 refine a_v (i := 0) rfl (by kernel_rfl) hF (fun w2 hx => v_fieldAddr fa23_0 rfl) rfl ?_; clear hF a; intro a hF
 refine a_v (i := 1) rfl (by kernel_rfl) hF (fun w2 hx => v_load sc3 rfl (hbx.ld (by decide) hx 0 rfl)) rfl ?_; clear hF a; intro a hF
 refine a_v (i := 2) rfl (by kernel_rfl) hF (fun w2 hx => (v_subI rfl rfl (by omega)).as (show Value.int .i64 (6 - 1) = .int .i64 ((5 : Nat) : Int) from rfl)) rfl ?_; clear hF a; intro a hF
 refine a_v (i := 3) rfl (by kernel_rfl) hF (fun w2 hx => v_ixA ar65 rfl rfl (by omega) (by omega)) rfl ?_; clear hF a; intro a hF
 refine a_v (i := 4) rfl (by kernel_rfl) hF (fun w2 hx => v_load sc64 rfl ((hT.kc 5 rfl).ld hx)) rfl ?_; clear hF a; intro a hF
 refine a_v (i := 5) rfl (by kernel_rfl) hF (fun w2 hx => v_fieldAddr fa23_0 rfl) rfl ?_; clear hF a; intro a hF
 refine a_v (i := 6) rfl (by kernel_rfl) hF (fun w2 hx => v_load sc3 rfl (hbx.ld (by decide) hx 0 rfl)) rfl ?_; clear hF a; intro a hF
 refine a_v (i := 8) rfl (by kernel_rfl) hF (fun w2 hx => v_fieldAddr fa23_1 rfl) rfl ?_; clear hF a; intro a hF
 refine a_v (i := 9) rfl (by kernel_rfl) hF (fun w2 hx => v_load sc3 rfl (hbx.ld (by decide) hx 1 rfl)) rfl ?_; clear hF a; intro a hF
 refine a_v (i := 10) rfl (by kernel_rfl) hF (fun w2 hx => v_fieldAddr fa23_2 rfl) rfl ?_; clear hF a; intro a hF
 refine a_v (i := 11) rfl (by kernel_rfl) hF (fun w2 hx => v_load sc3 rfl (hbx.ld (by decide) hx 2 rfl)) rfl ?_; clear hF a; intro a hF
 refine a_e (i := 7) rfl (by kernel_rfl) ?_
 refine sc hF rfl rfl rfl en13 rfl (PField_in B 6 _ hS.inv (by omega)) ?_; clear hF a; intro v w' a hv hF
 obtain ⟨fv, hfv⟩ : ∃ x, x = v := ⟨_, rfl⟩
 subst hfv
 obtain ⟨hf, hS'⟩ := hv
 replace hf : Fo FDx B _ fv (some (8, 285)) := hf
 refine WL_nil ⟨hS'.ext, ?_⟩
 replace hbx := hbx.st (by decide) hS'
 replace hT := hT.st hS'
 replace hS := hS.trans hS'
 clear hS'
 refine a_e (i := 12) rfl (by kernel_rfl) ?_
 refine sc hF rfl rfl rfl en30 rfl (behind_fit B 8 285 prm_285 fv kn mn _ hS.inv hf (by omega) (by omega) (by omega)) ?_; clear hF a; intro v w' a hv hF
 obtain ⟨sX, cX, rfl, hX, hS'⟩ := hv
 refine WL_nil ⟨hS'.ext, ?_⟩
 replace hbx := hbx.st (by decide) hS'
 replace hT := hT.st hS'
 replace hf := hf.st hS'
 replace hS := hS.trans hS'
 clear hS'
 refine a_v (i := 13) rfl (by kernel_rfl) hF (fun w2 hx => v_ext rfl rfl) rfl ?_; clear hF a; intro a hF
 refine a_v (i := 14) rfl (by kernel_rfl) hF (fun w2 hx => v_ext rfl rfl) rfl ?_; clear hF a; intro a hF
 refine a_v (i := 15) rfl (by kernel_rfl) hF (fun w2 hx => v_assign rfl) rfl ?_; clear hF a; intro a hF
 refine a_v (i := 16) rfl (by kernel_rfl) hF (fun w2 hx => v_assign rfl) rfl ?_; clear hF a; intro a hF
 refine a_done (by kernel_rfl) (hK _ _ ?_)
 clear hK K
 replace hF := hF.sub _ (c_ 3 rfl (c_ 2 rfl (n_)))
 refine W_ret ?_
 refine ⟨_, _, _, hF, rfl, rfl, ?_⟩
 exact ⟨_, _, by first | rfl | (rw [tab_length]; rfl), by unfold prT; simpa using hX, hS⟩
theorem PPar_ok (B : Nat) (p : Int) (kn mn : Nat) (w : World) (hI : Inv FDx B w) (h : mayP p (kn : Int) (mn : Int) = true) : Ret Tryz.prog 11 [.agg #[.int .i64 p, .int .i64 (kn : Int), .int .i64 (mn : Int)]] w fun v w' => ∃ sa cap, v = .tuple #[.slice sa mn cap, .int .i64 0] ∧ Mat FDx B w'.heap.size w' sa cap (tab mn kn (prT p kn mn)) ∧ St FDx B w w' := by
 obtain ⟨h1, h2, k, m, e1, e2, h3, h4, h5, h6, h7⟩ := mayP_of h
 obtain rfl : kn = k := by omega
 obtain rfl : mn = m := by omega
 have hp : p = 1 ∨ p = 2 ∨ p = 3 ∨ p = 4 ∨ p = 5 ∨ p = 6 := by omega
 rcases hp with rfl | rfl | rfl | rfl | rfl | rfl
 ·
  exact PPar_1 B kn mn w hI ⟨h3, h4⟩ ⟨h5, h6⟩
 ·
  exact PPar_2 B kn mn w hI ⟨h3, h4⟩ ⟨h5, h6⟩
 ·
  exact PPar_3 B kn mn w hI ⟨h3, h4⟩ ⟨h5, h6⟩ (h7 rfl)
 ·
  exact PPar_4 B kn mn w hI ⟨h3, h4⟩ ⟨h5, h6⟩
 ·
  exact PPar_5 B kn mn w hI ⟨h3, h4⟩ ⟨h5, h6⟩
 ·
  exact PPar_6 B kn mn w hI ⟨h3, h4⟩ ⟨h5, h6⟩
end Go.Proofs.YtkoiolamnnmokaaGreat
