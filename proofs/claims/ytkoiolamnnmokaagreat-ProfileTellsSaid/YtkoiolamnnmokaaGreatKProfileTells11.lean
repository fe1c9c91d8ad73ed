/- Texts of the claim ProfileTells (part 11), put together in the order of their imports. -/
import Derived.Test.YtkoiolamnnmokaaGreatKProfileTells10
/- The walks of gambrelref05: rows times a number, two rows together, pivots, rows reduced. -/
set_option linter.unusedVariables false
set_option linter.unusedSimpArgs false
namespace Go.Proofs.YtkoiolamnnmokaaGreat
open Go Go.Gam
namespace FxFRef05
theorem en90 : Ent Tryz.prog 90 := ent Tryz.func90 (by kernel_rfl) (by kernel_rfl)
theorem en93 : Ent Tryz.prog 93 := ent Tryz.func93 (by kernel_rfl) (by kernel_rfl)
theorem en109 : Ent Tryz.prog 109 := ent Tryz.func109 (by kernel_rfl) (by kernel_rfl)
theorem en110 : Ent Tryz.prog 110 := ent Tryz.func110 (by kernel_rfl) (by kernel_rfl)
theorem en111 : Ent Tryz.prog 111 := ent Tryz.func111 (by kernel_rfl) (by kernel_rfl)
theorem hmix : Tryz.prog.follows .mixedOrders = true := by kernel_rfl
theorem on53 : Gam.One Tryz.prog 53 := by unfold Gam.One; kernel_rfl
theorem sc3 : Scalar Tryz.prog 3 := ⟨_, Tryz.underlying3, by simp, by simp⟩
theorem sc53 : Scalar Tryz.prog 53 := ⟨_, Tryz.underlying53, by simp, by simp⟩
theorem sl35 : Sl Tryz.prog 35 53 (.slice none 0 0) 24 := sl_of Tryz.underlying35 rfl (by kernel_rfl)
theorem sl53 : Sl Tryz.prog 53 3 (.int .i64 0) 8 := sl_of Tryz.underlying53 rfl (by kernel_rfl)
end FxFRef05
open FxFRef05
set_option maxRecDepth 100000 in
set_option maxHeartbeats 1000000 in
theorem scaled_ok (B M wb p : Nat) (hp : Prm wb p) (pr : Option Addr) (cr m k s : Nat) (f : Tb) (w : World) (hI : Inv FDx B w) (hx : Row FDx B M w (.slice pr m cr) (zints (trow m f k))) (hf : hp.fld.Bd f) (hs : s < 2 ^ wb) (hM : M ≤ w.heap.size) (hm : m ≤ 100) : Ret Tryz.prog 110 [.int .i64 (wb : Int), .int .u32 (p : Int), .slice pr m cr, .int .i64 (s : Int)] w fun v w' => ∃ ob, Gam.Own FDx B w.heap.size w' FDx.E v ob (zints (trow m (fun _ j => hp.fld.mul (f k j) s) 0)) ∧ St FDx B w w' := by
 refine enter 29 [(0, .int .i64 (wb : Int)), (1, .int .u32 (p : Int)), (2, .slice pr m cr), (3, .int .i64 (s : Int))] 8 Tryz.func110 rfl rfl rfl rfl rfl ?_; intro a hF
 have hS := St.refl hI
 have hfw := hp.fld_w
 have h16 : 2 ^ wb ≤ 65536 := by rcases hp.w with h | h <;> rw [h] <;> decide
 refine W_sr rfl fun K hK => ?_
 refine svw hK hF (v_assign rfl) rfl ?_; clear hF a hK K; intro a hF
 refine W_sr rfl fun K hK => ?_
 refine svw hK hF (v_assign rfl) rfl ?_; clear hF a hK K; intro a hF
 refine W_seq ?_
 refine W_sr rfl fun K hK => ?_
 refine svw hK hF (v_assign rfl) rfl ?_; clear hF a hK K; intro a hF
 refine W_block ?_
 refine W_loop (fun q a w1 => ∃ (i : Nat) (v9 : Value) (b9 : Option Nat), Fr 29 [(0, .int .i64 (wb : Int)), (1, .int .u32 (p : Int)), (2, .slice pr m cr), (3, .int .i64 (s : Int)), (9, v9), (10, .int .i64 (i : Int))] a ∧ (St FDx B w w1) ∧ (Row FDx B M w1 (.slice pr m cr) (zints (trow m f k))) ∧ (Gam.Own FDx B w.heap.size w1 FDx.E v9 b9 (zints ((List.range i).map fun j => ((hp.fld.mul (f k j) s : Nat) : Int)))) ∧ (i ≤ m) ∧ (q + i = m)) (m) ?_ ?_
 ·
  skip
  exact ⟨0, _, none, hF.sub _ (c_ 0 rfl (c_ 1 rfl (c_ 2 rfl (c_ 3 rfl (c_ 9 rfl (c_ 10 rfl (n_))))))), hS, hx, Gam.Own.nil _ _ _ _ _, by omega, by omega⟩
 ·
  skip
  clear hF
  clear hS hx
  rintro q a w1 ⟨i, v9, b9, hF, hS, hx, hO, hi, hq⟩
  refine W_seq ?_
  refine W_sr rfl fun K hK => ?_
  refine sv4w hK hF (v_move rfl) (v_move rfl) (v_lenS rfl sl53 rfl) (v_lss rfl rfl) rfl rfl rfl rfl ?_; clear hF a hK K; intro a hF
  replace hF := hF.sub _ (c_ 14 rfl (c_ 0 rfl (c_ 1 rfl (c_ 2 rfl (c_ 3 rfl (c_ 9 rfl (c_ 10 rfl (n_))))))))
  refine W_if hF rfl (fun hc1 => ?_) (fun hc1 => ?_)
  ·
   skip
   try simp only [dcl] at hc1
   have hlt : i < m := by omega
   obtain ⟨gx, ox, hgx, hkx, -⟩ := hx.kat (zints_at (trow_at (m := m) (f := f) (i := k) hlt))
   subst hgx
   have hb := hf k i
   rw [hfw] at hb
   refine W_skip ?_
   refine W_seq ?_
   refine W_block ?_
   refine W_reg rfl fun K hK => ?_
   refine sv6 hF (v_move rfl) (v_move rfl) (v_move rfl) (v_move rfl) (v_move rfl) (v_ixS sl53 rfl rfl (by omega) (by omega)) rfl rfl rfl rfl rfl rfl ?_; clear hF a; intro a hF
   refine sv hF (v_load sc3 rfl (by rw [toNat_c]; exact hkx.c)) rfl ?_; clear hF a; intro a hF
   refine sv hF (v_move rfl) rfl ?_; clear hF a; intro a hF
   refine sc hF rfl rfl rfl en90 rfl (rMul_gf B wb p ((f k i : Nat) : Int) (s : Int) _ hS.inv hp) ?_; clear hF a; intro v w' a hv hF
   obtain ⟨rfl, hS'⟩ := hv
   replace hx := hx.st hS'
   replace hO := hO.st (by decide) hS'
   replace hS := hS.trans hS'
   clear hS'
   rw [gmul_num hp hb hs] at hF
   refine s_bs (D := FDx) (B := B) hF sl53 rfl rfl (by decide) (by simp [Value.cells]) (by decide) hS.inv rfl ?_; clear hF a; intro w' a hm hI' hL hF
   replace hx := hx.mb hm (fun _ h => by cases h)
   replace hO := hO.mb hm (fun _ _ => by simp)
   replace hS := hS.mb0 hm
   clear hm hI'
   refine s_app (D := FDx) (B := B) hF rfl sl53 rfl rfl hO (hL.row (by decide)) (by simp [Value.oneCell']) (by simp; omega) (by simp [maxLen]; omega) (hS.ext.size) (by decide) hS.inv rfl ?_; clear hF a; intro v' b' w' a ho' hm hI' hb' hF
   replace hx := hx.mb hm (fun k h => Nat.le_trans (hM) (hO.lt k h).1)
   replace hS := hS.mb hm (fun k h => Nat.le_trans (Nat.le_refl _) (hO.lt k h).1)
   replace hO := ho'
   clear hm hI' ho'
   refine svw hK hF (v_assign rfl) rfl ?_; clear hF a hK K; intro a hF
   replace hF := hF.sub _ (c_ 9 rfl (c_ 0 rfl (c_ 1 rfl (c_ 2 rfl (c_ 3 rfl (c_ 10 rfl (n_)))))))
   refine W_reg rfl fun K hK => ?_
   refine sv3w hK hF (v_move rfl) (v_addI rfl rfl (by omega)) (v_assign rfl) rfl rfl rfl ?_; clear hF a hK K; intro a hF
   exact ⟨q - 1, by omega, i + 1, _, _, hF.sub _ (c_ 0 rfl (c_ 1 rfl (c_ 2 rfl (c_ 3 rfl (c_ 9 rfl (c_ 10 rfl (n_))))))), hS, hx, hO.cast (by rw [List.range_succ, List.map_append]; simp [zints]), by omega, by omega⟩
  ·
   skip
   try simp only [dcl] at hc1
   refine W_exit rfl ?_
   refine W_sr rfl fun K hK => ?_
   refine sv2w hK hF (v_move rfl) (v_assign rfl) rfl rfl ?_; clear hF a hK K; intro a hF
   replace hF := hF.sub _ (c_ 8 rfl (c_ 28 rfl (c_ 0 rfl (c_ 1 rfl (c_ 2 rfl (c_ 3 rfl (c_ 9 rfl (c_ 10 rfl (n_)))))))))
   refine W_ret ?_
   refine ⟨_, _, hF, rfl, ?_⟩
   obtain rfl : i = m := by omega
   exact ⟨_, hO, hS⟩
set_option maxRecDepth 100000 in
set_option maxHeartbeats 1000000 in
theorem added_ok (B M : Nat) (pa pb : Option Addr) (ca cb m i k : Nat) (f g : Tb) (w : World) (hI : Inv FDx B w) (hA : Row FDx B M w (.slice pa m ca) (zints (trow m f i))) (hB : Row FDx B M w (.slice pb m cb) (zints (trow m g k))) (hf : ∀ j, f i j < 65536) (hg : ∀ j, g k j < 65536) (hM : M ≤ w.heap.size) (hm : m ≤ 100) : Ret Tryz.prog 111 [.slice pa m ca, .slice pb m cb] w fun v w' => ∃ ob, Gam.Own FDx B w.heap.size w' FDx.E v ob (zints (trow m (fun _ j => f i j ^^^ g k j) 0)) ∧ St FDx B w w' := by
 refine enter 26 [(0, .slice pa m ca), (1, .slice pb m cb)] 4 Tryz.func111 rfl rfl rfl rfl rfl ?_; intro a hF
 have hS := St.refl hI
 refine W_sr rfl fun K hK => ?_
 refine svw hK hF (v_assign rfl) rfl ?_; clear hF a hK K; intro a hF
 refine W_sr rfl fun K hK => ?_
 refine svw hK hF (v_assign rfl) rfl ?_; clear hF a hK K; intro a hF
 refine W_seq ?_
 refine W_sr rfl fun K hK => ?_
 refine svw hK hF (v_assign rfl) rfl ?_; clear hF a hK K; intro a hF
 refine W_block ?_
 refine W_loop (fun q a w1 => ∃ (j : Nat) (v5 : Value) (b5 : Option Nat), Fr 26 [(0, .slice pa m ca), (1, .slice pb m cb), (5, v5), (6, .int .i64 (j : Int))] a ∧ (St FDx B w w1) ∧ (Row FDx B M w1 (.slice pa m ca) (zints (trow m f i))) ∧ (Row FDx B M w1 (.slice pb m cb) (zints (trow m g k))) ∧ (Gam.Own FDx B w.heap.size w1 FDx.E v5 b5 (zints ((List.range j).map fun j => ((f i j ^^^ g k j : Nat) : Int)))) ∧ (j ≤ m) ∧ (q + j = m)) (m) ?_ ?_
 ·
  skip
  exact ⟨0, _, none, hF.sub _ (c_ 0 rfl (c_ 1 rfl (c_ 5 rfl (c_ 6 rfl (n_))))), hS, hA, hB, Gam.Own.nil _ _ _ _ _, by omega, by omega⟩
 ·
  skip
  clear hF
  clear hS hA hB
  rintro q a w1 ⟨j, v5, b5, hF, hS, hA, hB, hO, hj, hq⟩
  refine W_seq ?_
  refine W_sr rfl fun K hK => ?_
  refine sv4w hK hF (v_move rfl) (v_move rfl) (v_lenS rfl sl53 rfl) (v_lss rfl rfl) rfl rfl rfl rfl ?_; clear hF a hK K; intro a hF
  replace hF := hF.sub _ (c_ 10 rfl (c_ 0 rfl (c_ 1 rfl (c_ 5 rfl (c_ 6 rfl (n_))))))
  refine W_if hF rfl (fun hc1 => ?_) (fun hc1 => ?_)
  ·
   skip
   try simp only [dcl] at hc1
   have hlt : j < m := by omega
   obtain ⟨ga, oa, hga, -⟩ := hA.kat (zints_at (trow_at (m := m) (f := f) (i := i) hlt))
   subst hga
   obtain ⟨gb, ob_, hgb, -⟩ := hB.kat (zints_at (trow_at (m := m) (f := g) (i := k) hlt))
   subst hgb
   have hb1 := hf j
   have hb2 := hg j
   refine W_skip ?_
   refine W_seq ?_
   refine W_block ?_
   refine W_dS (fun (w2 : World) => w2.cell? ⟨ga, oa + j, none⟩ = some (.int .i64 ((f i j : Nat) : Int)) ∧ w2.cell? ⟨gb, ob_ + j, none⟩ = some (.int .i64 ((g k j : Nat) : Int))) (m := 13) rfl hmix (fun K hK => ?_)
   have hS' := St.drew hS.inv
   replace hA := hA.st hS'
   replace hB := hB.st hS'
   replace hO := hO.st (by decide) hS'
   replace hS := hS.trans hS'
   clear hS'
   have hSS : (fun (w2 : World) => w2.cell? ⟨ga, oa + j, none⟩ = some (.int .i64 ((f i j : Nat) : Int)) ∧ w2.cell? ⟨gb, ob_ + j, none⟩ = some (.int .i64 ((g k j : Nat) : Int))) _ := And.intro (hA.ldx (Ext.refl _ _ _) (zints_at (trow_at (f := f) (m := m) hlt))) (hB.ldx (Ext.refl _ _ _) (zints_at (trow_at (f := g) (m := m) hlt)))
   refine b_v (i := 0) rfl (by kernel_rfl) hF (fun w2 hx => v_move rfl) rfl hSS ?_; clear hF a; intro a hF
   refine b_v (i := 1) rfl (by kernel_rfl) hF (fun w2 hx => v_move rfl) rfl hSS ?_; clear hF a; intro a hF
   refine b_v (i := 2) rfl (by kernel_rfl) hF (fun w2 hx => v_move rfl) rfl hSS ?_; clear hF a; intro a hF
   refine b_v (i := 3) rfl (by kernel_rfl) hF (fun w2 hx => v_ixS sl53 rfl rfl (by omega) (by omega)) rfl hSS ?_; clear hF a; intro a hF
   refine b_v (i := 4) rfl (by kernel_rfl) hF (fun w2 hx => v_load sc3 rfl (by rw [toNat_c]; exact hx.1)) rfl hSS ?_; clear hF a; intro a hF
   refine b_v (i := 5) rfl (by kernel_rfl) hF (fun w2 hx => v_move rfl) rfl hSS ?_; clear hF a; intro a hF
   refine b_v (i := 6) rfl (by kernel_rfl) hF (fun w2 hx => v_move rfl) rfl hSS ?_; clear hF a; intro a hF
   refine b_v (i := 7) rfl (by kernel_rfl) hF (fun w2 hx => v_ixS sl53 rfl rfl (by omega) (by omega)) rfl hSS ?_; clear hF a; intro a hF
   refine b_v (i := 8) rfl (by kernel_rfl) hF (fun w2 hx => v_load sc3 rfl (by rw [toNat_c]; exact hx.2)) rfl hSS ?_; clear hF a; intro a hF
   refine b_v (i := 9) rfl (by kernel_rfl) hF (fun w2 hx => v_xorN rfl rfl (fits_i64 (by omega)) (fits_i64 (by omega))) rfl hSS ?_; clear hF a; intro a hF
   refine b_e (i := 10) (by kernel_rfl) rfl ?_
   refine s_bs (D := FDx) (B := B) hF sl53 rfl rfl (by decide) (by simp [Value.cells]) (by decide) hS.inv rfl ?_; clear hF a; intro w' a hm hI' hb hF
   replace hA := hA.mb hm (fun _ h => by cases h)
   replace hB := hB.mb hm (fun _ h => by cases h)
   replace hO := hO.mb hm (fun _ _ => by simp)
   replace hS := hS.mb0 hm
   clear hm hI'
   clear hSS
   have hSS : (fun (w2 : World) => w2.cell? ⟨ga, oa + j, none⟩ = some (.int .i64 ((f i j : Nat) : Int)) ∧ w2.cell? ⟨gb, ob_ + j, none⟩ = some (.int .i64 ((g k j : Nat) : Int))) _ := And.intro (hA.ldx (Ext.refl _ _ _) (zints_at (trow_at (f := f) (m := m) hlt))) (hB.ldx (Ext.refl _ _ _) (zints_at (trow_at (f := g) (m := m) hlt)))
   refine WL_nil ⟨hSS, ?_⟩
   refine b_e (i := 11) (by kernel_rfl) rfl ?_
   refine s_app (D := FDx) (B := B) hF rfl sl53 rfl rfl hO (hb.row (by decide)) (by simp [Value.oneCell']) (by simp; omega) (by simp [maxLen]; omega) (hS.ext.size) (by decide) hS.inv rfl ?_; clear hF a; intro v' b' w' a ho' hm hI' hb' hF
   replace hA := hA.mb hm (fun k h => Nat.le_trans (hM) (hO.lt k h).1)
   replace hB := hB.mb hm (fun k h => Nat.le_trans (hM) (hO.lt k h).1)
   replace hS := hS.mb hm (fun k h => Nat.le_trans (Nat.le_refl _) (hO.lt k h).1)
   replace hO := ho'
   clear hm hI' ho' hb
   clear hSS
   have hSS : (fun (w2 : World) => w2.cell? ⟨ga, oa + j, none⟩ = some (.int .i64 ((f i j : Nat) : Int)) ∧ w2.cell? ⟨gb, ob_ + j, none⟩ = some (.int .i64 ((g k j : Nat) : Int))) _ := And.intro (hA.ldx (Ext.refl _ _ _) (zints_at (trow_at (f := f) (m := m) hlt))) (hB.ldx (Ext.refl _ _ _) (zints_at (trow_at (f := g) (m := m) hlt)))
   refine WL_nil ⟨hSS, ?_⟩
   refine b_v (i := 12) rfl (by kernel_rfl) hF (fun w2 hx => v_assign rfl) rfl hSS ?_; clear hF a; intro a hF
   refine b_done (by kernel_rfl) (hK _ _ ?_)
   clear hK K
   replace hF := hF.sub _ (c_ 5 rfl (c_ 0 rfl (c_ 1 rfl (c_ 6 rfl (n_)))))
   refine W_reg rfl fun K hK => ?_
   refine sv3w hK hF (v_move rfl) (v_addI rfl rfl (by omega)) (v_assign rfl) rfl rfl rfl ?_; clear hF a hK K; intro a hF
   exact ⟨q - 1, by omega, j + 1, _, _, hF.sub _ (c_ 0 rfl (c_ 1 rfl (c_ 5 rfl (c_ 6 rfl (n_))))), hS, hA, hB, hO.cast (by rw [List.range_succ, List.map_append]; simp [zints]), by omega, by omega⟩
  ·
   skip
   try simp only [dcl] at hc1
   refine W_exit rfl ?_
   refine W_sr rfl fun K hK => ?_
   refine sv2w hK hF (v_move rfl) (v_assign rfl) rfl rfl ?_; clear hF a hK K; intro a hF
   replace hF := hF.sub _ (c_ 4 rfl (c_ 25 rfl (c_ 0 rfl (c_ 1 rfl (c_ 5 rfl (c_ 6 rfl (n_)))))))
   refine W_ret ?_
   refine ⟨_, _, hF, rfl, ?_⟩
   obtain rfl : j = m := by omega
   exact ⟨_, hO, hS⟩
set_option maxRecDepth 100000 in
set_option maxHeartbeats 1000000 in
theorem pivot_ok (B M n m t c : Nat) (f : Tb) (pmt : Option Addr) (cmt : Nat) (w : World) (hI : Inv FDx B w) (hA : Mat FDx B M w pmt cmt (tab n m f)) (ht : t ≤ n) (hc : c < m) (hnm : n ≤ 100 ∧ m ≤ 100) : Ret Tryz.prog 109 [.slice pmt n cmt, .int .i64 (t : Int), .int .i64 (c : Int)] w fun v w' => v = .int .i64 (pivI f n c t) ∧ St FDx B w w' := by
 refine enter 24 [(0, .slice pmt n cmt), (1, .int .i64 (t : Int)), (2, .int .i64 (c : Int))] 6 Tryz.func109 rfl rfl rfl rfl rfl ?_; intro a hF
 have hS := St.refl hI
 have htl := tab_length n m f
 refine W_sr rfl fun K hK => ?_
 refine svw hK hF (v_assign rfl) rfl ?_; clear hF a hK K; intro a hF
 refine W_seq ?_
 refine W_sr rfl fun K hK => ?_
 refine sv2w hK hF (v_move rfl) (v_assign rfl) rfl rfl ?_; clear hF a hK K; intro a hF
 replace hF := hF.sub _ (c_ 7 rfl (c_ 6 rfl (c_ 0 rfl (c_ 2 rfl (n_)))))
 refine W_block ?_
 refine W_loop (fun q a w1 => ∃ (i : Nat), Fr 24 [(0, .slice pmt n cmt), (2, .int .i64 (c : Int)), (7, .int .i64 (i : Int))] a ∧ (St FDx B w w1) ∧ (Mat FDx B M w1 pmt cmt (tab n m f)) ∧ (∀ a, t ≤ a → a < i → f a c = 0) ∧ (t ≤ i ∧ i ≤ n) ∧ (q + i = n)) (n - t) ?_ ?_
 ·
  skip
  exact ⟨t, hF.sub _ (c_ 0 rfl (c_ 2 rfl (c_ 7 rfl (n_)))), hS, hA, fun a h1 h2 => by omega, by omega, by omega⟩
 ·
  skip
  clear hF
  clear hS hA
  rintro q a w1 ⟨i, hF, hS, hA, hz, hi, hq⟩
  refine W_seq ?_
  refine W_sr rfl fun K hK => ?_
  refine sv4w hK hF (v_move rfl) (v_move rfl) (v_lenS rfl sl35 rfl) (v_lss rfl rfl) rfl rfl rfl rfl ?_; clear hF a hK K; intro a hF
  replace hF := hF.sub _ (c_ 12 rfl (c_ 0 rfl (c_ 2 rfl (c_ 7 rfl (n_)))))
  refine W_if hF rfl (fun hc1 => ?_) (fun hc1 => ?_)
  ·
   skip
   try simp only [dcl] at hc1
   have hlt : i < n := by omega
   obtain ⟨gm, om, pr, cr, hgm, hkr, hrow, -⟩ := hA.row (tab_at (f := f) (m := m) hlt)
   cases hgm
   have hrl : ((List.range m).map fun j => ((f i j : Nat) : Int)).length = m := by simp
   rw [hrl] at hkr hrow
   obtain ⟨gx, ox, hgx, hkx, -⟩ := hrow.kat (zints_at (trow_at (m := m) (f := f) (i := i) hc))
   cases hgx
   refine W_skip ?_
   refine W_seq ?_
   refine W_block ?_
   refine W_sr rfl fun K hK => ?_
   refine sv3 hF (v_move rfl) (v_move rfl) (v_ixS sl35 rfl rfl (by omega) (by omega)) rfl rfl rfl ?_; clear hF a; intro a hF
   refine sv hF (v_load sc53 rfl (by rw [toNat_c]; exact hkr.c)) rfl ?_; clear hF a; intro a hF
   refine sv2 hF (v_move rfl) (v_ixS sl53 rfl rfl (by omega) (by omega)) rfl rfl ?_; clear hF a; intro a hF
   refine sv hF (v_load sc3 rfl (by rw [toNat_c]; exact hkx.c)) rfl ?_; clear hF a; intro a hF
   refine svw hK hF (v_neq rfl rfl) rfl ?_; clear hF a hK K; intro a hF
   replace hF := hF.sub _ (c_ 22 rfl (c_ 0 rfl (c_ 2 rfl (c_ 7 rfl (n_)))))
   refine W_if hF rfl (fun hc2 => ?_) (fun hc2 => ?_)
   ·
    skip
    try simp only [dcl] at hc2
    refine W_sr rfl fun K hK => ?_
    refine sv2w hK hF (v_move rfl) (v_assign rfl) rfl rfl ?_; clear hF a hK K; intro a hF
    replace hF := hF.sub _ (c_ 6 rfl (c_ 0 rfl (c_ 2 rfl (c_ 7 rfl (n_)))))
    refine W_ret ?_
    refine ⟨_, _, hF, rfl, ?_⟩
    exact ⟨congrArg _ (by unfold pivI; rw [Fld.piv_is (k := i) (by omega) (by omega) (by omega) hz]), hS⟩
   ·
    skip
    try simp only [dcl] at hc2
    refine W_skip ?_
    refine W_reg rfl fun K hK => ?_
    refine sv3w hK hF (v_move rfl) (v_addI rfl rfl (by omega)) (v_assign rfl) rfl rfl rfl ?_; clear hF a hK K; intro a hF
    replace hF := hF.sub _ (c_ 7 rfl (c_ 14 rfl (c_ 13 rfl (c_ 0 rfl (c_ 2 rfl (n_))))))
    exact ⟨q - 1, by omega, i + 1, hF.sub _ (c_ 0 rfl (c_ 2 rfl (c_ 7 rfl (n_)))), hS, hA, fun a h1 h2 => by by_cases h : a = i; (subst h; omega); exact hz a h1 (by omega), by omega, by omega⟩
  ·
   skip
   try simp only [dcl] at hc1
   refine W_exit rfl ?_
   refine W_sr rfl fun K hK => ?_
   refine svw hK hF (v_assign rfl) rfl ?_; clear hF a hK K; intro a hF
   replace hF := hF.sub _ (c_ 6 rfl (c_ 0 rfl (c_ 2 rfl (c_ 7 rfl (n_)))))
   refine W_ret ?_
   refine ⟨_, _, hF, rfl, ?_⟩
   exact ⟨congrArg _ (by unfold pivI; rw [Fld.piv_no fun a h1 h2 => hz a h1 (by omega)]), hS⟩
set_option maxRecDepth 100000 in
set_option maxHeartbeats 1000000 in
theorem reduced_ok (B M wb p n m cols : Nat) (hp : Prm wb p) (pmt : Option Addr) (cmt : Nat) (f : Tb) (w : World) (hI : Inv FDx B w) (hA : Mat FDx B M w pmt cmt (tab n m f)) (hM : M ≤ w.heap.size) (hfb : hp.fld.Bd f) (hcm : cols ≤ m) (hnm : 1 ≤ n ∧ n ≤ 40 ∧ m ≤ 40) : Ret Tryz.prog 89 [.int .i64 (wb : Int), .int .u32 (p : Int), .slice pmt n cmt, .int .i64 (cols : Int)] w fun v w' => ∃ go cap, v = .tuple #[.slice (some ⟨go, 0, none⟩) n cap, .int .i64 ((hp.fld.rk n f cols : Nat) : Int)] ∧ MOwn FDx B w.heap.size M w'.heap.size w' 53 (.slice (some ⟨go, 0, none⟩) n cap) (some go) (tab n m ((hp.fld.red n f cols).1)) ∧ St FDx B w w' := by
 refine enter2 112 [(0, .int .i64 (wb : Int)), (1, .int .u32 (p : Int)), (2, .slice pmt n cmt), (3, .int .i64 (cols : Int))] 8 9 Tryz.func89 rfl rfl rfl rfl rfl ?_; intro a hF
 have hS := St.refl hI
 have hfw := hp.fld_w
 have h16 : 2 ^ wb ≤ 65536 := by rcases hp.w with h | h <;> rw [h] <;> decide
 have htl := tab_length n m f
 refine W_sr rfl fun K hK => ?_
 refine sv2w hK hF (v_assign rfl) (v_assign rfl) rfl rfl ?_; clear hF a hK K; intro a hF
 refine W_sr rfl fun K hK => ?_
 have hs0 := hS.ext.size
 refine s_bs (D := FDx) (B := B) hF sl35 rfl rfl (by decide) (by simp [Value.cells]) (by decide) hS.inv rfl ?_; clear hF a; intro w' a hm hI' hL hF
 replace hA := hA.mb hm (fun _ h => by cases h)
 replace hS := hS.mb0 hm
 clear hm hI'
 have hMO : MOwn FDx B w.heap.size M w.heap.size w' 53 _ _ [] := ⟨⟨[], rfl, hL.le hs0, fun j v r x => by simp at x⟩, hM⟩
 clear hL
 refine sv hF (v_move rfl) rfl ?_; clear hF a; intro a hF
 refine s_appMM (D := FDx) (B := B) hF rfl sl35 rfl rfl hMO (by have h := hA.rowsO (N := M) (K := w.heap.size) (Nat.le_refl _); rw [htl] at h; exact h) rfl (by rw [htl]; simp; omega) (hS.ext.size) (by decide) (by decide) hS.inv rfl ?_; clear hF a; intro v' b' w' a ho' hm hI' hF
 replace hS := hS.mb hm (fun k h => (hMO.lt k h).1)
 have hKm := hm.size
 replace hMO := ho'
 clear hm hI' ho'
 refine svw hK hF (v_assign rfl) rfl ?_; clear hF a hK K; intro a hF
 replace hF := hF.sub _ (c_ 10 rfl (c_ 9 rfl (c_ 8 rfl (c_ 0 rfl (c_ 1 rfl (c_ 3 rfl (n_)))))))
 have hl0 : ([] ++ tab n m f).length = n := by rw [List.nil_append, htl]
 obtain ⟨go, cap, rfl, rfl⟩ := hMO.ptr (by rw [hl0]; omega)
 rw [hl0] at hMO hF
 replace hMO := (hMO.cast (List.nil_append _)).up hS.ext.size
 clear hA hKm
 refine W_sr rfl fun K hK => ?_
 refine svw hK hF (v_assign rfl) rfl ?_; clear hF a hK K; intro a hF
 refine W_seq ?_
 refine W_sr rfl fun K hK => ?_
 refine svw hK hF (v_assign rfl) rfl ?_; clear hF a hK K; intro a hF
 refine W_block ?_
 refine W_loop (fun q a w1 => ∃ (c : Nat), Fr 112 [(0, .int .i64 (wb : Int)), (1, .int .u32 (p : Int)), (3, .int .i64 (cols : Int)), (10, .slice (some ⟨go, 0, none⟩) n cap), (11, .int .i64 (((hp.fld.red n f c).2 : Nat) : Int)), (12, .int .i64 (c : Int))] a ∧ (St FDx B w w1) ∧ (MOwn FDx B w.heap.size M w1.heap.size w1 53 (.slice (some ⟨go, 0, none⟩) n cap) (some go) (tab n m ((hp.fld.red n f c).1))) ∧ (c ≤ cols) ∧ (q + c = cols)) (cols) ?_ ?_
 ·
  skip
  exact ⟨0, hF.sub _ (c_ 0 rfl (c_ 1 rfl (c_ 3 rfl (c_ 10 rfl (c_ 11 rfl (c_ 12 rfl (n_))))))), hS, hMO, by omega, by omega⟩
 ·
  skip
  clear hF
  clear hS
  rintro q a w1 ⟨c, hF, hS, hMO, hc, hq⟩
  refine W_seq ?_
  obtain ⟨KM, hKe⟩ : ∃ KM, KM = w1.heap.size := ⟨_, rfl⟩
  rw [← hKe] at hMO
  have hKs : KM ≤ w1.heap.size := by omega
  have hNK : w.heap.size ≤ KM := by have := hS.ext.size; omega
  clear hKe
  have hRd := hp.fld.red_ok (n := n) hfb c
  have htn := hRd.tn
  refine W_sr rfl fun K hK => ?_
  refine sv2 hF (v_move rfl) (v_move rfl) rfl rfl ?_; clear hF a; intro a hF
  refine sb hF (v_lss rfl rfl) rfl ?_ ?_
  ·
   clear hF a; intro hc1 a hF
   try simp only [dcl] at hc1
   refine sv hF (v_move rfl) rfl ?_; clear hF a; intro a hF
   refine svg hF rfl ?_
   refine sv hF (v_move rfl) rfl ?_; clear hF a; intro a hF
   refine svg hF rfl ?_
   refine sv hF (v_move rfl) rfl ?_; clear hF a; intro a hF
   refine svg hF rfl ?_
   refine sv hF (v_lenS rfl sl35 rfl) rfl ?_; clear hF a; intro a hF
   refine svg hF rfl ?_
   refine sv2w hK hF (v_lss rfl rfl) (v_pickT rfl rfl) rfl rfl ?_; clear hF a hK K; intro a hF
   replace hF := hF.sub _ (c_ 29 rfl (c_ 0 rfl (c_ 1 rfl (c_ 3 rfl (c_ 10 rfl (c_ 11 rfl (c_ 12 rfl (n_))))))))
   refine W_if hF rfl (fun hc2 => ?_) (fun hc2 => ?_)
   ·
    skip
    try simp only [dcl] at hc2
    obtain ⟨f1, hf1⟩ : ∃ x, x = (hp.fld.red n f c).1 := ⟨_, rfl⟩
    obtain ⟨t, ht1⟩ : ∃ x, x = (hp.fld.red n f c).2 := ⟨_, rfl⟩
    rw [← hf1, ← ht1] at hRd
    rw [← hf1] at hMO
    rw [← ht1] at hF htn hc2
    have hb1 := hRd.bd
    clear hRd
    have hcl : c < m := by omega
    have ht : t < n := by omega
    refine W_skip ?_
    refine W_seq ?_
    refine W_block ?_
    refine W_sr rfl fun K hK => ?_
    refine sv3 hF (v_move rfl) (v_move rfl) (v_move rfl) rfl rfl rfl ?_; clear hF a; intro a hF
    have hMt := hMO.matS (by decide) (Nat.le_trans hM hS.ext.size)
    refine sc hF rfl rfl rfl en109 rfl (pivot_ok B _ n m t c f1 _ _ _ hS.inv hMt (by omega) hcl (by omega)) ?_; clear hF a; intro v w' a hv hF
    obtain ⟨rfl, hS'⟩ := hv
    replace hMO := hMO.st (by decide) hS'
    replace hKs := Nat.le_trans hKs hS'.ext.size
    replace hS := hS.trans hS'
    clear hS'
    clear hMt
    refine svw hK hF (v_assign rfl) rfl ?_; clear hF a hK K; intro a hF
    replace hF := hF.sub _ (c_ 13 rfl (c_ 0 rfl (c_ 1 rfl (c_ 3 rfl (c_ 10 rfl (c_ 11 rfl (c_ 12 rfl (n_))))))))
    refine W_seq ?_
    refine W_sr rfl fun K hK => ?_
    refine sv2w hK hF (v_move rfl) (v_lss rfl rfl) rfl rfl ?_; clear hF a hK K; intro a hF
    replace hF := hF.sub _ (c_ 37 rfl (c_ 13 rfl (c_ 0 rfl (c_ 1 rfl (c_ 3 rfl (c_ 10 rfl (c_ 11 rfl (c_ 12 rfl (n_)))))))))
    refine W_if hF rfl (fun hc3 => ?_) (fun hc3 => ?_)
    ·
     skip
     try simp only [dcl] at hc3
     have hrd := hp.fld.red_none hf1.symm ht1.symm (pivI_neg (by assumption))
     have hrd1 : (hp.fld.red n f (c + 1)).1 = f1 := by rw [hrd]
     have hrd2 : (hp.fld.red n f (c + 1)).2 = t := by rw [hrd]
     rw [← hrd1] at hMO
     rw [show (t : Int) = (((hp.fld.red n f (c + 1)).2 : Nat) : Int) by rw [hrd2]] at hF
     refine W_exit rfl ?_
     refine W_reg rfl fun K hK => ?_
     refine sv3w hK hF (v_move rfl) (v_addI rfl rfl (by omega)) (v_assign rfl) rfl rfl rfl ?_; clear hF a hK K; intro a hF
     replace hF := hF.sub _ (c_ 12 rfl (c_ 31 rfl (c_ 30 rfl (c_ 0 rfl (c_ 1 rfl (c_ 3 rfl (c_ 10 rfl (c_ 11 rfl (n_)))))))))
     exact ⟨q - 1, by omega, c + 1, hF.sub _ (c_ 0 rfl (c_ 1 rfl (c_ 3 rfl (c_ 10 rfl (c_ 11 rfl (c_ 12 rfl (n_))))))), hS, hMO.up (by first | exact hKs | exact hKz | exact Nat.le_refl _), by omega, by omega⟩
    ·
     skip
     try simp only [dcl] at hc3
     obtain ⟨k, hpk, hpi⟩ := pivI_nn (f := f1) (n := n) (c := c) (t := t) (by assumption)
     rw [hpi] at hF
     obtain ⟨htk, hkn0, hk0, -⟩ := Fld.piv_some hpk
     have hkn : k < n := by omega
     have hsw : Fld.sw t k t = k := by unfold Fld.sw; rw [if_pos rfl]
     have hMt := hMO.matS (by decide) (Nat.le_trans hM hS.ext.size)
     obtain ⟨gm, om, pr, cr, hgm, hkr, hrow, -⟩ := hMt.row (tab_at (f := f1) (m := m) hkn)
     cases hgm
     have hrl : ((List.range m).map fun j => ((f1 k j : Nat) : Int)).length = m := by simp
     rw [hrl] at hkr hrow
     obtain ⟨gx, ox, hgx, hkx, -⟩ := hrow.kat (zints_at (trow_at (m := m) (f := f1) (i := k) hcl))
     cases hgx
     have hkb := hb1 k c
     rw [hfw] at hkb
     clear hMt
     refine W_skip ?_
     refine W_sr rfl fun K hK => ?_
     refine sv5 hF (v_move rfl) (v_move rfl) (v_move rfl) (v_move rfl) (v_ixS sl35 rfl rfl (by omega) (by omega)) rfl rfl rfl rfl rfl ?_; clear hF a; intro a hF
     refine sv hF (v_load sc53 rfl (by rw [toNat_c]; exact hkr.c)) rfl ?_; clear hF a; intro a hF
     refine sv2 hF (v_move rfl) (v_ixS sl53 rfl rfl (by omega) (by omega)) rfl rfl ?_; clear hF a; intro a hF
     refine sv hF (v_load sc3 rfl (by rw [toNat_c]; exact hkx.c)) rfl ?_; clear hF a; intro a hF
     refine sc hF rfl rfl rfl en93 rfl (rInv_gf B wb p ((f1 k c : Nat) : Int) _ hS.inv hp) ?_; clear hF a; intro v w' a hv hF
     obtain ⟨rfl, hS'⟩ := hv
     replace hMO := hMO.st (by decide) hS'
     replace hKs := Nat.le_trans hKs hS'.ext.size
     replace hkr := hkr.st hS'
     replace hrow := (hrow.st hS').mono hS'.ext.size
     replace hS := hS.trans hS'
     clear hS'
     clear hkx
     rw [ginv_fld hp hkb hk0] at hF
     have hib := hp.fld.inv_lt (f1 k c)
     rw [hfw] at hib
     refine sv5w hK hF (v_move rfl) (v_ext rfl rfl) (v_ext rfl rfl) (v_assign rfl) (v_assign rfl) rfl rfl rfl rfl rfl ?_; clear hF a hK K; intro a hF
     replace hF := hF.sub _ (c_ 14 rfl (c_ 13 rfl (c_ 0 rfl (c_ 1 rfl (c_ 3 rfl (c_ 10 rfl (c_ 11 rfl (c_ 12 rfl (n_)))))))))
     refine W_sr rfl fun K hK => ?_
     refine sv5 hF (v_move rfl) (v_move rfl) (v_move rfl) (v_move rfl) (v_ixS sl35 rfl rfl (by omega) (by omega)) rfl rfl rfl rfl rfl ?_; clear hF a; intro a hF
     refine sv hF (v_load sc53 rfl (by rw [toNat_c]; exact hkr.c)) rfl ?_; clear hF a; intro a hF
     refine sv hF (v_move rfl) rfl ?_; clear hF a; intro a hF
     refine sc hF rfl rfl rfl en110 rfl (scaled_ok B _ wb p hp _ _ m k (hp.fld.inv (f1 k c)) f1 _ hS.inv hrow hb1 hib (Nat.le_refl _) (by omega)) ?_; clear hF a; intro v w' a hv hF
     obtain ⟨ob, hR, hS'⟩ := hv
     replace hR := hR.le hKs
     obtain ⟨gR, cR, rfl, rfl⟩ := hR.ptr (by simp; omega)
     rw [zints_length, trow_length] at hR hF
     clear hkr hrow
     replace hMO := hMO.st (by decide) hS'
     replace hKs := Nat.le_trans hKs hS'.ext.size
     replace hS := hS.trans hS'
     clear hS'
     refine svw hK hF (v_assign rfl) rfl ?_; clear hF a hK K; intro a hF
     replace hF := hF.sub _ (c_ 16 rfl (c_ 13 rfl (c_ 0 rfl (c_ 1 rfl (c_ 3 rfl (c_ 10 rfl (c_ 11 rfl (c_ 12 rfl (n_)))))))))
     have hMO2 := hMO
     rw [show MOwn FDx B w.heap.size M KM w' 53 (.slice (some ⟨go, 0, none⟩) n cap) (some go) (tab n m f1) = MOwn FDx B w.heap.size M KM w' 53 (.slice (some ⟨go, 0, none⟩) (tab n m f1).length cap) (some go) (tab n m f1) by rw [tab_length]] at hMO2
     obtain ⟨p_t, c_t, hkt, hrt⟩ := hMO2.rowO (by decide) (i := t) (r := trow m f1 t) (tab_at ht)
     rw [trow_length] at hkt hrt
     clear hMO2
     refine W_sr rfl fun K hK => ?_
     refine sv5 hF (v_move rfl) (v_move rfl) (v_move rfl) (v_move rfl) (v_ixS sl35 rfl rfl (by omega) (by omega)) rfl rfl rfl rfl rfl ?_; clear hF a; intro a hF
     refine sv hF (v_load sc53 rfl (by rw [toNat_c]; exact hkt.c)) rfl ?_; clear hF a; intro a hF
     refine sv hF (v_ixS sl35 rfl rfl (by omega) (by omega)) rfl ?_; clear hF a; intro a hF
     refine s_setM (D := FDx) (B := B) hF on53 rfl (by rw [toNat_c, tab_length]; omega) rfl rfl hMO hrt (by decide) (by decide) hS.inv ?_; intro w' hm hI' ho'
     replace hR := hR.mb hm (hR.ne_mown hMO (by decide))
     replace hS := hS.mb hm (fun k h => (hMO.lt k h).1)
     replace hKs := Nat.le_trans hKs hm.size
     have hKm0 := hm.size
     replace hMO := ho'
     rw [toNat_c, Nat.zero_add] at hMO
     clear hm hI' ho'
     clear hkt hrt
     refine wn hK ?_
     clear hK K
     replace hF := hF.sub _ (c_ 16 rfl (c_ 0 rfl (c_ 1 rfl (c_ 3 rfl (c_ 10 rfl (c_ 11 rfl (c_ 12 rfl (n_))))))))
     refine W_sr rfl fun K hK => ?_
     refine sv4 hF (v_move rfl) (v_move rfl) (v_move rfl) (v_ixS sl35 rfl rfl (by omega) (by omega)) rfl rfl rfl rfl ?_; clear hF a; intro a hF
     replace hMO := hMO.up hKs
     refine s_setM (D := FDx) (B := B) hF on53 rfl (by rw [toNat_c, List.length_set, tab_length]; omega) rfl rfl hMO (.of (r := trow m (fun _ j => hp.fld.mul (f1 k j) (hp.fld.inv (f1 k c))) 0) hR (Nat.le_trans hM hNK)) (by decide) (by decide) hS.inv ?_; intro w' hm hI' ho'
     replace hR := hR.mb hm (hR.ne_mown hMO (by decide))
     replace hS := hS.mb hm (fun k h => (hMO.lt k h).1)
     replace hKs := Nat.le_trans hKs hm.size
     have hKm0 := hm.size
     replace hMO := ho'
     rw [toNat_c, Nat.zero_add] at hMO
     clear hm hI' ho'
     replace hMO := hMO.cast (hp.fld.swap_scl (m := m) (s := hp.fld.inv (f1 k c)) ht hkn)
     refine wn hK ?_
     clear hK K
     replace hF := hF.sub _ (c_ 16 rfl (c_ 0 rfl (c_ 1 rfl (c_ 3 rfl (c_ 10 rfl (c_ 11 rfl (c_ 12 rfl (n_))))))))
     refine W_seq ?_
     refine W_sr rfl fun K hK => ?_
     refine svw hK hF (v_assign rfl) rfl ?_; clear hF a hK K; intro a hF
     refine W_block ?_
     refine W_loop (fun q3 a w3 => ∃ (i : Nat), Fr 112 [(0, .int .i64 (wb : Int)), (1, .int .u32 (p : Int)), (3, .int .i64 (cols : Int)), (10, .slice (some ⟨go, 0, none⟩) n cap), (11, .int .i64 (t : Int)), (12, .int .i64 (c : Int)), (16, .slice (some ⟨gR, 0, none⟩) m cR), (17, .int .i64 (i : Int))] a ∧ (St FDx B w w3) ∧ (MOwn FDx B w.heap.size M w3.heap.size w3 53 (.slice (some ⟨go, 0, none⟩) n cap) (some go) (tab n m (hp.fld.cleF t c i (hp.fld.sclF t (hp.fld.inv (f1 k c)) m (fun i j => f1 (Fld.sw t k i) j))))) ∧ (Gam.Own FDx B KM w3 FDx.E (.slice (some ⟨gR, 0, none⟩) m cR) (some gR) (zints (trow m (fun _ j => hp.fld.mul (f1 k j) (hp.fld.inv (f1 k c))) 0))) ∧ (KM ≤ w3.heap.size) ∧ (i ≤ n) ∧ (q3 + i = n)) (n) ?_ ?_
     ·
      skip
      exact ⟨0, hF.sub _ (c_ 0 rfl (c_ 1 rfl (c_ 3 rfl (c_ 10 rfl (c_ 11 rfl (c_ 12 rfl (c_ 16 rfl (c_ 17 rfl (n_))))))))), hS, (hMO.up hKm0).cast (tab_congr fun a j _ _ => by unfold Fld.cleF; rw [if_neg (by omega)]), hR, hKs, by omega, by omega⟩
     ·
      skip
      clear hF
      clear hS hR hKs
      rintro q3 a w3 ⟨i, hF, hS, hMO, hR, hKw, hi, hq3⟩
      refine W_seq ?_
      obtain ⟨KN, hKe⟩ : ∃ K, K = w3.heap.size := ⟨_, rfl⟩
      rw [← hKe] at hMO
      have hKz : KN ≤ w3.heap.size := by omega
      clear hKe
      refine W_sr rfl fun K hK => ?_
      refine sv4w hK hF (v_move rfl) (v_move rfl) (v_lenS rfl sl35 rfl) (v_lss rfl rfl) rfl rfl rfl rfl ?_; clear hF a hK K; intro a hF
      replace hF := hF.sub _ (c_ 73 rfl (c_ 0 rfl (c_ 1 rfl (c_ 3 rfl (c_ 10 rfl (c_ 11 rfl (c_ 12 rfl (c_ 16 rfl (c_ 17 rfl (n_))))))))))
      refine W_if hF rfl (fun hc4 => ?_) (fun hc4 => ?_)
      ·
       skip
       try simp only [dcl] at hc4
       have hin : i < n := by omega
       have hfib : hp.fld.Bd (hp.fld.cleF t c i (hp.fld.sclF t (hp.fld.inv (f1 k c)) m (fun i j => f1 (Fld.sw t k i) j))) := hp.fld.cleF_bd (hp.fld.sclF_bd (fun a b => hb1 _ b))
       have hxb := hfib i c
       rw [hfw] at hxb
       have hMt := hMO.matS (by decide) (Nat.le_trans hM hS.ext.size)
       obtain ⟨gm, om, pr, cr, hgm, hkr, hrow, -⟩ := hMt.row (tab_at (f := (hp.fld.cleF t c i (hp.fld.sclF t (hp.fld.inv (f1 k c)) m (fun i j => f1 (Fld.sw t k i) j)))) (m := m) hin)
       cases hgm
       have hrl : ((List.range m).map fun j => (((hp.fld.cleF t c i (hp.fld.sclF t (hp.fld.inv (f1 k c)) m (fun i j => f1 (Fld.sw t k i) j))) i j : Nat) : Int)).length = m := by simp
       rw [hrl] at hkr hrow
       obtain ⟨gx, ox, hgx, hkx, -⟩ := hrow.kat (zints_at (trow_at (m := m) (f := hp.fld.cleF t c i (hp.fld.sclF t (hp.fld.inv (f1 k c)) m (fun i j => f1 (Fld.sw t k i) j))) (i := i) hcl))
       cases hgx
       clear hMt
       have hei : (hp.fld.cleF t c i (hp.fld.sclF t (hp.fld.inv (f1 k c)) m (fun i j => f1 (Fld.sw t k i) j))) i c = (hp.fld.sclF t (hp.fld.inv (f1 k c)) m (fun i j => f1 (Fld.sw t k i) j)) i c := by unfold Fld.cleF; rw [if_neg (by omega)]
       refine W_skip ?_
       refine W_seq ?_
       refine W_block ?_
       refine W_sr rfl fun K hK => ?_
       refine sv2 hF (v_move rfl) (v_move rfl) rfl rfl ?_; clear hF a; intro a hF
       refine sb hF (v_neq rfl rfl) rfl ?_ ?_
       ·
        clear hF a; intro hc5 a hF
        try simp only [dcl] at hc5
        refine sv hF (v_move rfl) rfl ?_; clear hF a; intro a hF
        refine svg hF rfl ?_
        refine sv hF (v_move rfl) rfl ?_; clear hF a; intro a hF
        refine svg hF rfl ?_
        refine sv hF (v_move rfl) rfl ?_; clear hF a; intro a hF
        refine svg hF rfl ?_
        refine sv hF (v_ixS sl35 rfl rfl (by omega) (by omega)) rfl ?_; clear hF a; intro a hF
        refine svg hF rfl ?_
        refine sv hF (v_load sc53 rfl (by rw [toNat_c]; exact hkr.c)) rfl ?_; clear hF a; intro a hF
        refine svg hF rfl ?_
        refine sv hF (v_move rfl) rfl ?_; clear hF a; intro a hF
        refine svg hF rfl ?_
        refine sv hF (v_ixS sl53 rfl rfl (by omega) (by omega)) rfl ?_; clear hF a; intro a hF
        refine svg hF rfl ?_
        refine sv hF (v_load sc3 rfl (by rw [toNat_c]; exact hkx.c)) rfl ?_; clear hF a; intro a hF
        refine svg hF rfl ?_
        refine sv2w hK hF (v_neq rfl rfl) (v_pickT rfl rfl) rfl rfl ?_; clear hF a hK K; intro a hF
        replace hF := hF.sub _ (c_ 88 rfl (c_ 0 rfl (c_ 1 rfl (c_ 3 rfl (c_ 10 rfl (c_ 11 rfl (c_ 12 rfl (c_ 16 rfl (c_ 17 rfl (n_))))))))))
        refine W_if hF rfl (fun hc6 => ?_) (fun hc6 => ?_)
        ·
         skip
         try simp only [dcl] at hc6
         have hit : i ≠ t := by omega
         have hrfb : hp.fld.Bd (fun _ j => hp.fld.mul (f1 k j) (hp.fld.inv (f1 k c))) := fun _ j => hp.fld.lt _ _
         refine W_dS (fun (w2 : World) => St FDx B w w2) (m := 20) rfl hmix (fun K hK => ?_)
         have hS' := St.drew hS.inv
         replace hMO := hMO.st (by decide) hS'
         replace hR := hR.st (by decide) hS'
         replace hKw := Nat.le_trans hKw hS'.ext.size
         replace hKz := Nat.le_trans hKz hS'.ext.size
         replace hkr := hkr.st hS'
         replace hkx := hkx.st hS'
         replace hrow := (hrow.st hS').mono hS'.ext.size
         replace hS := hS.trans hS'
         clear hS'
         have hSS : (fun (w2 : World) => St FDx B w w2) _ := hS
         refine b_v (i := 0) rfl (by kernel_rfl) hF (fun w2 hx => v_move rfl) rfl hSS ?_; clear hF a; intro a hF
         refine b_v (i := 1) rfl (by kernel_rfl) hF (fun w2 hx => v_move rfl) rfl hSS ?_; clear hF a; intro a hF
         refine b_v (i := 2) rfl (by kernel_rfl) hF (fun w2 hx => v_move rfl) rfl hSS ?_; clear hF a; intro a hF
         refine b_v (i := 3) rfl (by kernel_rfl) hF (fun w2 hx => v_move rfl) rfl hSS ?_; clear hF a; intro a hF
         refine b_v (i := 4) rfl (by kernel_rfl) hF (fun w2 hx => v_ixS sl35 rfl rfl (by omega) (by omega)) rfl hSS ?_; clear hF a; intro a hF
         refine b_v (i := 6) rfl (by kernel_rfl) hF (fun w2 hx => v_move rfl) rfl hSS ?_; clear hF a; intro a hF
         refine b_v (i := 7) rfl (by kernel_rfl) hF (fun w2 hx => v_move rfl) rfl hSS ?_; clear hF a; intro a hF
         refine b_v (i := 8) rfl (by kernel_rfl) hF (fun w2 hx => v_move rfl) rfl hSS ?_; clear hF a; intro a hF
         refine b_v (i := 9) rfl (by kernel_rfl) hF (fun w2 hx => v_move rfl) rfl hSS ?_; clear hF a; intro a hF
         refine b_v (i := 10) rfl (by kernel_rfl) hF (fun w2 hx => v_move rfl) rfl hSS ?_; clear hF a; intro a hF
         refine b_v (i := 11) rfl (by kernel_rfl) hF (fun w2 hx => v_ixS sl35 rfl rfl (by omega) (by omega)) rfl hSS ?_; clear hF a; intro a hF
         refine b_v (i := 13) rfl (by kernel_rfl) hF (fun w2 hx => v_move rfl) rfl hSS ?_; clear hF a; intro a hF
         refine b_e2 (i := 5) (i' := 12) (by kernel_rfl) rfl rfl ?_ ?_
         ·
          skip
          refine sv hF (v_load sc53 rfl (by rw [toNat_c]; exact hkr.c)) rfl ?_; clear hF a; intro a hF
          refine WL_nil ⟨hSS, ?_⟩
          refine b_e (i := 12) (by kernel_rfl) rfl ?_
          refine sv hF (v_load sc53 rfl (by rw [toNat_c]; exact hkr.c)) rfl ?_; clear hF a; intro a hF
          refine WL_nil ⟨hSS, ?_⟩
          refine b_v (i := 14) rfl (by kernel_rfl) hF (fun w2 hx => v_ixS sl53 rfl rfl (by omega) (by omega)) rfl hSS ?_; clear hF a; intro a hF
          refine b_e (i := 15) (by kernel_rfl) rfl ?_
          refine sv hF (v_load sc3 rfl (by rw [toNat_c]; exact hkx.c)) rfl ?_; clear hF a; intro a hF
          refine WL_nil ⟨hSS, ?_⟩
          refine b_e (i := 16) (by kernel_rfl) rfl ?_
          refine sc hF rfl rfl rfl en110 rfl (scaled_ok B _ wb p hp (some ⟨gR, 0, none⟩) cR m 0 ((hp.fld.cleF t c i (hp.fld.sclF t (hp.fld.inv (f1 k c)) m (fun i j => f1 (Fld.sw t k i) j))) i c) (fun _ j => hp.fld.mul (f1 k j) (hp.fld.inv (f1 k c))) _ hS.inv (hR.row (by decide)) hrfb hxb (Nat.le_refl _) (by omega)) ?_; clear hF a; intro v w' a hv hF
          obtain ⟨obU, hU, hS'⟩ := hv
          replace hU := hU.le hKw
          obtain ⟨gU, cU, rfl, rfl⟩ := hU.ptr (by simp; omega)
          rw [zints_length, trow_length] at hU hF
          replace hMO := hMO.st (by decide) hS'
          replace hR := hR.st (by decide) hS'
          replace hKw := Nat.le_trans hKw hS'.ext.size
          replace hKz := Nat.le_trans hKz hS'.ext.size
          replace hkr := hkr.st hS'
          replace hkx := hkx.st hS'
          replace hrow := (hrow.st hS').mono hS'.ext.size
          replace hS := hS.trans hS'
          clear hS'
          clear hSS
          have hSS : (fun (w2 : World) => St FDx B w w2) _ := hS
          refine WL_nil ⟨hSS, ?_⟩
          refine b_e (i := 17) (by kernel_rfl) rfl ?_
          refine sc hF rfl rfl rfl en111 rfl (added_ok B _ _ _ _ _ m i 0 (hp.fld.cleF t c i (hp.fld.sclF t (hp.fld.inv (f1 k c)) m (fun i j => f1 (Fld.sw t k i) j))) (fun _ j => hp.fld.mul ((fun _ j => hp.fld.mul (f1 k j) (hp.fld.inv (f1 k c))) 0 j) ((hp.fld.cleF t c i (hp.fld.sclF t (hp.fld.inv (f1 k c)) m (fun i j => f1 (Fld.sw t k i) j))) i c)) _ hS.inv hrow (hU.row (by decide)) (fun j => Nat.lt_of_lt_of_le (by have := hfib i j; rw [hfw] at this; exact this) h16) (fun j => Nat.lt_of_lt_of_le (by have := hp.fld.lt ((fun _ j => hp.fld.mul (f1 k j) (hp.fld.inv (f1 k c))) 0 j) ((hp.fld.cleF t c i (hp.fld.sclF t (hp.fld.inv (f1 k c)) m (fun i j => f1 (Fld.sw t k i) j))) i c); rw [hfw] at this; exact this) h16) (Nat.le_refl _) (by omega)) ?_; clear hF a; intro v w' a hv hF
          obtain ⟨obV, hV, hS'⟩ := hv
          replace hV := hV.le hKw
          replace hMO := hMO.st (by decide) hS'
          replace hR := hR.st (by decide) hS'
          replace hKw := Nat.le_trans hKw hS'.ext.size
          replace hKz := Nat.le_trans hKz hS'.ext.size
          replace hS := hS.trans hS'
          clear hS'
          clear hSS
          have hSS : (fun (w2 : World) => St FDx B w w2) _ := hS
          refine WL_nil ⟨hSS, ?_⟩
          refine b_v (i := 18) rfl (by kernel_rfl) hF (fun w2 hx => v_ixS sl35 rfl rfl (by omega) (by omega)) rfl hSS ?_; clear hF a; intro a hF
          refine b_e (i := 19) (by kernel_rfl) rfl ?_
          replace hMO := hMO.up hKz
          obtain ⟨aV, cV, rfl⟩ := hV.shape
          refine s_setM (D := FDx) (B := B) hF on53 rfl (by rw [toNat_c, tab_length]; omega) rfl rfl hMO (.of (r := trow m (fun _ j => (hp.fld.cleF t c i (hp.fld.sclF t (hp.fld.inv (f1 k c)) m (fun i j => f1 (Fld.sw t k i) j))) i j ^^^ hp.fld.mul ((fun _ j => hp.fld.mul (f1 k j) (hp.fld.inv (f1 k c))) 0 j) ((hp.fld.cleF t c i (hp.fld.sclF t (hp.fld.inv (f1 k c)) m (fun i j => f1 (Fld.sw t k i) j))) i c)) 0) hV (Nat.le_trans hM hNK)) (by decide) (by decide) hS.inv ?_; intro w' hm hI' ho'
          replace hS := hS.mb hm (fun k h => (hMO.lt k h).1)
          replace hR := hR.mb hm (hR.ne_mown hMO (by decide))
          replace hKw := Nat.le_trans hKw hm.size
          have hKz := hm.size
          replace hMO := ho'
          rw [toNat_c, Nat.zero_add] at hMO
          replace hMO := hMO.cast ((congrArg (List.set _ i) (cle_row (m := m) hp hit hcl hsw rfl)).trans (hp.fld.cleF_set hit))
          clear hm hI' ho' hV
          have hSS : (fun (w2 : World) => St FDx B w w2) _ := hS
          refine WL_nil ⟨hSS, ?_⟩
          refine b_done (by kernel_rfl) (hK _ _ ?_)
          clear hK K
          replace hF := hF.sub _ (c_ 0 rfl (c_ 1 rfl (c_ 3 rfl (c_ 10 rfl (c_ 11 rfl (c_ 12 rfl (c_ 16 rfl (c_ 17 rfl (n_)))))))))
          refine W_reg rfl fun K hK => ?_
          refine sv3w hK hF (v_move rfl) (v_addI rfl rfl (by omega)) (v_assign rfl) rfl rfl rfl ?_; clear hF a hK K; intro a hF
          exact ⟨q3 - 1, by omega, i + 1, hF.sub _ (c_ 0 rfl (c_ 1 rfl (c_ 3 rfl (c_ 10 rfl (c_ 11 rfl (c_ 12 rfl (c_ 16 rfl (c_ 17 rfl (n_))))))))), hS, hMO.up (by first | exact hKz | exact Nat.le_refl _), hR, hKw, by omega, by omega⟩
         ·
          skip
          refine sv hF (v_load sc53 rfl (by rw [toNat_c]; exact hkr.c)) rfl ?_; clear hF a; intro a hF
          refine WL_nil ⟨hSS, ?_⟩
          refine b_v (i := 14) rfl (by kernel_rfl) hF (fun w2 hx => v_ixS sl53 rfl rfl (by omega) (by omega)) rfl hSS ?_; clear hF a; intro a hF
          refine b_e2 (i := 5) (i' := 15) (by kernel_rfl) rfl rfl ?_ ?_
          ·
           skip
           refine sv hF (v_load sc53 rfl (by rw [toNat_c]; exact hkr.c)) rfl ?_; clear hF a; intro a hF
           refine WL_nil ⟨hSS, ?_⟩
           refine b_e (i := 15) (by kernel_rfl) rfl ?_
           refine sv hF (v_load sc3 rfl (by rw [toNat_c]; exact hkx.c)) rfl ?_; clear hF a; intro a hF
           refine WL_nil ⟨hSS, ?_⟩
           refine b_e (i := 16) (by kernel_rfl) rfl ?_
           refine sc hF rfl rfl rfl en110 rfl (scaled_ok B _ wb p hp (some ⟨gR, 0, none⟩) cR m 0 ((hp.fld.cleF t c i (hp.fld.sclF t (hp.fld.inv (f1 k c)) m (fun i j => f1 (Fld.sw t k i) j))) i c) (fun _ j => hp.fld.mul (f1 k j) (hp.fld.inv (f1 k c))) _ hS.inv (hR.row (by decide)) hrfb hxb (Nat.le_refl _) (by omega)) ?_; clear hF a; intro v w' a hv hF
           obtain ⟨obU, hU, hS'⟩ := hv
           replace hU := hU.le hKw
           obtain ⟨gU, cU, rfl, rfl⟩ := hU.ptr (by simp; omega)
           rw [zints_length, trow_length] at hU hF
           replace hMO := hMO.st (by decide) hS'
           replace hR := hR.st (by decide) hS'
           replace hKw := Nat.le_trans hKw hS'.ext.size
           replace hKz := Nat.le_trans hKz hS'.ext.size
           replace hkr := hkr.st hS'
           replace hkx := hkx.st hS'
           replace hrow := (hrow.st hS').mono hS'.ext.size
           replace hS := hS.trans hS'
           clear hS'
           clear hSS
           have hSS : (fun (w2 : World) => St FDx B w w2) _ := hS
           refine WL_nil ⟨hSS, ?_⟩
           refine b_e (i := 17) (by kernel_rfl) rfl ?_
           refine sc hF rfl rfl rfl en111 rfl (added_ok B _ _ _ _ _ m i 0 (hp.fld.cleF t c i (hp.fld.sclF t (hp.fld.inv (f1 k c)) m (fun i j => f1 (Fld.sw t k i) j))) (fun _ j => hp.fld.mul ((fun _ j => hp.fld.mul (f1 k j) (hp.fld.inv (f1 k c))) 0 j) ((hp.fld.cleF t c i (hp.fld.sclF t (hp.fld.inv (f1 k c)) m (fun i j => f1 (Fld.sw t k i) j))) i c)) _ hS.inv hrow (hU.row (by decide)) (fun j => Nat.lt_of_lt_of_le (by have := hfib i j; rw [hfw] at this; exact this) h16) (fun j => Nat.lt_of_lt_of_le (by have := hp.fld.lt ((fun _ j => hp.fld.mul (f1 k j) (hp.fld.inv (f1 k c))) 0 j) ((hp.fld.cleF t c i (hp.fld.sclF t (hp.fld.inv (f1 k c)) m (fun i j => f1 (Fld.sw t k i) j))) i c); rw [hfw] at this; exact this) h16) (Nat.le_refl _) (by omega)) ?_; clear hF a; intro v w' a hv hF
           obtain ⟨obV, hV, hS'⟩ := hv
           replace hV := hV.le hKw
           replace hMO := hMO.st (by decide) hS'
           replace hR := hR.st (by decide) hS'
           replace hKw := Nat.le_trans hKw hS'.ext.size
           replace hKz := Nat.le_trans hKz hS'.ext.size
           replace hS := hS.trans hS'
           clear hS'
           clear hSS
           have hSS : (fun (w2 : World) => St FDx B w w2) _ := hS
           refine WL_nil ⟨hSS, ?_⟩
           refine b_v (i := 18) rfl (by kernel_rfl) hF (fun w2 hx => v_ixS sl35 rfl rfl (by omega) (by omega)) rfl hSS ?_; clear hF a; intro a hF
           refine b_e (i := 19) (by kernel_rfl) rfl ?_
           replace hMO := hMO.up hKz
           obtain ⟨aV, cV, rfl⟩ := hV.shape
           refine s_setM (D := FDx) (B := B) hF on53 rfl (by rw [toNat_c, tab_length]; omega) rfl rfl hMO (.of (r := trow m (fun _ j => (hp.fld.cleF t c i (hp.fld.sclF t (hp.fld.inv (f1 k c)) m (fun i j => f1 (Fld.sw t k i) j))) i j ^^^ hp.fld.mul ((fun _ j => hp.fld.mul (f1 k j) (hp.fld.inv (f1 k c))) 0 j) ((hp.fld.cleF t c i (hp.fld.sclF t (hp.fld.inv (f1 k c)) m (fun i j => f1 (Fld.sw t k i) j))) i c)) 0) hV (Nat.le_trans hM hNK)) (by decide) (by decide) hS.inv ?_; intro w' hm hI' ho'
           replace hS := hS.mb hm (fun k h => (hMO.lt k h).1)
           replace hR := hR.mb hm (hR.ne_mown hMO (by decide))
           replace hKw := Nat.le_trans hKw hm.size
           have hKz := hm.size
           replace hMO := ho'
           rw [toNat_c, Nat.zero_add] at hMO
           replace hMO := hMO.cast ((congrArg (List.set _ i) (cle_row (m := m) hp hit hcl hsw rfl)).trans (hp.fld.cleF_set hit))
           clear hm hI' ho' hV
           have hSS : (fun (w2 : World) => St FDx B w w2) _ := hS
           refine WL_nil ⟨hSS, ?_⟩
           refine b_done (by kernel_rfl) (hK _ _ ?_)
           clear hK K
           replace hF := hF.sub _ (c_ 0 rfl (c_ 1 rfl (c_ 3 rfl (c_ 10 rfl (c_ 11 rfl (c_ 12 rfl (c_ 16 rfl (c_ 17 rfl (n_)))))))))
           refine W_reg rfl fun K hK => ?_
           refine sv3w hK hF (v_move rfl) (v_addI rfl rfl (by omega)) (v_assign rfl) rfl rfl rfl ?_; clear hF a hK K; intro a hF
           exact ⟨q3 - 1, by omega, i + 1, hF.sub _ (c_ 0 rfl (c_ 1 rfl (c_ 3 rfl (c_ 10 rfl (c_ 11 rfl (c_ 12 rfl (c_ 16 rfl (c_ 17 rfl (n_))))))))), hS, hMO.up (by first | exact hKz | exact Nat.le_refl _), hR, hKw, by omega, by omega⟩
          ·
           skip
           refine sv hF (v_load sc3 rfl (by rw [toNat_c]; exact hkx.c)) rfl ?_; clear hF a; intro a hF
           refine WL_nil ⟨hSS, ?_⟩
           refine b_e2 (i := 5) (i' := 16) (by kernel_rfl) rfl rfl ?_ ?_
           ·
            skip
            refine sv hF (v_load sc53 rfl (by rw [toNat_c]; exact hkr.c)) rfl ?_; clear hF a; intro a hF
            refine WL_nil ⟨hSS, ?_⟩
            refine b_e (i := 16) (by kernel_rfl) rfl ?_
            refine sc hF rfl rfl rfl en110 rfl (scaled_ok B _ wb p hp (some ⟨gR, 0, none⟩) cR m 0 ((hp.fld.cleF t c i (hp.fld.sclF t (hp.fld.inv (f1 k c)) m (fun i j => f1 (Fld.sw t k i) j))) i c) (fun _ j => hp.fld.mul (f1 k j) (hp.fld.inv (f1 k c))) _ hS.inv (hR.row (by decide)) hrfb hxb (Nat.le_refl _) (by omega)) ?_; clear hF a; intro v w' a hv hF
            obtain ⟨obU, hU, hS'⟩ := hv
            replace hU := hU.le hKw
            obtain ⟨gU, cU, rfl, rfl⟩ := hU.ptr (by simp; omega)
            rw [zints_length, trow_length] at hU hF
            replace hMO := hMO.st (by decide) hS'
            replace hR := hR.st (by decide) hS'
            replace hKw := Nat.le_trans hKw hS'.ext.size
            replace hKz := Nat.le_trans hKz hS'.ext.size
            replace hkr := hkr.st hS'
            replace hkx := hkx.st hS'
            replace hrow := (hrow.st hS').mono hS'.ext.size
            replace hS := hS.trans hS'
            clear hS'
            clear hSS
            have hSS : (fun (w2 : World) => St FDx B w w2) _ := hS
            refine WL_nil ⟨hSS, ?_⟩
            refine b_e (i := 17) (by kernel_rfl) rfl ?_
            refine sc hF rfl rfl rfl en111 rfl (added_ok B _ _ _ _ _ m i 0 (hp.fld.cleF t c i (hp.fld.sclF t (hp.fld.inv (f1 k c)) m (fun i j => f1 (Fld.sw t k i) j))) (fun _ j => hp.fld.mul ((fun _ j => hp.fld.mul (f1 k j) (hp.fld.inv (f1 k c))) 0 j) ((hp.fld.cleF t c i (hp.fld.sclF t (hp.fld.inv (f1 k c)) m (fun i j => f1 (Fld.sw t k i) j))) i c)) _ hS.inv hrow (hU.row (by decide)) (fun j => Nat.lt_of_lt_of_le (by have := hfib i j; rw [hfw] at this; exact this) h16) (fun j => Nat.lt_of_lt_of_le (by have := hp.fld.lt ((fun _ j => hp.fld.mul (f1 k j) (hp.fld.inv (f1 k c))) 0 j) ((hp.fld.cleF t c i (hp.fld.sclF t (hp.fld.inv (f1 k c)) m (fun i j => f1 (Fld.sw t k i) j))) i c); rw [hfw] at this; exact this) h16) (Nat.le_refl _) (by omega)) ?_; clear hF a; intro v w' a hv hF
            obtain ⟨obV, hV, hS'⟩ := hv
            replace hV := hV.le hKw
            replace hMO := hMO.st (by decide) hS'
            replace hR := hR.st (by decide) hS'
            replace hKw := Nat.le_trans hKw hS'.ext.size
            replace hKz := Nat.le_trans hKz hS'.ext.size
            replace hS := hS.trans hS'
            clear hS'
            clear hSS
            have hSS : (fun (w2 : World) => St FDx B w w2) _ := hS
            refine WL_nil ⟨hSS, ?_⟩
            refine b_v (i := 18) rfl (by kernel_rfl) hF (fun w2 hx => v_ixS sl35 rfl rfl (by omega) (by omega)) rfl hSS ?_; clear hF a; intro a hF
            refine b_e (i := 19) (by kernel_rfl) rfl ?_
            replace hMO := hMO.up hKz
            obtain ⟨aV, cV, rfl⟩ := hV.shape
            refine s_setM (D := FDx) (B := B) hF on53 rfl (by rw [toNat_c, tab_length]; omega) rfl rfl hMO (.of (r := trow m (fun _ j => (hp.fld.cleF t c i (hp.fld.sclF t (hp.fld.inv (f1 k c)) m (fun i j => f1 (Fld.sw t k i) j))) i j ^^^ hp.fld.mul ((fun _ j => hp.fld.mul (f1 k j) (hp.fld.inv (f1 k c))) 0 j) ((hp.fld.cleF t c i (hp.fld.sclF t (hp.fld.inv (f1 k c)) m (fun i j => f1 (Fld.sw t k i) j))) i c)) 0) hV (Nat.le_trans hM hNK)) (by decide) (by decide) hS.inv ?_; intro w' hm hI' ho'
            replace hS := hS.mb hm (fun k h => (hMO.lt k h).1)
            replace hR := hR.mb hm (hR.ne_mown hMO (by decide))
            replace hKw := Nat.le_trans hKw hm.size
            have hKz := hm.size
            replace hMO := ho'
            rw [toNat_c, Nat.zero_add] at hMO
            replace hMO := hMO.cast ((congrArg (List.set _ i) (cle_row (m := m) hp hit hcl hsw rfl)).trans (hp.fld.cleF_set hit))
            clear hm hI' ho' hV
            have hSS : (fun (w2 : World) => St FDx B w w2) _ := hS
            refine WL_nil ⟨hSS, ?_⟩
            refine b_done (by kernel_rfl) (hK _ _ ?_)
            clear hK K
            replace hF := hF.sub _ (c_ 0 rfl (c_ 1 rfl (c_ 3 rfl (c_ 10 rfl (c_ 11 rfl (c_ 12 rfl (c_ 16 rfl (c_ 17 rfl (n_)))))))))
            refine W_reg rfl fun K hK => ?_
            refine sv3w hK hF (v_move rfl) (v_addI rfl rfl (by omega)) (v_assign rfl) rfl rfl rfl ?_; clear hF a hK K; intro a hF
            exact ⟨q3 - 1, by omega, i + 1, hF.sub _ (c_ 0 rfl (c_ 1 rfl (c_ 3 rfl (c_ 10 rfl (c_ 11 rfl (c_ 12 rfl (c_ 16 rfl (c_ 17 rfl (n_))))))))), hS, hMO.up (by first | exact hKz | exact Nat.le_refl _), hR, hKw, by omega, by omega⟩
           ·
            skip
            refine sc hF rfl rfl rfl en110 rfl (scaled_ok B _ wb p hp (some ⟨gR, 0, none⟩) cR m 0 ((hp.fld.cleF t c i (hp.fld.sclF t (hp.fld.inv (f1 k c)) m (fun i j => f1 (Fld.sw t k i) j))) i c) (fun _ j => hp.fld.mul (f1 k j) (hp.fld.inv (f1 k c))) _ hS.inv (hR.row (by decide)) hrfb hxb (Nat.le_refl _) (by omega)) ?_; clear hF a; intro v w' a hv hF
            obtain ⟨obU, hU, hS'⟩ := hv
            replace hU := hU.le hKw
            obtain ⟨gU, cU, rfl, rfl⟩ := hU.ptr (by simp; omega)
            rw [zints_length, trow_length] at hU hF
            replace hMO := hMO.st (by decide) hS'
            replace hR := hR.st (by decide) hS'
            replace hKw := Nat.le_trans hKw hS'.ext.size
            replace hKz := Nat.le_trans hKz hS'.ext.size
            replace hkr := hkr.st hS'
            replace hkx := hkx.st hS'
            replace hrow := (hrow.st hS').mono hS'.ext.size
            replace hS := hS.trans hS'
            clear hS'
            clear hSS
            have hSS : (fun (w2 : World) => St FDx B w w2) _ := hS
            refine WL_nil ⟨hSS, ?_⟩
            refine b_e (i := 5) (by kernel_rfl) rfl ?_
            refine sv hF (v_load sc53 rfl (by rw [toNat_c]; exact hkr.c)) rfl ?_; clear hF a; intro a hF
            refine WL_nil ⟨hSS, ?_⟩
            refine b_e (i := 17) (by kernel_rfl) rfl ?_
            refine sc hF rfl rfl rfl en111 rfl (added_ok B _ _ _ _ _ m i 0 (hp.fld.cleF t c i (hp.fld.sclF t (hp.fld.inv (f1 k c)) m (fun i j => f1 (Fld.sw t k i) j))) (fun _ j => hp.fld.mul ((fun _ j => hp.fld.mul (f1 k j) (hp.fld.inv (f1 k c))) 0 j) ((hp.fld.cleF t c i (hp.fld.sclF t (hp.fld.inv (f1 k c)) m (fun i j => f1 (Fld.sw t k i) j))) i c)) _ hS.inv hrow (hU.row (by decide)) (fun j => Nat.lt_of_lt_of_le (by have := hfib i j; rw [hfw] at this; exact this) h16) (fun j => Nat.lt_of_lt_of_le (by have := hp.fld.lt ((fun _ j => hp.fld.mul (f1 k j) (hp.fld.inv (f1 k c))) 0 j) ((hp.fld.cleF t c i (hp.fld.sclF t (hp.fld.inv (f1 k c)) m (fun i j => f1 (Fld.sw t k i) j))) i c); rw [hfw] at this; exact this) h16) (Nat.le_refl _) (by omega)) ?_; clear hF a; intro v w' a hv hF
            obtain ⟨obV, hV, hS'⟩ := hv
            replace hV := hV.le hKw
            replace hMO := hMO.st (by decide) hS'
            replace hR := hR.st (by decide) hS'
            replace hKw := Nat.le_trans hKw hS'.ext.size
            replace hKz := Nat.le_trans hKz hS'.ext.size
            replace hS := hS.trans hS'
            clear hS'
            clear hSS
            have hSS : (fun (w2 : World) => St FDx B w w2) _ := hS
            refine WL_nil ⟨hSS, ?_⟩
            refine b_v (i := 18) rfl (by kernel_rfl) hF (fun w2 hx => v_ixS sl35 rfl rfl (by omega) (by omega)) rfl hSS ?_; clear hF a; intro a hF
            refine b_e (i := 19) (by kernel_rfl) rfl ?_
            replace hMO := hMO.up hKz
            obtain ⟨aV, cV, rfl⟩ := hV.shape
            refine s_setM (D := FDx) (B := B) hF on53 rfl (by rw [toNat_c, tab_length]; omega) rfl rfl hMO (.of (r := trow m (fun _ j => (hp.fld.cleF t c i (hp.fld.sclF t (hp.fld.inv (f1 k c)) m (fun i j => f1 (Fld.sw t k i) j))) i j ^^^ hp.fld.mul ((fun _ j => hp.fld.mul (f1 k j) (hp.fld.inv (f1 k c))) 0 j) ((hp.fld.cleF t c i (hp.fld.sclF t (hp.fld.inv (f1 k c)) m (fun i j => f1 (Fld.sw t k i) j))) i c)) 0) hV (Nat.le_trans hM hNK)) (by decide) (by decide) hS.inv ?_; intro w' hm hI' ho'
            replace hS := hS.mb hm (fun k h => (hMO.lt k h).1)
            replace hR := hR.mb hm (hR.ne_mown hMO (by decide))
            replace hKw := Nat.le_trans hKw hm.size
            have hKz := hm.size
            replace hMO := ho'
            rw [toNat_c, Nat.zero_add] at hMO
            replace hMO := hMO.cast ((congrArg (List.set _ i) (cle_row (m := m) hp hit hcl hsw rfl)).trans (hp.fld.cleF_set hit))
            clear hm hI' ho' hV
            have hSS : (fun (w2 : World) => St FDx B w w2) _ := hS
            refine WL_nil ⟨hSS, ?_⟩
            refine b_done (by kernel_rfl) (hK _ _ ?_)
            clear hK K
            replace hF := hF.sub _ (c_ 0 rfl (c_ 1 rfl (c_ 3 rfl (c_ 10 rfl (c_ 11 rfl (c_ 12 rfl (c_ 16 rfl (c_ 17 rfl (n_)))))))))
            refine W_reg rfl fun K hK => ?_
            refine sv3w hK hF (v_move rfl) (v_addI rfl rfl (by omega)) (v_assign rfl) rfl rfl rfl ?_; clear hF a hK K; intro a hF
            exact ⟨q3 - 1, by omega, i + 1, hF.sub _ (c_ 0 rfl (c_ 1 rfl (c_ 3 rfl (c_ 10 rfl (c_ 11 rfl (c_ 12 rfl (c_ 16 rfl (c_ 17 rfl (n_))))))))), hS, hMO.up (by first | exact hKz | exact Nat.le_refl _), hR, hKw, by omega, by omega⟩
        ·
         skip
         try simp only [dcl] at hc6
         replace hMO := hMO.cast (tab_congr (g := hp.fld.cleF t c (i + 1) (hp.fld.sclF t (hp.fld.inv (f1 k c)) m (fun i j => f1 (Fld.sw t k i) j))) fun a j _ _ => hp.fld.cleF_zero (by rw [← hei]; omega) a j)
         clear hkr hkx hrow
         refine W_skip ?_
         refine W_reg rfl fun K hK => ?_
         refine sv3w hK hF (v_move rfl) (v_addI rfl rfl (by omega)) (v_assign rfl) rfl rfl rfl ?_; clear hF a hK K; intro a hF
         replace hF := hF.sub _ (c_ 17 rfl (c_ 75 rfl (c_ 74 rfl (c_ 0 rfl (c_ 1 rfl (c_ 3 rfl (c_ 10 rfl (c_ 11 rfl (c_ 12 rfl (c_ 16 rfl (n_)))))))))))
         exact ⟨q3 - 1, by omega, i + 1, hF.sub _ (c_ 0 rfl (c_ 1 rfl (c_ 3 rfl (c_ 10 rfl (c_ 11 rfl (c_ 12 rfl (c_ 16 rfl (c_ 17 rfl (n_))))))))), hS, hMO.up (by first | exact hKz | exact Nat.le_refl _), hR, hKw, by omega, by omega⟩
       ·
        clear hF a; intro hc5 a hF
        try simp only [dcl] at hc5
        refine sv hF (v_move rfl) rfl ?_; clear hF a; intro a hF
        refine svn5 hF rfl rfl rfl rfl rfl rfl rfl rfl rfl rfl rfl rfl rfl rfl rfl ?_; clear hF a; intro a hF
        refine svn3 hF rfl rfl rfl rfl rfl rfl rfl rfl rfl ?_; clear hF a; intro a hF
        refine svw hK hF (v_pickF rfl rfl) rfl ?_; clear hF a hK K; intro a hF
        replace hF := hF.sub _ (c_ 88 rfl (c_ 0 rfl (c_ 1 rfl (c_ 3 rfl (c_ 10 rfl (c_ 11 rfl (c_ 12 rfl (c_ 16 rfl (c_ 17 rfl (n_))))))))))
        have hit : i = t := by omega
        replace hMO := hMO.cast (tab_congr (g := hp.fld.cleF t c (i + 1) (hp.fld.sclF t (hp.fld.inv (f1 k c)) m (fun i j => f1 (Fld.sw t k i) j))) fun a j _ _ => by subst hit; exact hp.fld.cleF_skip a j)
        clear hkr hkx hrow
        refine W_ifF hF rfl ?_
        refine W_skip ?_
        refine W_reg rfl fun K hK => ?_
        refine sv3w hK hF (v_move rfl) (v_addI rfl rfl (by omega)) (v_assign rfl) rfl rfl rfl ?_; clear hF a hK K; intro a hF
        replace hF := hF.sub _ (c_ 17 rfl (c_ 75 rfl (c_ 74 rfl (c_ 0 rfl (c_ 1 rfl (c_ 3 rfl (c_ 10 rfl (c_ 11 rfl (c_ 12 rfl (c_ 16 rfl (n_)))))))))))
        exact ⟨q3 - 1, by omega, i + 1, hF.sub _ (c_ 0 rfl (c_ 1 rfl (c_ 3 rfl (c_ 10 rfl (c_ 11 rfl (c_ 12 rfl (c_ 16 rfl (c_ 17 rfl (n_))))))))), hS, hMO.up (by first | exact hKz | exact Nat.le_refl _), hR, hKw, by omega, by omega⟩
      ·
       skip
       try simp only [dcl] at hc4
       have hie : i = n := by omega
       rw [hie] at hMO
       have hrd := hp.fld.red_some hf1.symm ht1.symm hpk
       have hrd2 : (hp.fld.red n f (c + 1)).2 = t + 1 := by rw [hrd]
       replace hMO := hMO.cast (tab_congr (g := (hp.fld.red n f (c + 1)).1) fun a j ha hj => by rw [hrd]; exact hp.fld.op_eq hcl a ha j hj)
       refine W_exit rfl ?_
       refine W_reg rfl fun K hK => ?_
       refine sv hF (v_move rfl) rfl ?_; clear hF a; intro a hF
       refine sv hF ((v_addI rfl rfl (by omega)).as (show Value.int .i64 ((t : Int) + 1) = .int .i64 (((hp.fld.red n f (c + 1)).2 : Nat) : Int) by rw [hrd2]; simp)) rfl ?_; clear hF a; intro a hF
       refine svw hK hF (v_assign rfl) rfl ?_; clear hF a hK K; intro a hF
       replace hF := hF.sub _ (c_ 11 rfl (c_ 109 rfl (c_ 108 rfl (c_ 0 rfl (c_ 1 rfl (c_ 3 rfl (c_ 10 rfl (c_ 12 rfl (c_ 16 rfl (c_ 17 rfl (n_)))))))))))
       refine W_reg rfl fun K hK => ?_
       refine sv3w hK hF (v_move rfl) (v_addI rfl rfl (by omega)) (v_assign rfl) rfl rfl rfl ?_; clear hF a hK K; intro a hF
       exact ⟨q - 1, by omega, c + 1, hF.sub _ (c_ 0 rfl (c_ 1 rfl (c_ 3 rfl (c_ 10 rfl (c_ 11 rfl (c_ 12 rfl (n_))))))), hS, hMO.up (by first | exact hKs | exact hKz | exact Nat.le_refl _), by omega, by omega⟩
   ·
    skip
    try simp only [dcl] at hc2
    refine W_exit rfl ?_
    refine W_sr rfl fun K hK => ?_
    refine sv4w hK hF (v_move rfl) (v_move rfl) (v_assign rfl) (v_assign rfl) rfl rfl rfl rfl ?_; clear hF a hK K; intro a hF
    replace hF := hF.sub _ (c_ 9 rfl (c_ 8 rfl (c_ 111 rfl (c_ 110 rfl (c_ 0 rfl (c_ 1 rfl (c_ 3 rfl (c_ 10 rfl (c_ 11 rfl (c_ 12 rfl (n_)))))))))))
    refine W_ret ?_
    refine ⟨_, _, _, hF, rfl, rfl, ?_⟩
    have htn2 : (hp.fld.red n f c).2 = n := by omega
    have hfull := hp.fld.red_full (n := n) (f := f) (c := c) htn2 (cols - c)
    rw [show c + (cols - c) = cols by omega] at hfull
    rw [← hfull] at hMO hF
    exact ⟨_, _, by unfold Fld.rk; rw [hfull], hMO.up hKs, hS⟩
  ·
   clear hF a; intro hc1 a hF
   try simp only [dcl] at hc1
   refine sv hF (v_move rfl) rfl ?_; clear hF a; intro a hF
   refine svn4 hF rfl rfl rfl rfl rfl rfl rfl rfl rfl rfl rfl rfl ?_; clear hF a; intro a hF
   refine svw hK hF (v_pickF rfl rfl) rfl ?_; clear hF a hK K; intro a hF
   replace hF := hF.sub _ (c_ 29 rfl (c_ 0 rfl (c_ 1 rfl (c_ 3 rfl (c_ 10 rfl (c_ 11 rfl (c_ 12 rfl (n_))))))))
   refine W_ifF hF rfl ?_
   refine W_exit rfl ?_
   refine W_sr rfl fun K hK => ?_
   refine sv4w hK hF (v_move rfl) (v_move rfl) (v_assign rfl) (v_assign rfl) rfl rfl rfl rfl ?_; clear hF a hK K; intro a hF
   replace hF := hF.sub _ (c_ 9 rfl (c_ 8 rfl (c_ 111 rfl (c_ 110 rfl (c_ 0 rfl (c_ 1 rfl (c_ 3 rfl (c_ 10 rfl (c_ 11 rfl (c_ 12 rfl (n_)))))))))))
   refine W_ret ?_
   refine ⟨_, _, _, hF, rfl, rfl, ?_⟩
   obtain rfl : c = cols := by omega
   exact ⟨_, _, rfl, hMO.up hKs, hS⟩
end Go.Proofs.YtkoiolamnnmokaaGreat

/- The walks of gambrelref04: products. -/
namespace Go.Proofs.YtkoiolamnnmokaaGreat
open Go Go.Gam
namespace FxFRef04c
theorem en88 : Ent Tryz.prog 88 := ent Tryz.func88 (by kernel_rfl) (by kernel_rfl)
theorem en90 : Ent Tryz.prog 90 := ent Tryz.func90 (by kernel_rfl) (by kernel_rfl)
theorem hmix : Tryz.prog.follows .mixedOrders = true := by kernel_rfl
theorem sc3 : Scalar Tryz.prog 3 := ⟨_, Tryz.underlying3, by simp, by simp⟩
theorem sc53 : Scalar Tryz.prog 53 := ⟨_, Tryz.underlying53, by simp, by simp⟩
theorem sl35 : Sl Tryz.prog 35 53 (.slice none 0 0) 24 := sl_of Tryz.underlying35 rfl (by kernel_rfl)
theorem sl53 : Sl Tryz.prog 53 3 (.int .i64 0) 8 := sl_of Tryz.underlying53 rfl (by kernel_rfl)
end FxFRef04c
open FxFRef04c
set_option maxRecDepth 100000 in
set_option maxHeartbeats 1000000 in
theorem rMulM_ok (B M wb p : Nat) (hp : Prm wb p) (pma : Option Addr) (cma : Nat) (ma : Mtx) (pmb : Option Addr) (cmb : Nat) (mb : Mtx) (w : World) (hI : Inv FDx B w) (hM : M ≤ w.heap.size) (hAma : Mat FDx B M w pma cma ma) (hlma : ma.length ≤ 1000) (hbma : ∀ r ∈ ma, r.length ≤ 1000) (hAmb : Mat FDx B M w pmb cmb mb) (hlmb : mb.length ≤ 1000) (hbmb : ∀ r ∈ mb, r.length ≤ 1000) : Ret Tryz.prog 62 [.int .i64 (wb : Int), .int .u32 (p : Int), .slice pma ma.length cma, .slice pmb mb.length cmb] w fun v w' => ∃ ob u, v = .tuple #[u, .bool (mulM (some (wb, p)) ma mb).isSome] ∧ MOwn FDx B w.heap.size 0 w'.heap.size w' 53 u ob ((mulM (some (wb, p)) ma mb).getD []) ∧ St FDx B w w' := by
 refine enter2 83 [(0, .int .i64 (wb : Int)), (1, .int .u32 (p : Int)), (2, .slice pma ma.length cma), (3, .slice pmb mb.length cmb)] 8 9 Tryz.func62 rfl rfl rfl rfl rfl ?_; intro a hF
 have hS := St.refl hI
 refine W_sr rfl fun K hK => ?_
 refine sv2w hK hF (v_assign rfl) (v_assign rfl) rfl rfl ?_; clear hF a hK K; intro a hF
 refine W_seq ?_
 refine W_sr rfl fun K hK => ?_
 refine sv2 hF (v_move rfl) (v_move rfl) rfl rfl ?_; clear hF a; intro a hF
 refine sc hF rfl rfl rfl en88 rfl (rMay_ok B M wb p hp _ cma ma _ hS.inv hAma (Nat.le_trans hlma (by decide)) (fun r hr => Nat.le_trans (hbma r hr) (by decide))) ?_; clear hF a; intro v w' a hv hF
 obtain ⟨rfl, hS'⟩ := hv
 replace hAma := hAma.st hS'
 replace hAmb := hAmb.st hS'
 replace hS := hS.trans hS'
 clear hS'
 refine sb hF (v_not rfl) rfl ?_ ?_
 ·
  clear hF a; intro hc1 a hF
  try simp only [dcl] at hc1
  refine sv hF (v_move rfl) rfl ?_; clear hF a; intro a hF
  refine svn4 hF rfl rfl rfl rfl rfl rfl rfl rfl rfl rfl rfl rfl ?_; clear hF a; intro a hF
  refine sv2 hF (v_pickT rfl rfl) (v_move rfl) rfl rfl ?_; clear hF a; intro a hF
  refine svn5 hF rfl rfl rfl rfl rfl rfl rfl rfl rfl rfl rfl rfl rfl rfl rfl ?_; clear hF a; intro a hF
  refine svn2 hF rfl rfl rfl rfl rfl rfl ?_; clear hF a; intro a hF
  refine svw hK hF (v_pickT rfl rfl) rfl ?_; clear hF a hK K; intro a hF
  replace hF := hF.sub _ (c_ 34 rfl (c_ 9 rfl (c_ 8 rfl (c_ 0 rfl (c_ 1 rfl (c_ 2 rfl (c_ 3 rfl (n_))))))))
  refine W_ifT hF rfl ?_
  refine W_sr rfl fun K hK => ?_
  refine sv2w hK hF (v_assign rfl) (v_assign rfl) rfl rfl ?_; clear hF a hK K; intro a hF
  replace hF := hF.sub _ (c_ 9 rfl (c_ 8 rfl (c_ 0 rfl (c_ 1 rfl (c_ 2 rfl (c_ 3 rfl (n_)))))))
  refine W_ret ?_
  refine ⟨_, _, _, hF, rfl, rfl, ?_⟩
  have hno : mulM (some (wb, p)) ma mb = none := mulM_f (.inl (by simpa using hc1))
  rw [hno]
  exact ⟨none, _, rfl, MOwn.nil _ _ _ _ _ _ _ (Nat.zero_le _), hS⟩
 ·
  clear hF a; intro hc1 a hF
  try simp only [dcl] at hc1
  refine sv hF (v_move rfl) rfl ?_; clear hF a; intro a hF
  refine svg hF rfl ?_
  refine sv hF (v_move rfl) rfl ?_; clear hF a; intro a hF
  refine svg hF rfl ?_
  refine sv hF (v_move rfl) rfl ?_; clear hF a; intro a hF
  refine svg hF rfl ?_
  refine sc hF rfl rfl rfl en88 rfl (rMay_ok B M wb p hp _ cmb mb _ hS.inv hAmb (Nat.le_trans hlmb (by decide)) (fun r hr => Nat.le_trans (hbmb r hr) (by decide))) ?_; clear hF a; intro v w' a hv hF
  obtain ⟨rfl, hS'⟩ := hv
  replace hAma := hAma.st hS'
  replace hAmb := hAmb.st hS'
  replace hS := hS.trans hS'
  clear hS'
  refine svg hF rfl ?_
  refine sb hF (v_not rfl) rfl ?_ ?_
  ·
   clear hF a; intro hc2 a hF
   try simp only [dcl] at hc2
   refine sv2 hF (v_pickF rfl rfl) (v_move rfl) rfl rfl ?_; clear hF a; intro a hF
   refine svn5 hF rfl rfl rfl rfl rfl rfl rfl rfl rfl rfl rfl rfl rfl rfl rfl ?_; clear hF a; intro a hF
   refine svn2 hF rfl rfl rfl rfl rfl rfl ?_; clear hF a; intro a hF
   refine svw hK hF (v_pickT rfl rfl) rfl ?_; clear hF a hK K; intro a hF
   replace hF := hF.sub _ (c_ 34 rfl (c_ 9 rfl (c_ 8 rfl (c_ 0 rfl (c_ 1 rfl (c_ 2 rfl (c_ 3 rfl (n_))))))))
   refine W_ifT hF rfl ?_
   refine W_sr rfl fun K hK => ?_
   refine sv2w hK hF (v_assign rfl) (v_assign rfl) rfl rfl ?_; clear hF a hK K; intro a hF
   replace hF := hF.sub _ (c_ 9 rfl (c_ 8 rfl (c_ 0 rfl (c_ 1 rfl (c_ 2 rfl (c_ 3 rfl (n_)))))))
   refine W_ret ?_
   refine ⟨_, _, _, hF, rfl, rfl, ?_⟩
   have hno : mulM (some (wb, p)) ma mb = none := mulM_f (.inr (.inl (by simpa using hc2)))
   rw [hno]
   exact ⟨none, _, rfl, MOwn.nil _ _ _ _ _ _ _ (Nat.zero_le _), hS⟩
  ·
   clear hF a; intro hc2 a hF
   try simp only [dcl] at hc2
   refine sv2 hF (v_pickF rfl rfl) (v_move rfl) rfl rfl ?_; clear hF a; intro a hF
   refine svg hF rfl ?_
   have hm1 : mayM (some (wb, p)) ma = true := by simpa using hc1
   have hm2 : mayM (some (wb, p)) mb = true := by simpa using hc2
   have hp1 := mayM_pos hm1
   have hp2 := mayM_pos hm2
   obtain ⟨gma, oma, rfl⟩ := hAma.at1 (by omega)
   obtain ⟨r0ma, h0ma⟩ : ∃ r, ma[0]? = some r := ⟨_, List.getElem?_eq_getElem (by omega)⟩
   obtain ⟨p0ma, c0ma, hk0ma, hrow0ma, -⟩ := hAma.row2 h0ma
   have hwma := wid_at h0ma
   obtain ⟨gmb, omb, rfl⟩ := hAmb.at1 (by omega)
   obtain ⟨r0mb, h0mb⟩ : ∃ r, mb[0]? = some r := ⟨_, List.getElem?_eq_getElem (by omega)⟩
   obtain ⟨p0mb, c0mb, hk0mb, hrow0mb, -⟩ := hAmb.row2 h0mb
   have hwmb := wid_at h0mb
   refine sv hF (v_move rfl) rfl ?_; clear hF a; intro a hF
   refine svg hF rfl ?_
   refine sv hF (v_ixS sl35 rfl rfl (by decide) (by omega)) rfl ?_; clear hF a; intro a hF
   refine svg hF rfl ?_
   refine sv hF (v_load sc53 rfl hk0ma.c) rfl ?_; clear hF a; intro a hF
   refine svg hF rfl ?_
   refine sv hF (v_lenS rfl sl53 rfl) rfl ?_; clear hF a; intro a hF
   refine svg hF rfl ?_
   refine sv hF (v_move rfl) rfl ?_; clear hF a; intro a hF
   refine svg hF rfl ?_
   refine sv hF (v_lenS rfl sl35 rfl) rfl ?_; clear hF a; intro a hF
   refine svg hF rfl ?_
   refine sv2w hK hF (v_neq rfl rfl) (v_pickF rfl rfl) rfl rfl ?_; clear hF a hK K; intro a hF
   replace hF := hF.sub _ (c_ 34 rfl (c_ 9 rfl (c_ 8 rfl (c_ 0 rfl (c_ 1 rfl (c_ 2 rfl (c_ 3 rfl (n_))))))))
   refine W_if hF rfl (fun hc3 => ?_) (fun hc3 => ?_)
   ·
    skip
    try simp only [dcl] at hc3
    refine W_sr rfl fun K hK => ?_
    refine sv2w hK hF (v_assign rfl) (v_assign rfl) rfl rfl ?_; clear hF a hK K; intro a hF
    replace hF := hF.sub _ (c_ 9 rfl (c_ 8 rfl (c_ 0 rfl (c_ 1 rfl (c_ 2 rfl (c_ 3 rfl (n_)))))))
    refine W_ret ?_
    refine ⟨_, _, _, hF, rfl, rfl, ?_⟩
    have hno : mulM (some (wb, p)) ma mb = none := mulM_f (.inr (.inr (by rw [hwma]; omega)))
    rw [hno]
    exact ⟨none, _, rfl, MOwn.nil _ _ _ _ _ _ _ (Nat.zero_le _), hS⟩
   ·
    skip
    try simp only [dcl] at hc3
    refine W_skip ?_
    have hyes := mulM_t hm1 hm2 (by rw [hwma]; omega)
    refine W_sr rfl fun K hK => ?_
    refine svw hK hF (v_assign rfl) rfl ?_; clear hF a hK K; intro a hF
    replace hF := hF.sub _ (c_ 10 rfl (c_ 9 rfl (c_ 8 rfl (c_ 0 rfl (c_ 1 rfl (c_ 2 rfl (c_ 3 rfl (n_))))))))
    refine W_seq ?_
    refine W_sr rfl fun K hK => ?_
    refine svw hK hF (v_assign rfl) rfl ?_; clear hF a hK K; intro a hF
    refine W_block ?_
    refine W_loop (fun m a w1 => ∃ (i : Nat) (v10 : Value) (b10 : Option Nat), Fr 83 [(0, .int .i64 (wb : Int)), (1, .int .u32 (p : Int)), (2, .slice (some ⟨gma, oma, none⟩) ma.length cma), (3, .slice (some ⟨gmb, omb, none⟩) mb.length cmb), (10, v10), (11, .int .i64 (i : Int))] a ∧ (St FDx B w w1) ∧ (Mat FDx B M w1 (some ⟨gma, oma, none⟩) cma ma) ∧ (Mat FDx B M w1 (some ⟨gmb, omb, none⟩) cmb mb) ∧ (MOwn FDx B w.heap.size 0 w1.heap.size w1 53 v10 b10 ((ma.take i).map (mulRow (some (wb, p)) mb))) ∧ (i ≤ ma.length) ∧ (m + i = ma.length)) (ma.length) ?_ ?_
    ·
     skip
     exact ⟨0, _, none, hF.sub _ (c_ 0 rfl (c_ 1 rfl (c_ 2 rfl (c_ 3 rfl (c_ 10 rfl (c_ 11 rfl (n_))))))), hS, hAma, hAmb, MOwn.nil _ _ _ _ _ _ _ (Nat.zero_le _), by omega, by omega⟩
    ·
     skip
     clear hF
     clear hS hAma hAmb hk0ma hrow0ma hk0mb hrow0mb
     rintro m a w1 ⟨i, v10, b10, hF, hS, hAma, hAmb, hMO, hi, hm⟩
     refine W_seq ?_
     obtain ⟨KM, hKe⟩ : ∃ KM, KM = w1.heap.size := ⟨_, rfl⟩
     rw [← hKe] at hMO
     have hKs : KM ≤ w1.heap.size := by omega
     have hNK : w.heap.size ≤ KM := by have := hS.ext.size; omega
     clear hKe
     refine W_sr rfl fun K hK => ?_
     refine sv4w hK hF (v_move rfl) (v_move rfl) (v_lenS rfl sl35 rfl) (v_lss rfl rfl) rfl rfl rfl rfl ?_; clear hF a hK K; intro a hF
     replace hF := hF.sub _ (c_ 38 rfl (c_ 0 rfl (c_ 1 rfl (c_ 2 rfl (c_ 3 rfl (c_ 10 rfl (c_ 11 rfl (n_))))))))
     refine W_if hF rfl (fun hc4 => ?_) (fun hc4 => ?_)
     ·
      skip
      try simp only [dcl] at hc4
      obtain ⟨r, hr⟩ : ∃ z, ma[i]? = some z := ⟨_, List.getElem?_eq_getElem (by omega)⟩
      obtain ⟨pr, cr, hkr, hrowr, -⟩ := hAma.row2 hr
      have hrl := (hp1.2.2.2.2 r (List.mem_of_getElem? hr)).1
      refine W_skip ?_
      refine W_seq ?_
      refine W_block ?_
      refine W_sr rfl fun K hK => ?_
      refine svw hK hF (v_assign rfl) rfl ?_; clear hF a hK K; intro a hF
      replace hF := hF.sub _ (c_ 12 rfl (c_ 0 rfl (c_ 1 rfl (c_ 2 rfl (c_ 3 rfl (c_ 10 rfl (c_ 11 rfl (n_))))))))
      refine W_seq ?_
      refine W_sr rfl fun K hK => ?_
      refine svw hK hF (v_assign rfl) rfl ?_; clear hF a hK K; intro a hF
      refine W_block ?_
      refine W_loop (fun m2 a w2 => ∃ (j : Nat) (v12 : Value) (b12 : Option Nat), Fr 83 [(0, .int .i64 (wb : Int)), (1, .int .u32 (p : Int)), (2, .slice (some ⟨gma, oma, none⟩) ma.length cma), (3, .slice (some ⟨gmb, omb, none⟩) mb.length cmb), (10, v10), (11, .int .i64 (i : Int)), (12, v12), (13, .int .i64 (j : Int))] a ∧ (St FDx B w w2) ∧ (Mat FDx B M w2 (some ⟨gma, oma, none⟩) cma ma) ∧ (Mat FDx B M w2 (some ⟨gmb, omb, none⟩) cmb mb) ∧ (MOwn FDx B w.heap.size 0 KM w2 53 v10 b10 ((ma.take i).map (mulRow (some (wb, p)) mb))) ∧ (KM ≤ w2.heap.size) ∧ (Gam.Own FDx B KM w2 FDx.E v12 b12 (zints ((mulRow (some (wb, p)) mb r).take j))) ∧ (j ≤ wid mb) ∧ (m2 + j = wid mb)) (wid mb) ?_ ?_
      ·
       skip
       exact ⟨0, _, none, hF.sub _ (c_ 0 rfl (c_ 1 rfl (c_ 2 rfl (c_ 3 rfl (c_ 10 rfl (c_ 11 rfl (c_ 12 rfl (c_ 13 rfl (n_))))))))), hS, hAma, hAmb, hMO, hKs, Gam.Own.nil _ _ _ _ _, by omega, by omega⟩
      ·
       skip
       clear hF
       clear hS hAma hAmb hMO hKs hkr hrowr
       rintro m2 a w2 ⟨j, v12, b12, hF, hS, hAma, hAmb, hMO, hKs, hO, hj, hm2⟩
       refine W_seq ?_
       obtain ⟨p0, c0, hk0, -⟩ := hAmb.row2 h0mb
       refine W_sr rfl fun K hK => ?_
       refine sv6w hK hF (v_move rfl) (v_move rfl) (v_ixS sl35 rfl rfl (by decide) (by omega)) (v_load sc53 rfl hk0.c) (v_lenS rfl sl53 rfl) (v_lss rfl rfl) rfl rfl rfl rfl rfl rfl ?_; clear hF a hK K; intro a hF
       replace hF := hF.sub _ (c_ 46 rfl (c_ 0 rfl (c_ 1 rfl (c_ 2 rfl (c_ 3 rfl (c_ 10 rfl (c_ 11 rfl (c_ 12 rfl (c_ 13 rfl (n_))))))))))
       refine W_if hF rfl (fun hc5 => ?_) (fun hc5 => ?_)
       ·
        skip
        try simp only [dcl] at hc5
        clear hk0
        refine W_skip ?_
        refine W_seq ?_
        refine W_block ?_
        refine W_sr rfl fun K hK => ?_
        refine svw hK hF (v_assign rfl) rfl ?_; clear hF a hK K; intro a hF
        replace hF := hF.sub _ (c_ 14 rfl (c_ 0 rfl (c_ 1 rfl (c_ 2 rfl (c_ 3 rfl (c_ 10 rfl (c_ 11 rfl (c_ 12 rfl (c_ 13 rfl (n_))))))))))
        refine W_seq ?_
        refine W_sr rfl fun K hK => ?_
        refine svw hK hF (v_assign rfl) rfl ?_; clear hF a hK K; intro a hF
        refine W_block ?_
        refine W_loop (fun m3 a w3 => ∃ (k : Nat), Fr 83 [(0, .int .i64 (wb : Int)), (1, .int .u32 (p : Int)), (2, .slice (some ⟨gma, oma, none⟩) ma.length cma), (3, .slice (some ⟨gmb, omb, none⟩) mb.length cmb), (10, v10), (11, .int .i64 (i : Int)), (12, v12), (13, .int .i64 (j : Int)), (14, .int .i64 (dotP (some (wb, p)) r (colAt mb j) k : Int)), (15, .int .i64 (k : Int))] a ∧ (St FDx B w w3) ∧ (Mat FDx B M w3 (some ⟨gma, oma, none⟩) cma ma) ∧ (Mat FDx B M w3 (some ⟨gmb, omb, none⟩) cmb mb) ∧ (MOwn FDx B w.heap.size 0 KM w3 53 v10 b10 ((ma.take i).map (mulRow (some (wb, p)) mb))) ∧ (KM ≤ w3.heap.size) ∧ (Gam.Own FDx B KM w3 FDx.E v12 b12 (zints ((mulRow (some (wb, p)) mb r).take j))) ∧ (k ≤ r.length) ∧ (m3 + k = r.length)) (r.length) ?_ ?_
        ·
         skip
         exact ⟨0, hF.sub _ (c_ 0 rfl (c_ 1 rfl (c_ 2 rfl (c_ 3 rfl (c_ 10 rfl (c_ 11 rfl (c_ 12 rfl (c_ 13 rfl (c_ 14 rfl (c_ 15 rfl (n_))))))))))), hS, hAma, hAmb, hMO, hKs, hO, by omega, by omega⟩
        ·
         skip
         clear hF
         clear hS hAma hAmb hMO hKs hO
         rintro m3 a w3 ⟨k, hF, hS, hAma, hAmb, hMO, hKs, hO, hk, hm3⟩
         refine W_seq ?_
         refine W_sr rfl fun K hK => ?_
         refine sv4w hK hF (v_move rfl) (v_move rfl) (v_lenS rfl sl35 rfl) (v_lss rfl rfl) rfl rfl rfl rfl ?_; clear hF a hK K; intro a hF
         replace hF := hF.sub _ (c_ 52 rfl (c_ 0 rfl (c_ 1 rfl (c_ 2 rfl (c_ 3 rfl (c_ 10 rfl (c_ 11 rfl (c_ 12 rfl (c_ 13 rfl (c_ 14 rfl (c_ 15 rfl (n_))))))))))))
         refine W_if hF rfl (fun hc6 => ?_) (fun hc6 => ?_)
         ·
          skip
          try simp only [dcl] at hc6
          obtain ⟨pr, cr, hkr, hrowr, -⟩ := hAma.row2 hr
          obtain ⟨s, hs⟩ : ∃ z, mb[k]? = some z := ⟨_, List.getElem?_eq_getElem (by omega)⟩
          obtain ⟨ps, cs, hks, hrows, -⟩ := hAmb.row2 hs
          have hsl := (hp2.2.2.2.2 s (List.mem_of_getElem? hs)).1
          obtain ⟨x, hx⟩ : ∃ z, r[k]? = some z := ⟨_, List.getElem?_eq_getElem (by omega)⟩
          obtain ⟨gxx, oxx, hgxx, hkx, -⟩ := hrowr.kat (zints_at hx)
          subst hgxx
          obtain ⟨y, hy⟩ : ∃ z, s[j]? = some z := ⟨_, List.getElem?_eq_getElem (by omega)⟩
          obtain ⟨gxy, oxy, hgxy, hky, -⟩ := hrows.kat (zints_at hy)
          subst hgxy
          have hst := dotP_step (o := (some (wb, p))) hx (colAt_at hs hy)
          have hdl := dotN_ltP hp (r.take k) ((colAt mb j).take k)
          refine W_skip ?_
          refine W_seq ?_
          refine W_block ?_
          refine W_draw (m := 20) rfl hmix hS.inv (fun K hK w1 hS' hh => ?_)
          replace hAma := hAma.st hS'
          replace hAmb := hAmb.st hS'
          replace hMO := hMO.st (by decide) hS'
          replace hKs := Nat.le_trans hKs hS'.ext.size
          replace hO := hO.st (by decide) hS'
          replace hkr := hkr.st hS'
          replace hks := hks.st hS'
          replace hkx := hkx.st hS'
          replace hky := hky.st hS'
          replace hS := hS.trans hS'
          clear hS'
          clear hh
          refine a_v (i := 0) rfl (by kernel_rfl) hF (fun w2 hx => v_move rfl) rfl ?_; clear hF a; intro a hF
          refine a_v (i := 1) rfl (by kernel_rfl) hF (fun w2 hx => v_move rfl) rfl ?_; clear hF a; intro a hF
          refine a_v (i := 2) rfl (by kernel_rfl) hF (fun w2 hx => v_move rfl) rfl ?_; clear hF a; intro a hF
          refine a_v (i := 3) rfl (by kernel_rfl) hF (fun w2 hx => v_move rfl) rfl ?_; clear hF a; intro a hF
          refine a_v (i := 4) rfl (by kernel_rfl) hF (fun w2 hx => v_move rfl) rfl ?_; clear hF a; intro a hF
          refine a_v (i := 5) rfl (by kernel_rfl) hF (fun w2 hx => v_ixS sl35 rfl rfl (by omega) (by omega)) rfl ?_; clear hF a; intro a hF
          refine a_v (i := 6) rfl (by kernel_rfl) hF (fun w2 hx => v_load sc53 rfl (by rw [toNat_c]; exact hkr.ld hx)) rfl ?_; clear hF a; intro a hF
          refine a_v (i := 7) rfl (by kernel_rfl) hF (fun w2 hx => v_move rfl) rfl ?_; clear hF a; intro a hF
          refine a_v (i := 8) rfl (by kernel_rfl) hF (fun w2 hx => v_ixS sl53 rfl rfl (by omega) (by omega)) rfl ?_; clear hF a; intro a hF
          refine a_v (i := 9) rfl (by kernel_rfl) hF (fun w2 hx => v_load sc3 rfl (by rw [toNat_c]; exact hkx.ld hx)) rfl ?_; clear hF a; intro a hF
          refine a_v (i := 10) rfl (by kernel_rfl) hF (fun w2 hx => v_move rfl) rfl ?_; clear hF a; intro a hF
          refine a_v (i := 11) rfl (by kernel_rfl) hF (fun w2 hx => v_move rfl) rfl ?_; clear hF a; intro a hF
          refine a_v (i := 12) rfl (by kernel_rfl) hF (fun w2 hx => v_ixS sl35 rfl rfl (by omega) (by omega)) rfl ?_; clear hF a; intro a hF
          refine a_v (i := 13) rfl (by kernel_rfl) hF (fun w2 hx => v_load sc53 rfl (by rw [toNat_c]; exact hks.ld hx)) rfl ?_; clear hF a; intro a hF
          refine a_v (i := 14) rfl (by kernel_rfl) hF (fun w2 hx => v_move rfl) rfl ?_; clear hF a; intro a hF
          refine a_v (i := 15) rfl (by kernel_rfl) hF (fun w2 hx => v_ixS sl53 rfl rfl (by omega) (by omega)) rfl ?_; clear hF a; intro a hF
          refine a_v (i := 16) rfl (by kernel_rfl) hF (fun w2 hx => v_load sc3 rfl (by rw [toNat_c]; exact hky.ld hx)) rfl ?_; clear hF a; intro a hF
          refine a_e (i := 17) rfl (by kernel_rfl) ?_
          refine sc hF rfl rfl rfl en90 rfl (rMul_gf B wb p x y _ hS.inv hp) ?_; clear hF a; intro v w' a hv hF
          obtain ⟨rfl, hS'⟩ := hv
          refine WL_nil ⟨hS'.ext, ?_⟩
          replace hAma := hAma.st hS'
          replace hAmb := hAmb.st hS'
          replace hMO := hMO.st (by decide) hS'
          replace hKs := Nat.le_trans hKs hS'.ext.size
          replace hO := hO.st (by decide) hS'
          replace hkr := hkr.st hS'
          replace hks := hks.st hS'
          replace hkx := hkx.st hS'
          replace hky := hky.st hS'
          replace hS := hS.trans hS'
          clear hS'
          obtain ⟨z, hz, hzl⟩ := gmul_nnP hp x y
          rw [hz, Int.toNat_natCast] at hst
          rw [hz] at hF
          refine a_v (i := 18) rfl (by kernel_rfl) hF (fun w2 hx => (v_xorN (m := dotP (some (wb, p)) r (colAt mb j) k) (n := z) rfl rfl (fits_i64 (Nat.lt_of_lt_of_le hdl (by decide))) (fits_i64 (by omega))).as (congrArg (fun (q : Nat) => Value.int .i64 (q : Int)) hst.symm)) rfl ?_; clear hF a; intro a hF
          refine a_v (i := 19) rfl (by kernel_rfl) hF (fun w2 hx => v_assign rfl) rfl ?_; clear hF a; intro a hF
          refine a_done (by kernel_rfl) (hK _ _ ?_)
          clear hK K
          replace hF := hF.sub _ (c_ 14 rfl (c_ 0 rfl (c_ 1 rfl (c_ 2 rfl (c_ 3 rfl (c_ 10 rfl (c_ 11 rfl (c_ 12 rfl (c_ 13 rfl (c_ 15 rfl (n_)))))))))))
          refine W_reg rfl fun K hK => ?_
          refine sv3w hK hF (v_move rfl) (v_addI rfl rfl (by omega)) (v_assign rfl) rfl rfl rfl ?_; clear hF a hK K; intro a hF
          exact ⟨m3 - 1, by omega, k + 1, hF.sub _ (c_ 0 rfl (c_ 1 rfl (c_ 2 rfl (c_ 3 rfl (c_ 10 rfl (c_ 11 rfl (c_ 12 rfl (c_ 13 rfl (c_ 14 rfl (c_ 15 rfl (n_))))))))))), hS, hAma, hAmb, hMO, hKs, hO, by omega, by omega⟩
         ·
          skip
          try simp only [dcl] at hc6
          obtain rfl : k = r.length := by omega
          refine W_exit rfl ?_
          have hul := mulRow_length (some (wb, p)) mb r
          refine W_reg rfl fun K hK => ?_
          refine sv2 hF (v_move rfl) (v_move rfl) rfl rfl ?_; clear hF a; intro a hF
          refine s_bs (D := FDx) (B := B) hF sl53 rfl rfl (by decide) (by simp [Value.cells]) (by decide) hS.inv rfl ?_; clear hF a; intro w' a hm hI' hL hF
          replace hAma := hAma.mb hm (fun _ h => by cases h)
          replace hAmb := hAmb.mb hm (fun _ h => by cases h)
          replace hMO := hMO.mb0 hm
          replace hKs := Nat.le_trans hKs hm.size
          replace hO := hO.mb hm (fun _ _ => by simp)
          replace hS := hS.mb0 hm
          clear hm hI'
          refine s_app (D := FDx) (B := B) hF rfl sl53 rfl rfl hO (hL.row (by decide)) (by simp [Value.oneCell']) (by simp; omega) (by simp [maxLen]; omega) (hKs) (by decide) hS.inv rfl ?_; clear hF a; intro v' b' w' a ho' hm hI' hb' hF
          replace hAma := hAma.mb hm (fun k h => Nat.le_trans (by omega) (hO.lt k h).1)
          replace hAmb := hAmb.mb hm (fun k h => Nat.le_trans (by omega) (hO.lt k h).1)
          replace hMO := hMO.mbo hm hO (by decide) (Nat.le_refl _) (Nat.zero_le _)
          replace hKs := Nat.le_trans hKs hm.size
          replace hS := hS.mb hm (fun k h => Nat.le_trans (hNK) (hO.lt k h).1)
          replace hO := ho'
          clear hm hI' ho'
          refine svw hK hF (v_assign rfl) rfl ?_; clear hF a hK K; intro a hF
          replace hF := hF.sub _ (c_ 12 rfl (c_ 77 rfl (c_ 76 rfl (c_ 75 rfl (c_ 74 rfl (c_ 0 rfl (c_ 1 rfl (c_ 2 rfl (c_ 3 rfl (c_ 10 rfl (c_ 11 rfl (c_ 13 rfl (c_ 14 rfl (c_ 15 rfl (n_)))))))))))))))
          refine W_reg rfl fun K hK => ?_
          refine sv3w hK hF (v_move rfl) (v_addI rfl rfl (by omega)) (v_assign rfl) rfl rfl rfl ?_; clear hF a hK K; intro a hF
          exact ⟨m2 - 1, by omega, j + 1, _, _, hF.sub _ (c_ 0 rfl (c_ 1 rfl (c_ 2 rfl (c_ 3 rfl (c_ 10 rfl (c_ 11 rfl (c_ 12 rfl (c_ 13 rfl (n_))))))))), hS, hAma, hAmb, hMO, hKs, hO.cast (by rw [mulRow_snoc' (by omega) (by rw [colAt_length]; omega)]; simp [zints]), by omega, by omega⟩
       ·
        skip
        try simp only [dcl] at hc5
        clear hk0
        refine W_exit rfl ?_
        obtain rfl : j = wid mb := by omega
        rw [List.take_of_length_le (by rw [mulRow_length]; omega)] at hO
        refine W_reg rfl fun K hK => ?_
        refine sv2 hF (v_move rfl) (v_move rfl) rfl rfl ?_; clear hF a; intro a hF
        obtain ⟨a_, c_r, rfl⟩ := hO.shape
        refine s_bs (D := FDx) (B := B) hF sl35 rfl rfl (by decide) (by simp [Value.cells]) (by decide) hS.inv rfl ?_; clear hF a; intro w' a hm hI' hL hF
        replace hAma := hAma.mb hm (fun _ h => by cases h)
        replace hAmb := hAmb.mb hm (fun _ h => by cases h)
        replace hMO := hMO.mb0 hm
        replace hKs := Nat.le_trans hKs hm.size
        replace hO := hO.mb hm (fun _ _ => by simp)
        replace hS := hS.mb0 hm
        clear hm hI'
        replace hMO := hMO.up hKs
        clear hKs
        refine s_appM (D := FDx) (B := B) hF rfl sl35 rfl rfl hMO hL (.of hO (Nat.zero_le _)) rfl rfl (by simp; omega) (hS.ext.size) (by decide) (by decide) hS.inv rfl ?_; clear hF a; intro v' b' w' a ho' hm hI' hF
        replace hAma := hAma.mb hm (fun k h => Nat.le_trans (by omega) (hMO.lt k h).1)
        replace hAmb := hAmb.mb hm (fun k h => Nat.le_trans (by omega) (hMO.lt k h).1)
        replace hS := hS.mb hm (fun k h => (hMO.lt k h).1)
        have hKm := hm.size
        replace hMO := ho'
        clear hm hI' ho' hL
        refine svw hK hF (v_assign rfl) rfl ?_; clear hF a hK K; intro a hF
        replace hF := hF.sub _ (c_ 10 rfl (c_ 81 rfl (c_ 80 rfl (c_ 79 rfl (c_ 78 rfl (c_ 0 rfl (c_ 1 rfl (c_ 2 rfl (c_ 3 rfl (c_ 11 rfl (c_ 12 rfl (c_ 13 rfl (n_)))))))))))))
        refine W_reg rfl fun K hK => ?_
        refine sv3w hK hF (v_move rfl) (v_addI rfl rfl (by omega)) (v_assign rfl) rfl rfl rfl ?_; clear hF a hK K; intro a hF
        exact ⟨m - 1, by omega, i + 1, _, _, hF.sub _ (c_ 0 rfl (c_ 1 rfl (c_ 2 rfl (c_ 3 rfl (c_ 10 rfl (c_ 11 rfl (n_))))))), hS, hAma, hAmb, (hMO.up hKm).cast (map_snoc hr).symm, by omega, by omega⟩
     ·
      skip
      try simp only [dcl] at hc4
      refine W_exit rfl ?_
      refine W_sr rfl fun K hK => ?_
      refine sv3w hK hF (v_move rfl) (v_assign rfl) (v_assign rfl) rfl rfl rfl ?_; clear hF a hK K; intro a hF
      replace hF := hF.sub _ (c_ 9 rfl (c_ 8 rfl (c_ 82 rfl (c_ 0 rfl (c_ 1 rfl (c_ 2 rfl (c_ 3 rfl (c_ 10 rfl (c_ 11 rfl (n_))))))))))
      refine W_ret ?_
      refine ⟨_, _, _, hF, rfl, rfl, ?_⟩
      obtain rfl : i = ma.length := by omega
      rw [List.take_length] at hMO
      rw [hyes]
      exact ⟨_, _, rfl, hMO.up hKs, hS⟩
end Go.Proofs.YtkoiolamnnmokaaGreat

/- The walk of gambrelref04: Apply. -/
namespace Go.Proofs.YtkoiolamnnmokaaGreat
open Go Go.Gam
namespace FxFRef04d
end FxFRef04d
open FxFRef04d
end Go.Proofs.YtkoiolamnnmokaaGreat

/- The walks of gambrelref05: inverses, ranks, what is solved. -/
namespace Go.Proofs.YtkoiolamnnmokaaGreat
open Go Go.Gam
namespace FxFRef05b
theorem en20 : Ent Tryz.prog 20 := ent Tryz.func20 (by kernel_rfl) (by kernel_rfl)
theorem en88 : Ent Tryz.prog 88 := ent Tryz.func88 (by kernel_rfl) (by kernel_rfl)
theorem en89 : Ent Tryz.prog 89 := ent Tryz.func89 (by kernel_rfl) (by kernel_rfl)
theorem sc53 : Scalar Tryz.prog 53 := ⟨_, Tryz.underlying53, by simp, by simp⟩
theorem sl35 : Sl Tryz.prog 35 53 (.slice none 0 0) 24 := sl_of Tryz.underlying35 rfl (by kernel_rfl)
theorem sl53 : Sl Tryz.prog 53 3 (.int .i64 0) 8 := sl_of Tryz.underlying53 rfl (by kernel_rfl)
end FxFRef05b
open FxFRef05b
set_option maxRecDepth 100000 in
set_option maxHeartbeats 1000000 in
theorem rInverse_ok (B M wb p : Nat) (hp : Prm wb p) (pmt : Option Addr) (cmt : Nat) (mt : Mtx) (w : World) (hI : Inv FDx B w) (hM : M ≤ w.heap.size) (hAmt : Mat FDx B M w pmt cmt mt) (hlmt : mt.length ≤ maxLen) (hbmt : ∀ r ∈ mt, r.length ≤ maxLen) : Ret Tryz.prog 61 [.int .i64 (wb : Int), .int .u32 (p : Int), .slice pmt mt.length cmt] w fun v w' => ∃ su cu, v = .tuple #[.slice su (invR hp mt).2.length cu, .int .i64 (invR hp mt).1] ∧ Mat FDx B w'.heap.size w' su cu (invR hp mt).2 ∧ St FDx B w w' := by
 refine enter2 81 [(0, .int .i64 (wb : Int)), (1, .int .u32 (p : Int)), (2, .slice pmt mt.length cmt)] 6 7 Tryz.func61 rfl rfl rfl rfl rfl ?_; intro a hF
 have hS := St.refl hI
 refine W_sr rfl fun K hK => ?_
 refine sv2w hK hF (v_assign rfl) (v_assign rfl) rfl rfl ?_; clear hF a hK K; intro a hF
 refine W_seq ?_
 refine W_sr rfl fun K hK => ?_
 refine sv2 hF (v_move rfl) (v_move rfl) rfl rfl ?_; clear hF a; intro a hF
 refine sc hF rfl rfl rfl en88 rfl (rMay_ok B M wb p hp pmt cmt mt _ hS.inv hAmt hlmt hbmt) ?_; clear hF a; intro v w' a hv hF
 obtain ⟨rfl, hS'⟩ := hv
 replace hAmt := hAmt.st hS'
 replace hS := hS.trans hS'
 clear hS'
 obtain hc1 | hc1 : (mayM (some (wb, p)) mt) = true ∨ (mayM (some (wb, p)) mt) = false := by cases (mayM (some (wb, p)) mt) <;> simp
 ·
  rw [hc1] at hF
  have hmay : mayM (some (wb, p)) mt = true := hc1
  have hmp := mayM_pos hmay
  obtain ⟨r0, h0⟩ : ∃ r, mt[0]? = some r := ⟨_, List.getElem?_eq_getElem (by omega)⟩
  obtain ⟨g0, o0, pr0, cr0, hg0, hk0, hrow0, -⟩ := hAmt.row h0
  have hw0 := wid_at h0
  subst hg0
  refine sv2 hF (v_not rfl) (v_move rfl) rfl rfl ?_; clear hF a; intro a hF
  refine svg hF rfl ?_
  refine sv hF (v_move rfl) rfl ?_; clear hF a; intro a hF
  refine svg hF rfl ?_
  refine sv hF (v_lenS rfl sl35 rfl) rfl ?_; clear hF a; intro a hF
  refine svg hF rfl ?_
  refine sv hF (v_move rfl) rfl ?_; clear hF a; intro a hF
  refine svg hF rfl ?_
  refine sv hF (v_ixS sl35 rfl rfl (by decide) (by omega)) rfl ?_; clear hF a; intro a hF
  refine svg hF rfl ?_
  refine sv hF (v_load sc53 rfl hk0.c) rfl ?_; clear hF a; intro a hF
  refine svg hF rfl ?_
  refine sv hF (v_lenS rfl sl53 rfl) rfl ?_; clear hF a; intro a hF
  refine svg hF rfl ?_
  refine sv2w hK hF (v_neq rfl rfl) (v_pickF rfl rfl) rfl rfl ?_; clear hF a hK K; intro a hF
  replace hF := hF.sub _ (c_ 29 rfl (c_ 7 rfl (c_ 6 rfl (c_ 0 rfl (c_ 1 rfl (c_ 2 rfl (n_)))))))
  refine W_if hF rfl (fun hc2 => ?_) (fun hc2 => ?_)
  ·
   skip
   try simp only [dcl] at hc2
   refine W_sr rfl fun K hK => ?_
   refine sv2w hK hF (v_assign rfl) (v_assign rfl) rfl rfl ?_; clear hF a hK K; intro a hF
   replace hF := hF.sub _ (c_ 7 rfl (c_ 6 rfl (c_ 0 rfl (c_ 1 rfl (c_ 2 rfl (n_))))))
   refine W_ret ?_
   refine ⟨_, _, _, hF, rfl, rfl, ?_⟩
   rw [invR_bad hp (by unfold sqM; rw [hmay, hw0]; simp only [Bool.true_and]; rw [decide_eq_false_iff_not]; omega)]
   exact ⟨_, _, rfl, (MOwn.nil FDx B 0 0 0 _ 53 (Nat.le_refl _)).matS (by decide) (Nat.zero_le _), hS⟩
  ·
   skip
   try simp only [dcl] at hc2
   refine W_skip ?_
   have hsq : sqM (some (wb, p)) mt = true := by unfold sqM; rw [hmay, hw0]; simp only [Bool.true_and]; rw [decide_eq_true_iff]; omega
   obtain ⟨hmx, hn1, hn20, -⟩ := sqM_Mx hsq
   obtain ⟨n, hn⟩ : ∃ n, n = mt.length := ⟨_, rfl⟩
   rw [← hn] at hmx hn1 hn20 hF
   have hbd := hmx.bd hp
   have htab := hmx.eq_tab
   have hid : identM (n : Int) = tab n n I1 := by rw [identM_of ⟨hn1, hn20⟩, idM_tab]; rfl
   clear hk0 hrow0
   refine W_sr rfl fun K hK => ?_
   refine sv3w hK hF (v_move rfl) (v_lenS rfl sl35 rfl) (v_assign rfl) rfl rfl rfl ?_; clear hF a hK K; intro a hF
   replace hF := hF.sub _ (c_ 8 rfl (c_ 7 rfl (c_ 6 rfl (c_ 0 rfl (c_ 1 rfl (c_ 2 rfl (n_)))))))
   refine W_sr rfl fun K hK => ?_
   refine sv hF (v_move rfl) rfl ?_; clear hF a; intro a hF
   refine sc hF rfl rfl rfl en20 rfl (rIdentity_ok B (n : Int) _ hS.inv (by omega)) ?_; clear hF a; intro v w' a hv hF
   obtain ⟨ob, ho, hS'⟩ := hv
   rw [hid] at ho
   obtain ⟨sI, cI, rfl, hId⟩ := ho.mat (by decide) (Nat.zero_le _)
   rw [tab_length] at hF
   clear ho
   replace hAmt := hAmt.st hS'
   replace hS := hS.trans hS'
   clear hS'
   refine svw hK hF (v_assign rfl) rfl ?_; clear hF a hK K; intro a hF
   replace hF := hF.sub _ (c_ 9 rfl (c_ 8 rfl (c_ 7 rfl (c_ 6 rfl (c_ 0 rfl (c_ 1 rfl (c_ 2 rfl (n_))))))))
   obtain ⟨K1, hK1⟩ : ∃ k, k = w'.heap.size := ⟨_, rfl⟩
   rw [← hK1] at hId
   have hwK : w.heap.size ≤ K1 := by have := hS.ext.size; omega
   have hKz : K1 ≤ w'.heap.size := by omega
   rw [htab] at hAmt
   clear hK1
   refine W_sr rfl fun K hK => ?_
   refine svw hK hF (v_assign rfl) rfl ?_; clear hF a hK K; intro a hF
   refine W_seq ?_
   refine W_sr rfl fun K hK => ?_
   refine svw hK hF (v_assign rfl) rfl ?_; clear hF a hK K; intro a hF
   refine W_block ?_
   refine W_loop (fun q a w1 => ∃ (i : Nat) (v10 : Value) (b10 : Option Nat), Fr 81 [(0, .int .i64 (wb : Int)), (1, .int .u32 (p : Int)), (2, .slice (some ⟨g0, o0, none⟩) n cmt), (8, .int .i64 (n : Int)), (9, .slice sI n cI), (10, v10), (11, .int .i64 (i : Int))] a ∧ (St FDx B w w1) ∧ (Mat FDx B M w1 (some ⟨g0, o0, none⟩) cmt (tab n n (en mt))) ∧ (Mat FDx B K1 w1 sI cI (tab n n I1)) ∧ (MOwn FDx B K1 0 w1.heap.size w1 53 v10 b10 ((List.range i).map (trow (n + n) (Fld.bes n (en mt) I1)))) ∧ (K1 ≤ w1.heap.size) ∧ (i ≤ n) ∧ (q + i = n)) (n) ?_ ?_
   ·
    skip
    exact ⟨0, _, none, hF.sub _ (c_ 0 rfl (c_ 1 rfl (c_ 2 rfl (c_ 8 rfl (c_ 9 rfl (c_ 10 rfl (c_ 11 rfl (n_)))))))), hS, hAmt, hId, MOwn.nil _ _ _ _ _ _ _ (Nat.zero_le _), hKz, by omega, by omega⟩
   ·
    skip
    clear hF
    clear hS hAmt hId hKz
    rintro q a w1 ⟨i, v10, b10, hF, hS, hAmt, hId, hMO, hKz, hi, hq⟩
    refine W_seq ?_
    obtain ⟨KM, hKe⟩ : ∃ K, K = w1.heap.size := ⟨_, rfl⟩
    rw [← hKe] at hMO
    have hKs : KM ≤ w1.heap.size := by omega
    have hKK : K1 ≤ KM := by omega
    clear hKe
    refine W_sr rfl fun K hK => ?_
    refine sv3w hK hF (v_move rfl) (v_move rfl) (v_lss rfl rfl) rfl rfl rfl ?_; clear hF a hK K; intro a hF
    replace hF := hF.sub _ (c_ 36 rfl (c_ 0 rfl (c_ 1 rfl (c_ 2 rfl (c_ 8 rfl (c_ 9 rfl (c_ 10 rfl (c_ 11 rfl (n_)))))))))
    refine W_if hF rfl (fun hc3 => ?_) (fun hc3 => ?_)
    ·
     skip
     try simp only [dcl] at hc3
     have hlt : i < n := by omega
     obtain ⟨ga, oa, pra, cra, hga, hka, hra, -⟩ := hAmt.row (show (tab n n (en mt))[i]? = some (trow n (en mt) i) from tab_at hlt)
     cases hga
     rw [trow_length] at hka hra
     refine W_skip ?_
     refine W_seq ?_
     refine W_block ?_
     refine W_sr rfl fun K hK => ?_
     have hKs0 := hKs
     refine s_bs (D := FDx) (B := B) hF sl53 rfl rfl (by decide) (by simp [Value.cells]) (by decide) hS.inv rfl ?_; clear hF a; intro w' a hm hI' hC hF
     replace hAmt := hAmt.mb hm (fun _ h => by cases h)
     replace hId := hId.mb hm (fun _ h => by cases h)
     replace hMO := hMO.mb0 hm
     replace hKz := Nat.le_trans hKz hm.size
     replace hKs := Nat.le_trans hKs hm.size
     replace hka := hka.mb hm (by simp)
     replace hra := hra.mb hm (fun _ h => by cases h)
     replace hS := hS.mb0 hm
     clear hm hI'
     replace hC := hC.le hKs0
     clear hKs0
     refine sv3 hF (v_move rfl) (v_move rfl) (v_ixS sl35 rfl rfl (by omega) (by omega)) rfl rfl rfl ?_; clear hF a; intro a hF
     refine sv hF (v_load sc53 rfl (by rw [toNat_c]; exact hka.c)) rfl ?_; clear hF a; intro a hF
     refine s_app (D := FDx) (B := B) hF rfl sl53 rfl rfl hC (hra) (by intro u hu; obtain ⟨_, _, rfl⟩ := List.mem_map.1 hu; rfl) (by simp; omega) (by simp [maxLen]; omega) (hKs) (by decide) hS.inv rfl ?_; clear hF a; intro v' b' w' a ho' hm hI' hb' hF
     replace hAmt := hAmt.mb hm (fun k h => Nat.le_trans (by omega) (hC.lt k h).1)
     replace hId := hId.mb hm (fun k h => Nat.le_trans (by omega) (hC.lt k h).1)
     replace hMO := hMO.mbo hm hC (by decide) (Nat.le_refl _) (Nat.zero_le _)
     replace hKz := Nat.le_trans hKz hm.size
     replace hKs := Nat.le_trans hKs hm.size
     replace hra := hra.mb hm (fun k h => Nat.le_trans (by omega) (hC.lt k h).1)
     replace hS := hS.mb hm (fun k h => Nat.le_trans ((Nat.le_trans hwK hKK)) (hC.lt k h).1)
     replace hC := ho'
     clear hm hI' ho'
     clear hka hra
     refine svw hK hF (v_assign rfl) rfl ?_; clear hF a hK K; intro a hF
     replace hF := hF.sub _ (c_ 12 rfl (c_ 0 rfl (c_ 1 rfl (c_ 2 rfl (c_ 8 rfl (c_ 9 rfl (c_ 10 rfl (c_ 11 rfl (n_)))))))))
     refine W_sr rfl fun K hK => ?_
     refine sv3 hF (v_move rfl) (v_move rfl) (v_move rfl) rfl rfl rfl ?_; clear hF a; intro a hF
     obtain ⟨gb, ob_, prb, crb, hgb, hkb, hrb, -⟩ := hId.row (show (tab n n I1)[i]? = some (trow n I1 i) from tab_at hlt)
     cases hgb
     rw [trow_length] at hkb hrb
     refine sv hF (v_ixS sl35 rfl rfl (by omega) (by omega)) rfl ?_; clear hF a; intro a hF
     refine sv hF (v_load sc53 rfl (by rw [toNat_c]; exact hkb.c)) rfl ?_; clear hF a; intro a hF
     refine s_app (D := FDx) (B := B) hF rfl sl53 rfl rfl hC (hrb) (by intro u hu; obtain ⟨_, _, rfl⟩ := List.mem_map.1 hu; rfl) (by simp; omega) (by simp [maxLen]; omega) (hKs) (by decide) hS.inv rfl ?_; clear hF a; intro v' b' w' a ho' hm hI' hb' hF
     replace hAmt := hAmt.mb hm (fun k h => Nat.le_trans (by omega) (hC.lt k h).1)
     replace hId := hId.mb hm (fun k h => Nat.le_trans (by omega) (hC.lt k h).1)
     replace hMO := hMO.mbo hm hC (by decide) (Nat.le_refl _) (Nat.zero_le _)
     replace hKz := Nat.le_trans hKz hm.size
     replace hKs := Nat.le_trans hKs hm.size
     replace hS := hS.mb hm (fun k h => Nat.le_trans ((Nat.le_trans hwK hKK)) (hC.lt k h).1)
     replace hC := ho'
     clear hm hI' ho'
     clear hkb hrb
     replace hC := hC.cast (ys := zints (trow (n + n) (Fld.bes n (en mt) I1) i)) (by rw [← bes_row]; simp [zints])
     refine svw hK hF (v_assign rfl) rfl ?_; clear hF a hK K; intro a hF
     replace hF := hF.sub _ (c_ 12 rfl (c_ 0 rfl (c_ 1 rfl (c_ 2 rfl (c_ 8 rfl (c_ 9 rfl (c_ 10 rfl (c_ 11 rfl (n_)))))))))
     refine W_reg rfl fun K hK => ?_
     refine sv2 hF (v_move rfl) (v_move rfl) rfl rfl ?_; clear hF a; intro a hF
     obtain ⟨a_, c_r, rfl⟩ := hC.shape
     refine s_bs (D := FDx) (B := B) hF sl35 rfl rfl (by decide) (by simp [Value.cells]) (by decide) hS.inv rfl ?_; clear hF a; intro w' a hm hI' hL hF
     replace hAmt := hAmt.mb hm (fun _ h => by cases h)
     replace hId := hId.mb hm (fun _ h => by cases h)
     replace hMO := hMO.mb0 hm
     replace hKz := Nat.le_trans hKz hm.size
     replace hKs := Nat.le_trans hKs hm.size
     replace hC := hC.mb hm (fun _ _ => by simp)
     replace hS := hS.mb0 hm
     clear hm hI'
     replace hMO := hMO.up hKs
     clear hKs
     refine s_appM (D := FDx) (B := B) hF rfl sl35 rfl rfl hMO hL (.of (r := trow (n + n) (Fld.bes n (en mt) I1) i) hC (Nat.zero_le _)) rfl rfl (by simp; omega) (hKz) (by decide) (by decide) hS.inv rfl ?_; clear hF a; intro v' b' w' a ho' hm hI' hF
     replace hAmt := hAmt.mb hm (fun k h => Nat.le_trans (Nat.le_trans hM hwK) (hMO.lt k h).1)
     replace hId := hId.mb hm (fun k h => Nat.le_trans (Nat.le_refl _) (hMO.lt k h).1)
     replace hKz := Nat.le_trans hKz hm.size
     replace hS := hS.mb hm (fun k h => Nat.le_trans hwK (hMO.lt k h).1)
     have hKm := hm.size
     replace hMO := ho'
     clear hm hI' ho' hL
     refine svw hK hF (v_assign rfl) rfl ?_; clear hF a hK K; intro a hF
     replace hF := hF.sub _ (c_ 10 rfl (c_ 0 rfl (c_ 1 rfl (c_ 2 rfl (c_ 8 rfl (c_ 9 rfl (c_ 11 rfl (n_))))))))
     refine W_reg rfl fun K hK => ?_
     refine sv3w hK hF (v_move rfl) (v_addI rfl rfl (by omega)) (v_assign rfl) rfl rfl rfl ?_; clear hF a hK K; intro a hF
     exact ⟨q - 1, by omega, i + 1, _, _, hF.sub _ (c_ 0 rfl (c_ 1 rfl (c_ 2 rfl (c_ 8 rfl (c_ 9 rfl (c_ 10 rfl (c_ 11 rfl (n_)))))))), hS, hAmt, hId, (hMO.up hKm).cast (by rw [List.range_succ, List.map_append]; rfl), hKz, by omega, by omega⟩
    ·
     skip
     try simp only [dcl] at hc3
     have hin : i = n := by omega
     rw [hin] at hMO
     obtain ⟨sW, cW, rfl, hWd⟩ := hMO.mat (by decide) (Nat.zero_le _)
     rw [show (((List.range n).map (trow (n + n) (Fld.bes n (en mt) I1)))).length = n by simp] at hF
     clear hMO hAmt hId
     refine W_exit rfl ?_
     refine W_sr rfl fun K hK => ?_
     refine sv4 hF (v_move rfl) (v_move rfl) (v_move rfl) (v_move rfl) rfl rfl rfl rfl ?_; clear hF a; intro a hF
     refine sc hF rfl rfl rfl en89 rfl (reduced_ok B _ wb p n (n + n) n hp sW cW (Fld.bes n (en mt) I1) _ hS.inv hWd (Nat.le_refl _) (Fld.bes_bd hp.fld hbd hp.fld.I1_bd) (by omega) ⟨by omega, by omega, by omega⟩) ?_; clear hF a; intro v w' a hv hF
     obtain ⟨go, cap, rfl, hRO, hS'⟩ := hv
     obtain ⟨K0, hK0⟩ : ∃ k, k = w'.heap.size := ⟨_, rfl⟩
     have hRd := hRO.matS (by decide) hS'.ext.size
     rw [← hK0] at hRd
     clear hRO hWd
     have hK0z : K0 ≤ w'.heap.size := by omega
     have hwK0 : w.heap.size ≤ K0 := by have := hS'.ext.size; omega
     clear hK0
     replace hS := hS.trans hS'
     clear hS'
     refine sv5w hK hF (v_move rfl) (v_ext rfl rfl) (v_ext rfl rfl) (v_assign rfl) (v_assign rfl) rfl rfl rfl rfl rfl ?_; clear hF a hK K; intro a hF
     replace hF := hF.sub _ (c_ 14 rfl (c_ 13 rfl (c_ 62 rfl (c_ 61 rfl (c_ 55 rfl (c_ 60 rfl (c_ 59 rfl (c_ 58 rfl (c_ 57 rfl (c_ 56 rfl (c_ 0 rfl (c_ 1 rfl (c_ 2 rfl (c_ 8 rfl (c_ 9 rfl (c_ 10 rfl (c_ 11 rfl (n_))))))))))))))))))
     refine W_seq ?_
     refine W_sr rfl fun K hK => ?_
     refine sv3w hK hF (v_move rfl) (v_move rfl) (v_lss rfl rfl) rfl rfl rfl ?_; clear hF a hK K; intro a hF
     refine W_if hF rfl (fun hc4 => ?_) (fun hc4 => ?_)
     ·
      skip
      try simp only [dcl] at hc4
      refine W_sr rfl fun K hK => ?_
      refine sv2w hK hF (v_assign rfl) (v_assign rfl) rfl rfl ?_; clear hF a hK K; intro a hF
      refine W_ret ?_
      refine ⟨_, _, _, hF, rfl, rfl, ?_⟩
      rw [invR_none hp hsq (by rw [← hn]; exact iv_lt hp (by omega))]
      exact ⟨_, _, rfl, (MOwn.nil FDx B 0 0 0 _ 53 (Nat.le_refl _)).matS (by decide) (Nat.zero_le _), hS⟩
     ·
      skip
      try simp only [dcl] at hc4
      have hiv := iv_ge hp (n := n) (f := en mt) (by omega)
      have hinv := invR_some hp hsq (by rw [← hn]; exact hiv)
      rw [← hn] at hinv
      refine W_skip ?_
      refine W_sr rfl fun K hK => ?_
      refine svw hK hF (v_assign rfl) rfl ?_; clear hF a hK K; intro a hF
      refine W_seq ?_
      refine W_sr rfl fun K hK => ?_
      refine svw hK hF (v_assign rfl) rfl ?_; clear hF a hK K; intro a hF
      refine W_block ?_
      refine W_loop (fun q2 a w3 => ∃ (i : Nat) (v15 : Value) (b15 : Option Nat), Fr 81 [(8, .int .i64 (n : Int)), (13, .slice (some ⟨go, 0, none⟩) n cap), (15, v15), (16, .int .i64 (i : Int))] a ∧ (St FDx B w w3) ∧ (Mat FDx B K0 w3 (some ⟨go, 0, none⟩) cap (tab n (n + n) (hp.fld.red n (Fld.bes n (en mt) I1) n).1)) ∧ (MOwn FDx B K0 K0 w3.heap.size w3 53 v15 b15 ((List.range i).map (trow n (half hp n (en mt))))) ∧ (K0 ≤ w3.heap.size) ∧ (i ≤ n) ∧ (q2 + i = n)) (n) ?_ ?_
      ·
       skip
       exact ⟨0, _, none, hF.sub _ (c_ 8 rfl (c_ 13 rfl (c_ 15 rfl (c_ 16 rfl (n_))))), hS, hRd, MOwn.nil _ _ _ _ _ _ _ (Nat.le_refl _), hK0z, by omega, by omega⟩
      ·
       skip
       clear hF
       clear hS hRd hK0z
       rintro q2 a w3 ⟨i, v15, b15, hF, hS, hRd, hMO, hK0z, hi, hq2⟩
       refine W_seq ?_
       obtain ⟨KM, hKe⟩ : ∃ K, K = w3.heap.size := ⟨_, rfl⟩
       rw [← hKe] at hMO
       have hKs : KM ≤ w3.heap.size := by omega
       clear hKe
       refine W_sr rfl fun K hK => ?_
       refine sv3w hK hF (v_move rfl) (v_move rfl) (v_lss rfl rfl) rfl rfl rfl ?_; clear hF a hK K; intro a hF
       refine W_if hF rfl (fun hc5 => ?_) (fun hc5 => ?_)
       ·
        skip
        try simp only [dcl] at hc5
        have hlt : i < n := by omega
        obtain ⟨gw, ow, pr, cr, hgw, hkw, hrw, -⟩ := hRd.row (show (tab n (n + n) (hp.fld.red n (Fld.bes n (en mt) I1) n).1)[i]? = some (trow (n + n) (hp.fld.red n (Fld.bes n (en mt) I1) n).1 i) from tab_at hlt)
        cases hgw
        rw [trow_length] at hrw hkw
        have hcr := hrw.capd
        have hpart := hrw.part (lo := n) (hi := n + n) (by omega) (by simp)
        have hhr := half_row hp n (en mt) i
        have hxs : (List.take (n + n) (zints (trow (n + n) (hp.fld.red n (Fld.bes n (en mt) I1) n).1 i))).drop n = zints (trow n (half hp n (en mt)) i) := by
         rw [List.take_of_length_le (by simp), ← hhr]; simp [zints, trow]
        rw [hxs] at hpart
        clear hxs hhr
        refine W_skip ?_
        refine W_seq ?_
        refine W_block ?_
        refine W_reg rfl fun K hK => ?_
        refine sv4 hF (v_move rfl) (v_move rfl) (v_move rfl) (v_ixS sl35 rfl rfl (by omega) (by omega)) rfl rfl rfl rfl ?_; clear hF a; intro a hF
        refine sv hF (v_load sc53 rfl (by rw [toNat_c]; exact hkw.c)) rfl ?_; clear hF a; intro a hF
        refine sv2 hF (v_move rfl) (v_slLo sl53 rfl rfl (by omega) (by omega)) rfl rfl ?_; clear hF a; intro a hF
        clear hkw hrw
        refine s_bs (D := FDx) (B := B) hF sl35 rfl rfl (by decide) (by simp [Value.cells]) (by decide) hS.inv rfl ?_; clear hF a; intro w' a hm hI' hL hF
        replace hRd := hRd.mb hm (fun _ h => by cases h)
        replace hMO := hMO.mb0 hm
        replace hK0z := Nat.le_trans hK0z hm.size
        replace hKs := Nat.le_trans hKs hm.size
        replace hpart := hpart.mb hm (fun _ h => by cases h)
        replace hS := hS.mb0 hm
        clear hm hI'
        replace hMO := hMO.up hKs
        clear hKs
        refine s_appM (D := FDx) (B := B) hF rfl sl35 rfl rfl hMO hL (.inr hpart) rfl rfl (by simp; omega) (hK0z) (by decide) (by decide) hS.inv rfl ?_; clear hF a; intro v' b' w' a ho' hm hI' hF
        replace hRd := hRd.mb hm (fun k h => Nat.le_trans (Nat.le_refl _) (hMO.lt k h).1)
        replace hK0z := Nat.le_trans hK0z hm.size
        replace hS := hS.mb hm (fun k h => Nat.le_trans hwK0 (hMO.lt k h).1)
        have hKm := hm.size
        replace hMO := ho'
        clear hm hI' ho' hL
        refine svw hK hF (v_assign rfl) rfl ?_; clear hF a hK K; intro a hF
        refine W_reg rfl fun K hK => ?_
        refine sv3w hK hF (v_move rfl) (v_addI rfl rfl (by omega)) (v_assign rfl) rfl rfl rfl ?_; clear hF a hK K; intro a hF
        exact ⟨q2 - 1, by omega, i + 1, _, _, hF.sub _ (c_ 8 rfl (c_ 13 rfl (c_ 15 rfl (c_ 16 rfl (n_))))), hS, hRd, (hMO.up hKm).cast (by rw [List.range_succ, List.map_append]; rfl), hK0z, by omega, by omega⟩
       ·
        skip
        try simp only [dcl] at hc5
        refine W_exit rfl ?_
        refine W_sr rfl fun K hK => ?_
        refine sv3w hK hF (v_move rfl) (v_assign rfl) (v_assign rfl) rfl rfl rfl ?_; clear hF a hK K; intro a hF
        refine W_ret ?_
        refine ⟨_, _, _, hF, rfl, rfl, ?_⟩
        obtain rfl : i = n := by omega
        rw [hinv]
        obtain ⟨su, cu, rfl, hX⟩ := hMO.mat (by decide) (Nat.le_trans hK0z (Nat.le_refl _))
        exact ⟨su, cu, rfl, hX, hS⟩
 ·
  rw [hc1] at hF
  refine sv2 hF (v_not rfl) (v_move rfl) rfl rfl ?_; clear hF a; intro a hF
  refine svn5 hF rfl rfl rfl rfl rfl rfl rfl rfl rfl rfl rfl rfl rfl rfl rfl ?_; clear hF a; intro a hF
  refine svn2 hF rfl rfl rfl rfl rfl rfl ?_; clear hF a; intro a hF
  refine svw hK hF (v_pickT rfl rfl) rfl ?_; clear hF a hK K; intro a hF
  replace hF := hF.sub _ (c_ 29 rfl (c_ 7 rfl (c_ 6 rfl (c_ 0 rfl (c_ 1 rfl (c_ 2 rfl (n_)))))))
  refine W_ifT hF rfl ?_
  refine W_sr rfl fun K hK => ?_
  refine sv2w hK hF (v_assign rfl) (v_assign rfl) rfl rfl ?_; clear hF a hK K; intro a hF
  replace hF := hF.sub _ (c_ 7 rfl (c_ 6 rfl (c_ 0 rfl (c_ 1 rfl (c_ 2 rfl (n_))))))
  refine W_ret ?_
  refine ⟨_, _, _, hF, rfl, rfl, ?_⟩
  rw [invR_bad hp (by unfold sqM; rw [show mayM (some (wb, p)) mt = false by simpa using hc1]; rfl)]
  exact ⟨_, _, rfl, (MOwn.nil FDx B 0 0 0 _ 53 (Nat.le_refl _)).matS (by decide) (Nat.zero_le _), hS⟩
end Go.Proofs.YtkoiolamnnmokaaGreat
