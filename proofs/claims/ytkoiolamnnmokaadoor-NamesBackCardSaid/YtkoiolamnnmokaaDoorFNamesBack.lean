/- The statement NamesBack, walked: it returns true. -/
import Derived.Test.YtkoiolamnnmokaaDoorFAw15
set_option linter.unusedVariables false
set_option linter.unusedSimpArgs false
namespace Go.Proofs.YtkoiolamnnmokaaDoor
open Go Go.Gam


namespace FxFNamesBack
theorem en9 : Ent Tryd.prog 9 := ent Tryd.func9 (by kernel_rfl) (by kernel_rfl)
theorem en10 : Ent Tryd.prog 10 := ent Tryd.func10 (by kernel_rfl) (by kernel_rfl)
theorem en12 : Ent Tryd.prog 12 := ent Tryd.func12 (by kernel_rfl) (by kernel_rfl)
theorem en13 : Ent Tryd.prog 13 := ent Tryd.func13 (by kernel_rfl) (by kernel_rfl)
theorem en14 : Ent Tryd.prog 14 := ent Tryd.func14 (by kernel_rfl) (by kernel_rfl)
theorem en15 : Ent Tryd.prog 15 := ent Tryd.func15 (by kernel_rfl) (by kernel_rfl)
theorem en16 : Ent Tryd.prog 16 := ent Tryd.func16 (by kernel_rfl) (by kernel_rfl)
theorem en17 : Ent Tryd.prog 17 := ent Tryd.func17 (by kernel_rfl) (by kernel_rfl)
theorem en18 : Ent Tryd.prog 18 := ent Tryd.func18 (by kernel_rfl) (by kernel_rfl)
theorem fa24_0 : FieldFact Tryd.prog 24 0 0 := ff_of (sz := 0) Tryd.underlying24 (by kernel_rfl)
theorem fa24_1 : FieldFact Tryd.prog 24 1 1 := ff_of (sz := 0) Tryd.underlying24 (by kernel_rfl)
theorem fa27_7 : FieldFact Tryd.prog 27 7 7 := ff_of (sz := 0) Tryd.underlying27 (by kernel_rfl)
theorem fa35_0 : FieldFact Tryd.prog 35 0 0 := ff_of (sz := 0) Tryd.underlying35 (by kernel_rfl)
theorem fa35_1 : FieldFact Tryd.prog 35 1 1 := ff_of (sz := 0) Tryd.underlying35 (by kernel_rfl)
theorem fa35_2 : FieldFact Tryd.prog 35 2 2 := ff_of (sz := 0) Tryd.underlying35 (by kernel_rfl)
theorem fa42_0 : FieldFact Tryd.prog 42 0 0 := ff_of (sz := 0) Tryd.underlying42 (by kernel_rfl)
theorem fa42_3 : FieldFact Tryd.prog 42 3 3 := ff_of (sz := 0) Tryd.underlying42 (by kernel_rfl)
theorem on4 : Gam.One Tryd.prog 4 := by unfold Gam.One; kernel_rfl
theorem sc3 : Scalar Tryd.prog 3 := ⟨_, Tryd.underlying3, by simp, by simp⟩
theorem sc4 : Scalar Tryd.prog 4 := ⟨_, Tryd.underlying4, by simp, by simp⟩
theorem sc5 : Scalar Tryd.prog 5 := ⟨_, Tryd.underlying5, by simp, by simp⟩
theorem sc9 : Scalar Tryd.prog 9 := ⟨_, Tryd.underlying9, by simp, by simp⟩
end FxFNamesBack
open FxFNamesBack

set_option maxRecDepth 100000 in
set_option maxHeartbeats 1000000 in
theorem NamesBack_ok (B n0 n1 n2 : Nat) (f : List UInt8) (n3 : Nat) (w : World) (hI : Inv FDx B w) (h0 : n0 < 256) (h1 : n1 < 256) (h2 : n2 < 256) (hfl : f.length ≤ maxLen) (h3 : n3 < 256) : Ret Tryd.prog 6 [.agg #[.int .u8 (n0 : Int), .int .u8 (n1 : Int), .int .u8 (n2 : Int)], .string (str f), .int .u8 (n3 : Int)] w fun v w' => v = .bool true ∧ St FDx B w w' := by
  refine enter 133 [(0, .agg #[.int .u8 (n0 : Int), .int .u8 (n1 : Int), .int .u8 (n2 : Int)]), (1, .string (str f)), (2, .int .u8 (n3 : Int))] 6 Tryd.func6 rfl rfl rfl rfl rfl ?_; intro a hF
  have hS := St.refl hI
  refine W_sr rfl (fun K hK => ?_)
  refine s_box (D := FDx) (B := B) hF rfl (by decide) hS.inv rfl ?_; clear hF a; intro w' a hm hb3 hsz hF
  replace hS := hS.mb0 hm
  clear hm
  refine sv hF (v_assign rfl) rfl ?_; clear hF a; intro a hF
  refine WL_nil (hK _ _ ?_)
  clear hK K
  replace hF := hF.sub _ (c_ 6 rfl (c_ 3 rfl (c_ 1 rfl (c_ 2 rfl (n_)))))
  refine W_sr rfl (fun K hK => ?_)
  refine sc hF rfl rfl rfl en9 rfl (aw15_ok B _ hS.inv) ?_; clear hF a; intro v w' a hv hF
  obtain ⟨rfl, hS'⟩ := hv
  replace hb3 := hb3.st (by decide) hS'
  replace hS := hS.trans hS'
  clear hS'
  refine sv hF (v_assign rfl) rfl ?_; clear hF a; intro a hF
  refine WL_nil (hK _ _ ?_)
  clear hK K
  replace hF := hF.sub _ (c_ 7 rfl (c_ 6 rfl (c_ 3 rfl (c_ 1 rfl (c_ 2 rfl (n_))))))
  refine W_sr rfl (fun K hK => ?_)
  refine sv hF (v_loadN Tryd.underlying32 rfl (by kernel_rfl) rfl hb3) rfl ?_; clear hF a; intro a hF
  refine sc hF rfl rfl rfl en13 rfl (Some_ok B n0 n1 n2 _ hS.inv (by omega) (by omega) (by omega)) ?_; clear hF a; intro v w' a hv hF
  obtain ⟨rfl, hS'⟩ := hv
  replace hb3 := hb3.st (by decide) hS'
  replace hS := hS.trans hS'
  clear hS'
  have hmay := some_ok n0 n1 n2
  obtain ⟨mn, hmE⟩ : ∃ m : Nat, 1 + n2 % (maxM ((1 + n0 % 6 : Nat) : Int)).toNat = m := ⟨_, rfl⟩
  obtain ⟨kn, hkE⟩ : ∃ k : Nat, 1 + n1 % 8 = k := ⟨_, rfl⟩
  obtain ⟨p, hpE⟩ : ∃ p : Int, ((1 + n0 % 6 : Nat) : Int) = p := ⟨_, rfl⟩
  rw [hmE, hkE, hpE] at hF hmay
  clear hmE hkE hpE
  have hq := mayP_of hmay
  have hk : 1 ≤ kn ∧ kn ≤ 8 ∧ 1 ≤ mn ∧ mn ≤ 4 := by obtain ⟨-, -, kk, mm, e1, e2, h1, h2, h3, h4, -⟩ := hq; omega
  have hp6 : 1 ≤ p ∧ p ≤ 6 := ⟨hq.1, hq.2.1⟩
  have hs0 := hS.ext.size
  have t0_hb3 := heap_lt hb3
  refine s_allocN (D := FDx) (B := B) (z := .agg #[.int .i64 0, .int .i64 0, .int .i64 0]) hF (by kernel_rfl) (by decide) hS.inv rfl ?_; clear hF a; intro gx w' a hm hI' hx hF
  replace hb3 := hb3.mb hm (by simp)
  replace hS := hS.mb0 hm
  clear hm hI'
  have l0_hx := hx.low
  replace hx := hx.le hs0
  clear hs0
  refine s_storeN (D := FDx) (B := B) hF (by kernel_rfl) rfl rfl (rfl) (by rfl) hx hS.inv ?_; intro w' hm hI' hrc'
  replace hb3 := hb3.mb hm (by simp; omega)
  replace hS := hS.mb hm (fun k h => by cases h; exact hx.low)
  replace hx := hrc'
  clear hm hI' hrc'
  refine WL_nil (hK _ _ ?_)
  clear hK K
  replace hF := hF.sub _ (c_ 8 rfl (c_ 7 rfl (c_ 6 rfl (c_ 1 rfl (c_ 2 rfl (n_))))))
  refine W_seq ?_
  refine W_sr rfl (fun K hK => ?_)
  refine sv hF (v_move rfl) rfl ?_; clear hF a; intro a hF
  refine sc hF rfl rfl rfl en16 rfl (rMay15_ok B f _ hS.inv) ?_; clear hF a; intro v w' a hv hF
  obtain ⟨rfl, hS'⟩ := hv
  replace hb3 := hb3.st (by decide) hS'
  replace hx := hx.st hS'
  replace hS := hS.trans hS'
  clear hS'
  refine sv hF (v_not rfl) rfl ?_; clear hF a; intro a hF
  refine WL_nil (hK _ _ ?_)
  clear hK K
  replace hF := hF.sub _ (c_ 29 rfl (c_ 8 rfl (c_ 7 rfl (c_ 6 rfl (c_ 1 rfl (c_ 2 rfl (n_)))))))
  refine W_if hF rfl (fun hc1 => ?_) (fun hc1 => ?_)
  · skip
    try simp only [decide_eq_true_eq, decide_eq_false_iff_not, Bool.not_eq_true', Bool.not_eq_false', Bool.not_true, Bool.not_false] at hc1
    refine W_sr rfl (fun K hK => ?_)
    refine sv hF (v_move rfl) rfl ?_; clear hF a; intro a hF
    refine sv hF (v_assign rfl) rfl ?_; clear hF a; intro a hF
    refine WL_nil (hK _ _ ?_)
    clear hK K
    replace hF := hF.sub _ (c_ 6 rfl (c_ 8 rfl (c_ 7 rfl (c_ 1 rfl (c_ 2 rfl (n_))))))
    refine W_ret ?_
    refine ⟨_, _, hF, rfl, ?_⟩
    exact ⟨rfl, hS⟩
  · skip
    try simp only [decide_eq_true_eq, decide_eq_false_iff_not, Bool.not_eq_true', Bool.not_eq_false', Bool.not_true, Bool.not_false] at hc1
    have hms : mayS f = true := by simp_all
    have hml := mayS_len hms
    refine W_skip ?_
    refine W_sr rfl (fun K hK => ?_)
    refine sv hF (v_move rfl) rfl ?_; clear hF a; intro a hF
    refine sv hF (v_cv Tryd.underlying5 Tryd.underlying3 rfl (wrap_i64 _ (by omega))) rfl ?_; clear hF a; intro a hF
    refine sv hF (v_fieldAddr fa35_1 rfl) rfl ?_; clear hF a; intro a hF
    refine sv hF (v_load sc3 rfl (hx.blk.at 1 rfl)) rfl ?_; clear hF a; intro a hF
    refine sv hF (v_fieldAddr fa35_2 rfl) rfl ?_; clear hF a; intro a hF
    refine sv hF (v_load sc3 rfl (hx.blk.at 2 rfl)) rfl ?_; clear hF a; intro a hF
    refine sv hF ((v_addI rfl rfl (by omega)).as (show Value.int .i64 ((kn : Int) + (mn : Int)) = .int .i64 ((kn + mn : Nat) : Int) by simp)) rfl ?_; clear hF a; intro a hF
    refine sv hF ((v_remI rfl rfl (by omega) (by omega)).as (show Value.int .i64 ((n3 : Int) % ((kn + mn : Nat) : Int)) = .int .i64 ((n3 % (kn + mn) : Nat) : Int) by simp)) rfl ?_; clear hF a; intro a hF
    have hi : n3 % (kn + mn) < kn + mn := Nat.mod_lt _ (by omega)
    obtain ⟨i, hiE⟩ : ∃ i : Nat, n3 % (kn + mn) = i := ⟨_, rfl⟩
    rw [hiE] at hF hi
    clear hiE
    refine sv hF (v_assign rfl) rfl ?_; clear hF a; intro a hF
    refine WL_nil (hK _ _ ?_)
    clear hK K
    replace hF := hF.sub _ (c_ 9 rfl (c_ 8 rfl (c_ 7 rfl (c_ 6 rfl (c_ 1 rfl (n_))))))
    refine W_sr rfl (fun K hK => ?_)
    refine sv hF (v_move rfl) rfl ?_; clear hF a; intro a hF
    refine sv hF (v_loadN Tryd.underlying35 rfl (by kernel_rfl) rfl hx.blk) rfl ?_; clear hF a; intro a hF
    refine sv hF (v_move rfl) rfl ?_; clear hF a; intro a hF
    refine sc hF rfl rfl rfl en14 rfl (Shard_ok B f p (kn : Int) (mn : Int) (i : Int) _ hS.inv) ?_; clear hF a; intro v w' a hv hF
    obtain ⟨rfl, hS'⟩ := hv
    replace hb3 := hb3.st (by decide) hS'
    replace hx := hx.st hS'
    replace hS := hS.trans hS'
    clear hS'
    rw [shardR_is hms hmay hi] at hF
    refine sv hF (v_move rfl) rfl ?_; clear hF a; intro a hF
    refine sv hF (v_ext rfl rfl) rfl ?_; clear hF a; intro a hF
    refine sv hF (v_ext rfl rfl) rfl ?_; clear hF a; intro a hF
    refine sv hF (v_assign rfl) rfl ?_; clear hF a; intro a hF
    refine sv hF (v_assign rfl) rfl ?_; clear hF a; intro a hF
    refine WL_nil (hK _ _ ?_)
    clear hK K
    replace hF := hF.sub _ (c_ 11 rfl (c_ 10 rfl (c_ 9 rfl (c_ 8 rfl (c_ 7 rfl (c_ 6 rfl (c_ 1 rfl (n_))))))))
    refine W_sr rfl (fun K hK => ?_)
    refine sv hF (v_move rfl) rfl ?_; clear hF a; intro a hF
    refine sc hF rfl rfl rfl en10 rfl (Read_ok B (shardN f p kn mn i) _ hS.inv (by have := shardN_len (o := f) (p := p) (k := kn) (m := mn) (i := i); first | omega | (rw [List.length_append, List.length_singleton]; omega))) ?_; clear hF a; intro v w' a hv hF
    obtain ⟨rfl, hS'⟩ := hv
    replace hb3 := hb3.st (by decide) hS'
    replace hx := hx.st hS'
    replace hS := hS.trans hS'
    clear hS'
    rw [rd_shard hms hmay hi] at hF
    refine sv hF (v_move rfl) rfl ?_; clear hF a; intro a hF
    refine sv hF (v_ext rfl rfl) rfl ?_; clear hF a; intro a hF
    refine sv hF ((v_ext rfl rfl).as (congrArg Value.bool (rfl))) rfl ?_; clear hF a; intro a hF
    have hs0 := hS.ext.size
    have t1_hb3 := heap_lt hb3
    have t1_hx := heap_lt hx.blk
    refine s_allocN (D := FDx) (B := B) (z := .agg nmz.cells.toArray) hF (by kernel_rfl) (by decide) hS.inv rfl ?_; clear hF a; intro ga w' a hm hI' ha hF
    replace hb3 := hb3.mb hm (by simp)
    replace hx := hx.mb hm (by simp)
    replace hS := hS.mb0 hm
    clear hm hI'
    have l1_ha := ha.low
    replace ha := ha.le hs0
    clear hs0
    refine s_storeN (D := FDx) (B := B) hF (by kernel_rfl) rfl rfl (rfl) (by rfl) ha hS.inv ?_; intro w' hm hI' hrc'
    replace hb3 := hb3.mb hm (by simp; omega)
    replace hx := hx.mb hm (by simp; omega)
    replace hS := hS.mb hm (fun k h => by cases h; exact ha.low)
    replace ha := hrc'
    clear hm hI' hrc'
    refine sv hF (v_assign rfl) rfl ?_; clear hF a; intro a hF
    refine WL_nil (hK _ _ ?_)
    clear hK K
    replace hF := hF.sub _ (c_ 13 rfl (c_ 12 rfl (c_ 11 rfl (c_ 10 rfl (c_ 9 rfl (c_ 8 rfl (c_ 7 rfl (c_ 6 rfl (c_ 1 rfl (n_))))))))))
    refine W_sr rfl (fun K hK => ?_)
    refine sv hF (v_move rfl) rfl ?_; clear hF a; intro a hF
    refine sc hF rfl rfl rfl en17 rfl (Temp_ok B (shardN f p kn mn i) _ hS.inv (by have := shardN_len (o := f) (p := p) (k := kn) (m := mn) (i := i); omega)) ?_; clear hF a; intro v w' a hv hF
    obtain ⟨rfl, hS'⟩ := hv
    replace hb3 := hb3.st (by decide) hS'
    replace hx := hx.st hS'
    replace ha := ha.st hS'
    replace hS := hS.trans hS'
    clear hS'
    refine sc hF rfl rfl rfl en10 rfl (Read_ok B ((shardN f p kn mn i) ++ [126]) _ hS.inv (by have := shardN_len (o := f) (p := p) (k := kn) (m := mn) (i := i); first | omega | (rw [List.length_append, List.length_singleton]; omega))) ?_; clear hF a; intro v w' a hv hF
    obtain ⟨rfl, hS'⟩ := hv
    replace hb3 := hb3.st (by decide) hS'
    replace hx := hx.st hS'
    replace ha := ha.st hS'
    replace hS := hS.trans hS'
    clear hS'
    rw [rd_temp hms hmay hi] at hF
    refine sv hF (v_move rfl) rfl ?_; clear hF a; intro a hF
    refine sv hF (v_ext rfl rfl) rfl ?_; clear hF a; intro a hF
    refine sv hF ((v_ext rfl rfl).as (congrArg Value.bool (rfl))) rfl ?_; clear hF a; intro a hF
    have hs0 := hS.ext.size
    have t2_hb3 := heap_lt hb3
    have t2_hx := heap_lt hx.blk
    have t2_ha := heap_lt ha.blk
    refine s_allocN (D := FDx) (B := B) (z := .agg nmz.cells.toArray) hF (by kernel_rfl) (by decide) hS.inv rfl ?_; clear hF a; intro gb w' a hm hI' hb hF
    replace hb3 := hb3.mb hm (by simp)
    replace hx := hx.mb hm (by simp)
    replace ha := ha.mb hm (by simp)
    replace hS := hS.mb0 hm
    clear hm hI'
    have l2_hb := hb.low
    replace hb := hb.le hs0
    clear hs0
    refine s_storeN (D := FDx) (B := B) hF (by kernel_rfl) rfl rfl (rfl) (by rfl) hb hS.inv ?_; intro w' hm hI' hrc'
    replace hb3 := hb3.mb hm (by simp; omega)
    replace hx := hx.mb hm (by simp; omega)
    replace ha := ha.mb hm (by simp; omega)
    replace hS := hS.mb hm (fun k h => by cases h; exact hb.low)
    replace hb := hrc'
    clear hm hI' hrc'
    refine sv hF (v_assign rfl) rfl ?_; clear hF a; intro a hF
    refine WL_nil (hK _ _ ?_)
    clear hK K
    replace hF := hF.sub _ (c_ 15 rfl (c_ 14 rfl (c_ 13 rfl (c_ 12 rfl (c_ 11 rfl (c_ 9 rfl (c_ 8 rfl (c_ 7 rfl (c_ 6 rfl (c_ 1 rfl (n_)))))))))))
    refine W_sr rfl (fun K hK => ?_)
    refine sv hF (v_fieldAddr fa35_0 rfl) rfl ?_; clear hF a; intro a hF
    refine sv hF (v_load sc3 rfl (hx.blk.at 0 rfl)) rfl ?_; clear hF a; intro a hF
    refine sc hF rfl rfl rfl en15 rfl (rPOf_ok B p _ hS.inv) ?_; clear hF a; intro v w' a hv hF
    obtain ⟨rfl, hS'⟩ := hv
    replace hb3 := hb3.st (by decide) hS'
    replace hx := hx.st hS'
    replace ha := ha.st hS'
    replace hb := hb.st hS'
    replace hS := hS.trans hS'
    clear hS'
    refine sv hF (v_move rfl) rfl ?_; clear hF a; intro a hF
    refine sv hF (v_ext rfl rfl) rfl ?_; clear hF a; intro a hF
    refine sv hF (v_ext rfl rfl) rfl ?_; clear hF a; intro a hF
    have hs0 := hS.ext.size
    have t3_hb3 := heap_lt hb3
    have t3_hx := heap_lt hx.blk
    have t3_ha := heap_lt ha.blk
    have t3_hb := heap_lt hb.blk
    refine s_allocN (D := FDx) (B := B) (z := .agg prz.toArray) hF (by kernel_rfl) (by decide) hS.inv rfl ?_; clear hF a; intro gR w' a hm hI' hR hF
    replace hb3 := hb3.mb hm (by simp)
    replace hx := hx.mb hm (by simp)
    replace ha := ha.mb hm (by simp)
    replace hb := hb.mb hm (by simp)
    replace hS := hS.mb0 hm
    clear hm hI'
    have l3_hR := hR.low
    replace hR := hR.le hs0
    clear hs0
    refine s_storeN (D := FDx) (B := B) hF (by rw [List.size_toArray, prOf_len]; kernel_rfl) rfl rfl (prOf_one p) (by rw [List.size_toArray, prOf_len]; rfl) hR hS.inv ?_; intro w' hm hI' hrc'
    replace hb3 := hb3.mb hm (by simp; omega)
    replace hx := hx.mb hm (by simp; omega)
    replace ha := ha.mb hm (by simp; omega)
    replace hb := hb.mb hm (by simp; omega)
    replace hS := hS.mb hm (fun k h => by cases h; exact hR.low)
    replace hR := hrc'
    clear hm hI' hrc'
    refine sv hF (v_assign rfl) rfl ?_; clear hF a; intro a hF
    refine WL_nil (hK _ _ ?_)
    clear hK K
    replace hF := hF.sub _ (c_ 16 rfl (c_ 15 rfl (c_ 14 rfl (c_ 13 rfl (c_ 12 rfl (c_ 11 rfl (c_ 9 rfl (c_ 8 rfl (c_ 7 rfl (c_ 6 rfl (c_ 1 rfl (n_))))))))))))
    refine W_sr rfl (fun K hK => ?_)
    refine sv hF (v_move rfl) rfl ?_; clear hF a; intro a hF
    refine sv hF (v_fieldAddr fa42_3 rfl) rfl ?_; clear hF a; intro a hF
    refine sv hF (v_load sc5 rfl ((hR.kc 3 (prOf_lay hp6)).c)) rfl ?_; clear hF a; intro a hF
    refine sv hF (v_fieldAddr fa35_1 rfl) rfl ?_; clear hF a; intro a hF
    refine sv hF (v_load sc3 rfl (hx.blk.at 1 rfl)) rfl ?_; clear hF a; intro a hF
    refine sv hF (v_move rfl) rfl ?_; clear hF a; intro a hF
    refine sv hF (v_build (cs := (Nm.cells ⟨f, 1, layL p, [], (kn : Int), 0, (i : Int), false⟩).toArray) rfl (by kernel_rfl)) rfl ?_; clear hF a; intro a hF
    have hs0 := hS.ext.size
    have t4_hb3 := heap_lt hb3
    have t4_hx := heap_lt hx.blk
    have t4_ha := heap_lt ha.blk
    have t4_hb := heap_lt hb.blk
    have t4_hR := heap_lt hR.blk
    refine s_allocN (D := FDx) (B := B) (z := .agg nmz.cells.toArray) hF (by kernel_rfl) (by decide) hS.inv rfl ?_; clear hF a; intro gc w' a hm hI' hc hF
    replace hb3 := hb3.mb hm (by simp)
    replace hx := hx.mb hm (by simp)
    replace ha := ha.mb hm (by simp)
    replace hb := hb.mb hm (by simp)
    replace hR := hR.mb hm (by simp)
    replace hS := hS.mb0 hm
    clear hm hI'
    have l4_hc := hc.low
    replace hc := hc.le hs0
    clear hs0
    refine s_storeN (D := FDx) (B := B) hF (by kernel_rfl) rfl rfl (rfl) (by rfl) hc hS.inv ?_; intro w' hm hI' hrc'
    replace hb3 := hb3.mb hm (by simp; omega)
    replace hx := hx.mb hm (by simp; omega)
    replace ha := ha.mb hm (by simp; omega)
    replace hb := hb.mb hm (by simp; omega)
    replace hR := hR.mb hm (by simp; omega)
    replace hS := hS.mb hm (fun k h => by cases h; exact hc.low)
    replace hc := hrc'
    clear hm hI' hrc'
    refine WL_nil (hK _ _ ?_)
    clear hK K
    replace hF := hF.sub _ (c_ 18 rfl (c_ 16 rfl (c_ 15 rfl (c_ 14 rfl (c_ 13 rfl (c_ 12 rfl (c_ 11 rfl (c_ 9 rfl (c_ 8 rfl (c_ 7 rfl (c_ 6 rfl (c_ 1 rfl (n_)))))))))))))
    refine W_seq ?_
    refine W_sr rfl (fun K hK => ?_)
    refine sv hF (v_move rfl) rfl ?_; clear hF a; intro a hF
    refine sv hF (v_fieldAddr fa35_1 rfl) rfl ?_; clear hF a; intro a hF
    refine sv hF (v_load sc3 rfl (hx.blk.at 1 rfl)) rfl ?_; clear hF a; intro a hF
    refine sv hF (v_geq rfl rfl) rfl ?_; clear hF a; intro a hF
    refine WL_nil (hK _ _ ?_)
    clear hK K
    replace hF := hF.sub _ (c_ 73 rfl (c_ 18 rfl (c_ 16 rfl (c_ 15 rfl (c_ 14 rfl (c_ 13 rfl (c_ 12 rfl (c_ 11 rfl (c_ 9 rfl (c_ 8 rfl (c_ 7 rfl (c_ 6 rfl (c_ 1 rfl (n_))))))))))))))
    refine W_if hF rfl (fun hc2 => ?_) (fun hc2 => ?_)
    · skip
      try simp only [decide_eq_true_eq, decide_eq_false_iff_not, Bool.not_eq_true', Bool.not_eq_false', Bool.not_true, Bool.not_false] at hc2
      have hnm : ∀ t, nmOf f p kn mn i t = ⟨f, 2, 0, tagL p, kn, mn, ((i - kn : Nat) : Int), t⟩ := fun t => if_neg (by omega)
      simp only [Option.getD_some, hnm] at ha hb
      refine W_reg rfl (fun K hK => ?_)
      refine sv hF (v_move rfl) rfl ?_; clear hF a; intro a hF
      refine sv hF (v_fieldAddr fa42_0 rfl) rfl ?_; clear hF a; intro a hF
      refine sv hF (v_load sc9 rfl ((hR.kc 0 (prOf_tagL hp6)).c)) rfl ?_; clear hF a; intro a hF
      refine sv hF (v_fieldAddr fa35_1 rfl) rfl ?_; clear hF a; intro a hF
      refine sv hF (v_load sc3 rfl (hx.blk.at 1 rfl)) rfl ?_; clear hF a; intro a hF
      refine sv hF (v_fieldAddr fa35_2 rfl) rfl ?_; clear hF a; intro a hF
      refine sv hF (v_load sc3 rfl (hx.blk.at 2 rfl)) rfl ?_; clear hF a; intro a hF
      refine sv hF (v_move rfl) rfl ?_; clear hF a; intro a hF
      refine sv hF (v_fieldAddr fa35_1 rfl) rfl ?_; clear hF a; intro a hF
      refine sv hF (v_load sc3 rfl (hx.blk.at 1 rfl)) rfl ?_; clear hF a; intro a hF
      refine sv hF ((v_subI rfl rfl (by omega)).as (show Value.int .i64 ((i : Int) - (kn : Int)) = .int .i64 ((i - kn : Nat) : Int) by congr 1; omega)) rfl ?_; clear hF a; intro a hF
      refine sv hF (v_build (cs := (Nm.cells ⟨f, 2, 0, tagL p, (kn : Int), (mn : Int), ((i - kn : Nat) : Int), false⟩).toArray) rfl (by kernel_rfl)) rfl ?_; clear hF a; intro a hF
      refine s_storeN (D := FDx) (B := B) hF (by kernel_rfl) rfl rfl (rfl) (by rfl) hc hS.inv ?_; intro w' hm hI' hrc'
      replace hb3 := hb3.mb hm (by simp; omega)
      replace hx := hx.mb hm (by simp; omega)
      replace ha := ha.mb hm (by simp; omega)
      replace hb := hb.mb hm (by simp; omega)
      replace hR := hR.mb hm (by simp; omega)
      replace hS := hS.mb hm (fun k h => by cases h; exact hc.low)
      replace hc := hrc'
      clear hm hI' hrc'
      refine WL_nil (hK _ _ ?_)
      clear hK K
      replace hF := hF.sub _ (c_ 18 rfl (c_ 15 rfl (c_ 14 rfl (c_ 13 rfl (c_ 12 rfl (c_ 11 rfl (c_ 7 rfl (c_ 6 rfl (c_ 1 rfl (n_))))))))))
      refine W_sr rfl (fun K hK => ?_)
      refine sv hF (v_loadN Tryd.underlying27 rfl (by kernel_rfl) rfl hc.blk) rfl ?_; clear hF a; intro a hF
      have hs0 := hS.ext.size
      have t5_hb3 := heap_lt hb3
      have t5_hx := heap_lt hx.blk
      have t5_ha := heap_lt ha.blk
      have t5_hb := heap_lt hb.blk
      have t5_hR := heap_lt hR.blk
      have t5_hc := heap_lt hc.blk
      refine s_allocN (D := FDx) (B := B) (z := .agg nmz.cells.toArray) hF (by kernel_rfl) (by decide) hS.inv rfl ?_; clear hF a; intro gd w' a hm hI' hd hF
      replace hb3 := hb3.mb hm (by simp)
      replace hx := hx.mb hm (by simp)
      replace ha := ha.mb hm (by simp)
      replace hb := hb.mb hm (by simp)
      replace hR := hR.mb hm (by simp)
      replace hc := hc.mb hm (by simp)
      replace hS := hS.mb0 hm
      clear hm hI'
      have l5_hd := hd.low
      replace hd := hd.le hs0
      clear hs0
      refine s_storeN (D := FDx) (B := B) hF (by kernel_rfl) rfl rfl (rfl) (by rfl) hd hS.inv ?_; intro w' hm hI' hrc'
      replace hb3 := hb3.mb hm (by simp; omega)
      replace hx := hx.mb hm (by simp; omega)
      replace ha := ha.mb hm (by simp; omega)
      replace hb := hb.mb hm (by simp; omega)
      replace hR := hR.mb hm (by simp; omega)
      replace hc := hc.mb hm (by simp; omega)
      replace hS := hS.mb hm (fun k h => by cases h; exact hd.low)
      replace hd := hrc'
      clear hm hI' hrc'
      refine WL_nil (hK _ _ ?_)
      clear hK K
      replace hF := hF.sub _ (c_ 19 rfl (c_ 18 rfl (c_ 15 rfl (c_ 14 rfl (c_ 13 rfl (c_ 12 rfl (c_ 11 rfl (c_ 7 rfl (c_ 6 rfl (c_ 1 rfl (n_)))))))))))
      refine W_sr rfl (fun K hK => ?_)
      refine sv hF (v_fieldAddr fa27_7 rfl) rfl ?_; clear hF a; intro a hF
      refine s_storeF (D := FDx) (B := B) hF on4 rfl rfl (rfl) (i := 7) (by simp [Nm.cells]) hd hS.inv ?_; intro w' hm hI' hrc'
      replace hb3 := hb3.mb hm (by simp; omega)
      replace hx := hx.mb hm (by simp; omega)
      replace ha := ha.mb hm (by simp; omega)
      replace hb := hb.mb hm (by simp; omega)
      replace hR := hR.mb hm (by simp; omega)
      replace hc := hc.mb hm (by simp; omega)
      replace hS := hS.mb hm (fun k h => by cases h; exact hd.low)
      replace hd := hrc'
      clear hm hI' hrc'
      refine WL_nil (hK _ _ ?_)
      clear hK K
      replace hF := hF.sub _ (c_ 19 rfl (c_ 18 rfl (c_ 15 rfl (c_ 14 rfl (c_ 13 rfl (c_ 12 rfl (c_ 11 rfl (c_ 7 rfl (c_ 6 rfl (c_ 1 rfl (n_)))))))))))
      refine W_sr rfl (fun K hK => ?_)
      refine sv hF (v_move rfl) rfl ?_; clear hF a; intro a hF
      refine sc hF rfl rfl rfl en18 rfl (Sidecar_ok B f _ hS.inv) ?_; clear hF a; intro v w' a hv hF
      obtain ⟨rfl, hS'⟩ := hv
      replace hb3 := hb3.st (by decide) hS'
      replace hx := hx.st hS'
      replace ha := ha.st hS'
      replace hb := hb.st hS'
      replace hR := hR.st hS'
      replace hc := hc.st hS'
      replace hd := hd.st hS'
      replace hS := hS.trans hS'
      clear hS'
      rw [show sideR f = (f ++ 46 :: sideL, 0) from if_pos hms] at hF
      refine sv hF (v_move rfl) rfl ?_; clear hF a; intro a hF
      refine sv hF (v_ext rfl rfl) rfl ?_; clear hF a; intro a hF
      refine sv hF (v_ext rfl rfl) rfl ?_; clear hF a; intro a hF
      refine sv hF (v_assign rfl) rfl ?_; clear hF a; intro a hF
      refine sv hF (v_assign rfl) rfl ?_; clear hF a; intro a hF
      refine WL_nil (hK _ _ ?_)
      clear hK K
      replace hF := hF.sub _ (c_ 20 rfl (c_ 19 rfl (c_ 18 rfl (c_ 15 rfl (c_ 14 rfl (c_ 13 rfl (c_ 12 rfl (c_ 11 rfl (c_ 7 rfl (c_ 6 rfl (c_ 1 rfl (n_))))))))))))
      refine W_sr rfl (fun K hK => ?_)
      refine sv hF (v_move rfl) rfl ?_; clear hF a; intro a hF
      refine sc hF rfl rfl rfl en10 rfl (Read_ok B (f ++ 46 :: sideL) _ hS.inv (by simp [sideL]; omega)) ?_; clear hF a; intro v w' a hv hF
      obtain ⟨rfl, hS'⟩ := hv
      replace hb3 := hb3.st (by decide) hS'
      replace hx := hx.st hS'
      replace ha := ha.st hS'
      replace hb := hb.st hS'
      replace hR := hR.st hS'
      replace hc := hc.st hS'
      replace hd := hd.st hS'
      replace hS := hS.trans hS'
      clear hS'
      rw [rd_side hms] at hF
      refine sv hF (v_move rfl) rfl ?_; clear hF a; intro a hF
      refine sv hF (v_ext rfl rfl) rfl ?_; clear hF a; intro a hF
      refine sv hF ((v_ext rfl rfl).as (congrArg Value.bool (rfl))) rfl ?_; clear hF a; intro a hF
      have hs0 := hS.ext.size
      have t6_hb3 := heap_lt hb3
      have t6_hx := heap_lt hx.blk
      have t6_ha := heap_lt ha.blk
      have t6_hb := heap_lt hb.blk
      have t6_hR := heap_lt hR.blk
      have t6_hc := heap_lt hc.blk
      have t6_hd := heap_lt hd.blk
      refine s_allocN (D := FDx) (B := B) (z := .agg nmz.cells.toArray) hF (by kernel_rfl) (by decide) hS.inv rfl ?_; clear hF a; intro ge w' a hm hI' he hF
      replace hb3 := hb3.mb hm (by simp)
      replace hx := hx.mb hm (by simp)
      replace ha := ha.mb hm (by simp)
      replace hb := hb.mb hm (by simp)
      replace hR := hR.mb hm (by simp)
      replace hc := hc.mb hm (by simp)
      replace hd := hd.mb hm (by simp)
      replace hS := hS.mb0 hm
      clear hm hI'
      have l6_he := he.low
      replace he := he.le hs0
      clear hs0
      refine s_storeN (D := FDx) (B := B) hF (by kernel_rfl) rfl rfl (rfl) (by rfl) he hS.inv ?_; intro w' hm hI' hrc'
      replace hb3 := hb3.mb hm (by simp; omega)
      replace hx := hx.mb hm (by simp; omega)
      replace ha := ha.mb hm (by simp; omega)
      replace hb := hb.mb hm (by simp; omega)
      replace hR := hR.mb hm (by simp; omega)
      replace hc := hc.mb hm (by simp; omega)
      replace hd := hd.mb hm (by simp; omega)
      replace hS := hS.mb hm (fun k h => by cases h; exact he.low)
      replace he := hrc'
      clear hm hI' hrc'
      refine sv hF (v_assign rfl) rfl ?_; clear hF a; intro a hF
      refine WL_nil (hK _ _ ?_)
      clear hK K
      replace hF := hF.sub _ (c_ 23 rfl (c_ 22 rfl (c_ 19 rfl (c_ 18 rfl (c_ 15 rfl (c_ 14 rfl (c_ 13 rfl (c_ 12 rfl (c_ 11 rfl (c_ 7 rfl (c_ 6 rfl (c_ 1 rfl (n_)))))))))))))
      refine W_sr rfl (fun K hK => ?_)
      refine sv hF (v_move rfl) rfl ?_; clear hF a; intro a hF
      refine sv hF (v_move rfl) rfl ?_; clear hF a; intro a hF
      refine svg hF rfl ?_
      refine sv hF (v_move rfl) rfl ?_; clear hF a; intro a hF
      refine svg hF rfl ?_
      refine sv hF ((v_eql rfl rfl).as (congrArg Value.bool (decide_eq_true (rfl)))) rfl ?_; clear hF a; intro a hF
      refine sv hF (v_pickT rfl rfl) rfl ?_; clear hF a; intro a hF
      refine sv hF (v_move rfl) rfl ?_; clear hF a; intro a hF
      refine svg hF rfl ?_
      refine sv hF (v_move rfl) rfl ?_; clear hF a; intro a hF
      refine sv hF (v_pickT rfl rfl) rfl ?_; clear hF a; intro a hF
      refine sv hF (v_move rfl) rfl ?_; clear hF a; intro a hF
      refine svg hF rfl ?_
      refine sv hF (v_move rfl) rfl ?_; clear hF a; intro a hF
      refine sv hF (v_pickT rfl rfl) rfl ?_; clear hF a; intro a hF
      refine sv hF (v_move rfl) rfl ?_; clear hF a; intro a hF
      refine svg hF rfl ?_
      refine sv hF (v_loadN Tryd.underlying24 rfl (by kernel_rfl) rfl ha.blk) rfl ?_; clear hF a; intro a hF
      refine svg hF rfl ?_
      refine sv hF (v_loadN Tryd.underlying27 rfl (by kernel_rfl) rfl hc.blk) rfl ?_; clear hF a; intro a hF
      refine svg hF rfl ?_
      refine sc hF rfl rfl rfl en12 rfl (same_ok B _ _ hS.inv) ?_; clear hF a; intro v w' a hv hF
      obtain ⟨rfl, hS'⟩ := hv
      replace hb3 := hb3.st (by decide) hS'
      replace hx := hx.st hS'
      replace ha := ha.st hS'
      replace hb := hb.st hS'
      replace hR := hR.st hS'
      replace hc := hc.st hS'
      replace hd := hd.st hS'
      replace he := he.st hS'
      replace hS := hS.trans hS'
      clear hS'
      refine sv hF (v_pickT rfl rfl) rfl ?_; clear hF a; intro a hF
      refine sv hF (v_move rfl) rfl ?_; clear hF a; intro a hF
      refine svg hF rfl ?_
      refine sv hF (v_loadN Tryd.underlying24 rfl (by kernel_rfl) rfl hb.blk) rfl ?_; clear hF a; intro a hF
      refine svg hF rfl ?_
      refine sv hF (v_loadN Tryd.underlying27 rfl (by kernel_rfl) rfl hd.blk) rfl ?_; clear hF a; intro a hF
      refine svg hF rfl ?_
      refine sc hF rfl rfl rfl en12 rfl (same_ok B _ _ hS.inv) ?_; clear hF a; intro v w' a hv hF
      obtain ⟨rfl, hS'⟩ := hv
      replace hb3 := hb3.st (by decide) hS'
      replace hx := hx.st hS'
      replace ha := ha.st hS'
      replace hb := hb.st hS'
      replace hR := hR.st hS'
      replace hc := hc.st hS'
      replace hd := hd.st hS'
      replace he := he.st hS'
      replace hS := hS.trans hS'
      clear hS'
      refine sv hF (v_pickT rfl rfl) rfl ?_; clear hF a; intro a hF
      refine sv hF (v_move rfl) rfl ?_; clear hF a; intro a hF
      refine svg hF rfl ?_
      refine sv hF (v_move rfl) rfl ?_; clear hF a; intro a hF
      refine sv hF (v_pickT rfl rfl) rfl ?_; clear hF a; intro a hF
      refine sv hF (v_move rfl) rfl ?_; clear hF a; intro a hF
      refine svg hF rfl ?_
      refine sv hF (v_fieldAddr fa24_1 rfl) rfl ?_; clear hF a; intro a hF
      refine svg hF rfl ?_
      refine sv hF (v_load sc3 rfl (he.blk.at 1 rfl)) rfl ?_; clear hF a; intro a hF
      refine svg hF rfl ?_
      refine sv hF ((v_eql rfl rfl).as (congrArg Value.bool (decide_eq_true (rfl)))) rfl ?_; clear hF a; intro a hF
      refine sv hF (v_pickT rfl rfl) rfl ?_; clear hF a; intro a hF
      refine sv hF (v_move rfl) rfl ?_; clear hF a; intro a hF
      refine svg hF rfl ?_
      refine sv hF (v_fieldAddr fa24_0 rfl) rfl ?_; clear hF a; intro a hF
      refine svg hF rfl ?_
      refine sv hF (v_load sc9 rfl (he.blk.at 0 rfl)) rfl ?_; clear hF a; intro a hF
      refine svg hF rfl ?_
      refine sv hF (v_move rfl) rfl ?_; clear hF a; intro a hF
      refine svg hF rfl ?_
      refine sv hF ((v_eqlT rfl rfl).as (congrArg Value.bool (decide_eq_true (rfl)))) rfl ?_; clear hF a; intro a hF
      refine sv hF (v_pickT rfl rfl) rfl ?_; clear hF a; intro a hF
      refine sv hF (v_assign rfl) rfl ?_; clear hF a; intro a hF
      refine WL_nil (hK _ _ ?_)
      clear hK K
      replace hF := hF.sub _ (c_ 6 rfl (n_))
      refine W_ret ?_
      refine ⟨_, _, hF, rfl, ?_⟩
      exact ⟨rfl, hS⟩
    · skip
      try simp only [decide_eq_true_eq, decide_eq_false_iff_not, Bool.not_eq_true', Bool.not_eq_false', Bool.not_true, Bool.not_false] at hc2
      have hnm : ∀ t, nmOf f p kn mn i t = ⟨f, 1, layL p, [], kn, 0, i, t⟩ := fun t => if_pos (by omega)
      simp only [Option.getD_some, hnm] at ha hb
      refine W_skip ?_
      refine W_sr rfl (fun K hK => ?_)
      refine sv hF (v_loadN Tryd.underlying27 rfl (by kernel_rfl) rfl hc.blk) rfl ?_; clear hF a; intro a hF
      have hs0 := hS.ext.size
      have t5_hb3 := heap_lt hb3
      have t5_hx := heap_lt hx.blk
      have t5_ha := heap_lt ha.blk
      have t5_hb := heap_lt hb.blk
      have t5_hR := heap_lt hR.blk
      have t5_hc := heap_lt hc.blk
      refine s_allocN (D := FDx) (B := B) (z := .agg nmz.cells.toArray) hF (by kernel_rfl) (by decide) hS.inv rfl ?_; clear hF a; intro gd w' a hm hI' hd hF
      replace hb3 := hb3.mb hm (by simp)
      replace hx := hx.mb hm (by simp)
      replace ha := ha.mb hm (by simp)
      replace hb := hb.mb hm (by simp)
      replace hR := hR.mb hm (by simp)
      replace hc := hc.mb hm (by simp)
      replace hS := hS.mb0 hm
      clear hm hI'
      have l5_hd := hd.low
      replace hd := hd.le hs0
      clear hs0
      refine s_storeN (D := FDx) (B := B) hF (by kernel_rfl) rfl rfl (rfl) (by rfl) hd hS.inv ?_; intro w' hm hI' hrc'
      replace hb3 := hb3.mb hm (by simp; omega)
      replace hx := hx.mb hm (by simp; omega)
      replace ha := ha.mb hm (by simp; omega)
      replace hb := hb.mb hm (by simp; omega)
      replace hR := hR.mb hm (by simp; omega)
      replace hc := hc.mb hm (by simp; omega)
      replace hS := hS.mb hm (fun k h => by cases h; exact hd.low)
      replace hd := hrc'
      clear hm hI' hrc'
      refine WL_nil (hK _ _ ?_)
      clear hK K
      replace hF := hF.sub _ (c_ 19 rfl (c_ 18 rfl (c_ 15 rfl (c_ 14 rfl (c_ 13 rfl (c_ 12 rfl (c_ 11 rfl (c_ 7 rfl (c_ 6 rfl (c_ 1 rfl (n_)))))))))))
      refine W_sr rfl (fun K hK => ?_)
      refine sv hF (v_fieldAddr fa27_7 rfl) rfl ?_; clear hF a; intro a hF
      refine s_storeF (D := FDx) (B := B) hF on4 rfl rfl (rfl) (i := 7) (by simp [Nm.cells]) hd hS.inv ?_; intro w' hm hI' hrc'
      replace hb3 := hb3.mb hm (by simp; omega)
      replace hx := hx.mb hm (by simp; omega)
      replace ha := ha.mb hm (by simp; omega)
      replace hb := hb.mb hm (by simp; omega)
      replace hR := hR.mb hm (by simp; omega)
      replace hc := hc.mb hm (by simp; omega)
      replace hS := hS.mb hm (fun k h => by cases h; exact hd.low)
      replace hd := hrc'
      clear hm hI' hrc'
      refine WL_nil (hK _ _ ?_)
      clear hK K
      replace hF := hF.sub _ (c_ 19 rfl (c_ 18 rfl (c_ 15 rfl (c_ 14 rfl (c_ 13 rfl (c_ 12 rfl (c_ 11 rfl (c_ 7 rfl (c_ 6 rfl (c_ 1 rfl (n_)))))))))))
      refine W_sr rfl (fun K hK => ?_)
      refine sv hF (v_move rfl) rfl ?_; clear hF a; intro a hF
      refine sc hF rfl rfl rfl en18 rfl (Sidecar_ok B f _ hS.inv) ?_; clear hF a; intro v w' a hv hF
      obtain ⟨rfl, hS'⟩ := hv
      replace hb3 := hb3.st (by decide) hS'
      replace hx := hx.st hS'
      replace ha := ha.st hS'
      replace hb := hb.st hS'
      replace hR := hR.st hS'
      replace hc := hc.st hS'
      replace hd := hd.st hS'
      replace hS := hS.trans hS'
      clear hS'
      rw [show sideR f = (f ++ 46 :: sideL, 0) from if_pos hms] at hF
      refine sv hF (v_move rfl) rfl ?_; clear hF a; intro a hF
      refine sv hF (v_ext rfl rfl) rfl ?_; clear hF a; intro a hF
      refine sv hF (v_ext rfl rfl) rfl ?_; clear hF a; intro a hF
      refine sv hF (v_assign rfl) rfl ?_; clear hF a; intro a hF
      refine sv hF (v_assign rfl) rfl ?_; clear hF a; intro a hF
      refine WL_nil (hK _ _ ?_)
      clear hK K
      replace hF := hF.sub _ (c_ 20 rfl (c_ 19 rfl (c_ 18 rfl (c_ 15 rfl (c_ 14 rfl (c_ 13 rfl (c_ 12 rfl (c_ 11 rfl (c_ 7 rfl (c_ 6 rfl (c_ 1 rfl (n_))))))))))))
      refine W_sr rfl (fun K hK => ?_)
      refine sv hF (v_move rfl) rfl ?_; clear hF a; intro a hF
      refine sc hF rfl rfl rfl en10 rfl (Read_ok B (f ++ 46 :: sideL) _ hS.inv (by simp [sideL]; omega)) ?_; clear hF a; intro v w' a hv hF
      obtain ⟨rfl, hS'⟩ := hv
      replace hb3 := hb3.st (by decide) hS'
      replace hx := hx.st hS'
      replace ha := ha.st hS'
      replace hb := hb.st hS'
      replace hR := hR.st hS'
      replace hc := hc.st hS'
      replace hd := hd.st hS'
      replace hS := hS.trans hS'
      clear hS'
      rw [rd_side hms] at hF
      refine sv hF (v_move rfl) rfl ?_; clear hF a; intro a hF
      refine sv hF (v_ext rfl rfl) rfl ?_; clear hF a; intro a hF
      refine sv hF ((v_ext rfl rfl).as (congrArg Value.bool (rfl))) rfl ?_; clear hF a; intro a hF
      have hs0 := hS.ext.size
      have t6_hb3 := heap_lt hb3
      have t6_hx := heap_lt hx.blk
      have t6_ha := heap_lt ha.blk
      have t6_hb := heap_lt hb.blk
      have t6_hR := heap_lt hR.blk
      have t6_hc := heap_lt hc.blk
      have t6_hd := heap_lt hd.blk
      refine s_allocN (D := FDx) (B := B) (z := .agg nmz.cells.toArray) hF (by kernel_rfl) (by decide) hS.inv rfl ?_; clear hF a; intro ge w' a hm hI' he hF
      replace hb3 := hb3.mb hm (by simp)
      replace hx := hx.mb hm (by simp)
      replace ha := ha.mb hm (by simp)
      replace hb := hb.mb hm (by simp)
      replace hR := hR.mb hm (by simp)
      replace hc := hc.mb hm (by simp)
      replace hd := hd.mb hm (by simp)
      replace hS := hS.mb0 hm
      clear hm hI'
      have l6_he := he.low
      replace he := he.le hs0
      clear hs0
      refine s_storeN (D := FDx) (B := B) hF (by kernel_rfl) rfl rfl (rfl) (by rfl) he hS.inv ?_; intro w' hm hI' hrc'
      replace hb3 := hb3.mb hm (by simp; omega)
      replace hx := hx.mb hm (by simp; omega)
      replace ha := ha.mb hm (by simp; omega)
      replace hb := hb.mb hm (by simp; omega)
      replace hR := hR.mb hm (by simp; omega)
      replace hc := hc.mb hm (by simp; omega)
      replace hd := hd.mb hm (by simp; omega)
      replace hS := hS.mb hm (fun k h => by cases h; exact he.low)
      replace he := hrc'
      clear hm hI' hrc'
      refine sv hF (v_assign rfl) rfl ?_; clear hF a; intro a hF
      refine WL_nil (hK _ _ ?_)
      clear hK K
      replace hF := hF.sub _ (c_ 23 rfl (c_ 22 rfl (c_ 19 rfl (c_ 18 rfl (c_ 15 rfl (c_ 14 rfl (c_ 13 rfl (c_ 12 rfl (c_ 11 rfl (c_ 7 rfl (c_ 6 rfl (c_ 1 rfl (n_)))))))))))))
      refine W_sr rfl (fun K hK => ?_)
      refine sv hF (v_move rfl) rfl ?_; clear hF a; intro a hF
      refine sv hF (v_move rfl) rfl ?_; clear hF a; intro a hF
      refine svg hF rfl ?_
      refine sv hF (v_move rfl) rfl ?_; clear hF a; intro a hF
      refine svg hF rfl ?_
      refine sv hF ((v_eql rfl rfl).as (congrArg Value.bool (decide_eq_true (rfl)))) rfl ?_; clear hF a; intro a hF
      refine sv hF (v_pickT rfl rfl) rfl ?_; clear hF a; intro a hF
      refine sv hF (v_move rfl) rfl ?_; clear hF a; intro a hF
      refine svg hF rfl ?_
      refine sv hF (v_move rfl) rfl ?_; clear hF a; intro a hF
      refine sv hF (v_pickT rfl rfl) rfl ?_; clear hF a; intro a hF
      refine sv hF (v_move rfl) rfl ?_; clear hF a; intro a hF
      refine svg hF rfl ?_
      refine sv hF (v_move rfl) rfl ?_; clear hF a; intro a hF
      refine sv hF (v_pickT rfl rfl) rfl ?_; clear hF a; intro a hF
      refine sv hF (v_move rfl) rfl ?_; clear hF a; intro a hF
      refine svg hF rfl ?_
      refine sv hF (v_loadN Tryd.underlying24 rfl (by kernel_rfl) rfl ha.blk) rfl ?_; clear hF a; intro a hF
      refine svg hF rfl ?_
      refine sv hF (v_loadN Tryd.underlying27 rfl (by kernel_rfl) rfl hc.blk) rfl ?_; clear hF a; intro a hF
      refine svg hF rfl ?_
      refine sc hF rfl rfl rfl en12 rfl (same_ok B _ _ hS.inv) ?_; clear hF a; intro v w' a hv hF
      obtain ⟨rfl, hS'⟩ := hv
      replace hb3 := hb3.st (by decide) hS'
      replace hx := hx.st hS'
      replace ha := ha.st hS'
      replace hb := hb.st hS'
      replace hR := hR.st hS'
      replace hc := hc.st hS'
      replace hd := hd.st hS'
      replace he := he.st hS'
      replace hS := hS.trans hS'
      clear hS'
      refine sv hF (v_pickT rfl rfl) rfl ?_; clear hF a; intro a hF
      refine sv hF (v_move rfl) rfl ?_; clear hF a; intro a hF
      refine svg hF rfl ?_
      refine sv hF (v_loadN Tryd.underlying24 rfl (by kernel_rfl) rfl hb.blk) rfl ?_; clear hF a; intro a hF
      refine svg hF rfl ?_
      refine sv hF (v_loadN Tryd.underlying27 rfl (by kernel_rfl) rfl hd.blk) rfl ?_; clear hF a; intro a hF
      refine svg hF rfl ?_
      refine sc hF rfl rfl rfl en12 rfl (same_ok B _ _ hS.inv) ?_; clear hF a; intro v w' a hv hF
      obtain ⟨rfl, hS'⟩ := hv
      replace hb3 := hb3.st (by decide) hS'
      replace hx := hx.st hS'
      replace ha := ha.st hS'
      replace hb := hb.st hS'
      replace hR := hR.st hS'
      replace hc := hc.st hS'
      replace hd := hd.st hS'
      replace he := he.st hS'
      replace hS := hS.trans hS'
      clear hS'
      refine sv hF (v_pickT rfl rfl) rfl ?_; clear hF a; intro a hF
      refine sv hF (v_move rfl) rfl ?_; clear hF a; intro a hF
      refine svg hF rfl ?_
      refine sv hF (v_move rfl) rfl ?_; clear hF a; intro a hF
      refine sv hF (v_pickT rfl rfl) rfl ?_; clear hF a; intro a hF
      refine sv hF (v_move rfl) rfl ?_; clear hF a; intro a hF
      refine svg hF rfl ?_
      refine sv hF (v_fieldAddr fa24_1 rfl) rfl ?_; clear hF a; intro a hF
      refine svg hF rfl ?_
      refine sv hF (v_load sc3 rfl (he.blk.at 1 rfl)) rfl ?_; clear hF a; intro a hF
      refine svg hF rfl ?_
      refine sv hF ((v_eql rfl rfl).as (congrArg Value.bool (decide_eq_true (rfl)))) rfl ?_; clear hF a; intro a hF
      refine sv hF (v_pickT rfl rfl) rfl ?_; clear hF a; intro a hF
      refine sv hF (v_move rfl) rfl ?_; clear hF a; intro a hF
      refine svg hF rfl ?_
      refine sv hF (v_fieldAddr fa24_0 rfl) rfl ?_; clear hF a; intro a hF
      refine svg hF rfl ?_
      refine sv hF (v_load sc9 rfl (he.blk.at 0 rfl)) rfl ?_; clear hF a; intro a hF
      refine svg hF rfl ?_
      refine sv hF (v_move rfl) rfl ?_; clear hF a; intro a hF
      refine svg hF rfl ?_
      refine sv hF ((v_eqlT rfl rfl).as (congrArg Value.bool (decide_eq_true (rfl)))) rfl ?_; clear hF a; intro a hF
      refine sv hF (v_pickT rfl rfl) rfl ?_; clear hF a; intro a hF
      refine sv hF (v_assign rfl) rfl ?_; clear hF a; intro a hF
      refine WL_nil (hK _ _ ?_)
      clear hK K
      replace hF := hF.sub _ (c_ 6 rfl (n_))
      refine W_ret ?_
      refine ⟨_, _, hF, rfl, ?_⟩
      exact ⟨rfl, hS⟩

end Go.Proofs.YtkoiolamnnmokaaDoor
