/- The statement NamesApart, walked: it returns true. -/
import Derived.Test.YtkoiolamnnmokaaDoorFAw15
set_option linter.unusedVariables false
set_option linter.unusedSimpArgs false
namespace Go.Proofs.YtkoiolamnnmokaaDoor
open Go Go.Gam


namespace FxFNamesApart
theorem en9 : Ent Tryd.prog 9 := ent Tryd.func9 (by kernel_rfl) (by kernel_rfl)
theorem en10 : Ent Tryd.prog 10 := ent Tryd.func10 (by kernel_rfl) (by kernel_rfl)
theorem en13 : Ent Tryd.prog 13 := ent Tryd.func13 (by kernel_rfl) (by kernel_rfl)
theorem en14 : Ent Tryd.prog 14 := ent Tryd.func14 (by kernel_rfl) (by kernel_rfl)
theorem en16 : Ent Tryd.prog 16 := ent Tryd.func16 (by kernel_rfl) (by kernel_rfl)
theorem en17 : Ent Tryd.prog 17 := ent Tryd.func17 (by kernel_rfl) (by kernel_rfl)
theorem ar46 : ArrOf Tryd.prog 46 4 := ar_of Tryd.underlying46 (by kernel_rfl)
theorem fa24_0 : FieldFact Tryd.prog 24 0 0 := ff_of (sz := 0) Tryd.underlying24 (by kernel_rfl)
theorem fa24_7 : FieldFact Tryd.prog 24 7 7 := ff_of (sz := 0) Tryd.underlying24 (by kernel_rfl)
theorem fa35_1 : FieldFact Tryd.prog 35 1 1 := ff_of (sz := 0) Tryd.underlying35 (by kernel_rfl)
theorem fa35_2 : FieldFact Tryd.prog 35 2 2 := ff_of (sz := 0) Tryd.underlying35 (by kernel_rfl)
theorem sc3 : Scalar Tryd.prog 3 := ⟨_, Tryd.underlying3, by simp, by simp⟩
theorem sc4 : Scalar Tryd.prog 4 := ⟨_, Tryd.underlying4, by simp, by simp⟩
theorem sc5 : Scalar Tryd.prog 5 := ⟨_, Tryd.underlying5, by simp, by simp⟩
theorem sc9 : Scalar Tryd.prog 9 := ⟨_, Tryd.underlying9, by simp, by simp⟩
end FxFNamesApart
open FxFNamesApart

set_option maxRecDepth 100000 in
set_option maxHeartbeats 1000000 in
theorem NamesApart_ok (B : Nat) (f g : List UInt8) (n0 n1 n2 n3 : Nat) (w : World) (hI : Inv FDx B w) (hfl : f.length ≤ maxLen) (hgl : g.length ≤ maxLen) (h0 : n0 < 256) (h1 : n1 < 256) (h2 : n2 < 256) (h3 : n3 < 256) : Ret Tryd.prog 5 [.string (str f), .string (str g), .agg #[.int .u8 (n0 : Int), .int .u8 (n1 : Int), .int .u8 (n2 : Int), .int .u8 (n3 : Int)]] w fun v w' => v = .bool true ∧ St FDx B w w' := by
  refine enter 113 [(0, .string (str f)), (1, .string (str g)), (2, .agg #[.int .u8 (n0 : Int), .int .u8 (n1 : Int), .int .u8 (n2 : Int), .int .u8 (n3 : Int)])] 6 Tryd.func5 rfl rfl rfl rfl rfl ?_; intro a hF
  have hS := St.refl hI
  refine W_sr rfl (fun K hK => ?_)
  refine s_box (D := FDx) (B := B) hF rfl (by decide) hS.inv rfl ?_; clear hF a; intro w' a hm hb5 hsz hF
  replace hS := hS.mb0 hm
  clear hm
  refine sv hF (v_assign rfl) rfl ?_; clear hF a; intro a hF
  refine WL_nil (hK _ _ ?_)
  clear hK K
  replace hF := hF.sub _ (c_ 6 rfl (c_ 5 rfl (c_ 0 rfl (c_ 1 rfl (n_)))))
  refine W_sr rfl (fun K hK => ?_)
  refine sc hF rfl rfl rfl en9 rfl (aw15_ok B _ hS.inv) ?_; clear hF a; intro v w' a hv hF
  obtain ⟨rfl, hS'⟩ := hv
  replace hb5 := hb5.st (by decide) hS'
  replace hS := hS.trans hS'
  clear hS'
  refine sv hF (v_assign rfl) rfl ?_; clear hF a; intro a hF
  refine WL_nil (hK _ _ ?_)
  clear hK K
  replace hF := hF.sub _ (c_ 7 rfl (c_ 6 rfl (c_ 5 rfl (c_ 0 rfl (c_ 1 rfl (n_))))))
  refine W_seq ?_
  refine W_sr rfl (fun K hK => ?_)
  refine sv hF (v_move rfl) rfl ?_; clear hF a; intro a hF
  refine sc hF rfl rfl rfl en16 rfl (rMay15_ok B f _ hS.inv) ?_; clear hF a; intro v w' a hv hF
  obtain ⟨rfl, hS'⟩ := hv
  replace hb5 := hb5.st (by decide) hS'
  replace hS := hS.trans hS'
  clear hS'
  refine sb hF (v_not rfl) rfl ?_ ?_
  · clear hF a; intro hc1 a hF
    try simp only [decide_eq_true_eq, decide_eq_false_iff_not, Bool.not_eq_true', Bool.not_eq_false', Bool.not_true, Bool.not_false] at hc1
    refine sv hF (v_move rfl) rfl ?_; clear hF a; intro a hF
    refine svn hF rfl rfl rfl ?_; clear hF a; intro a hF
    refine svn hF rfl rfl rfl ?_; clear hF a; intro a hF
    refine svn hF rfl rfl rfl ?_; clear hF a; intro a hF
    refine sv hF (v_pickT rfl rfl) rfl ?_; clear hF a; intro a hF
    refine sv hF (v_move rfl) rfl ?_; clear hF a; intro a hF
    refine svn hF rfl rfl rfl ?_; clear hF a; intro a hF
    refine svn hF rfl rfl rfl ?_; clear hF a; intro a hF
    refine svn hF rfl rfl rfl ?_; clear hF a; intro a hF
    refine sv hF (v_pickT rfl rfl) rfl ?_; clear hF a; intro a hF
    refine WL_nil (hK _ _ ?_)
    clear hK K
    replace hF := hF.sub _ (c_ 31 rfl (c_ 7 rfl (c_ 6 rfl (c_ 5 rfl (c_ 0 rfl (c_ 1 rfl (n_)))))))
    refine W_ifT hF rfl ?_
    refine W_sr rfl (fun K hK => ?_)
    refine sv hF (v_move rfl) rfl ?_; clear hF a; intro a hF
    refine sv hF (v_assign rfl) rfl ?_; clear hF a; intro a hF
    refine WL_nil (hK _ _ ?_)
    clear hK K
    replace hF := hF.sub _ (c_ 6 rfl (c_ 7 rfl (c_ 5 rfl (c_ 0 rfl (c_ 1 rfl (n_))))))
    refine W_ret ?_
    refine ⟨_, _, hF, rfl, ?_⟩
    exact ⟨rfl, hS⟩
  · clear hF a; intro hc1 a hF
    try simp only [decide_eq_true_eq, decide_eq_false_iff_not, Bool.not_eq_true', Bool.not_eq_false', Bool.not_true, Bool.not_false] at hc1
    refine sv hF (v_move rfl) rfl ?_; clear hF a; intro a hF
    refine svg hF rfl ?_
    refine sv hF (v_move rfl) rfl ?_; clear hF a; intro a hF
    refine svg hF rfl ?_
    refine sc hF rfl rfl rfl en16 rfl (rMay15_ok B g _ hS.inv) ?_; clear hF a; intro v w' a hv hF
    obtain ⟨rfl, hS'⟩ := hv
    replace hb5 := hb5.st (by decide) hS'
    replace hS := hS.trans hS'
    clear hS'
    refine svg hF rfl ?_
    refine sb hF (v_not rfl) rfl ?_ ?_
    · clear hF a; intro hc2 a hF
      try simp only [decide_eq_true_eq, decide_eq_false_iff_not, Bool.not_eq_true', Bool.not_eq_false', Bool.not_true, Bool.not_false] at hc2
      refine sv hF (v_pickF rfl rfl) rfl ?_; clear hF a; intro a hF
      refine sv hF (v_move rfl) rfl ?_; clear hF a; intro a hF
      refine svn hF rfl rfl rfl ?_; clear hF a; intro a hF
      refine svn hF rfl rfl rfl ?_; clear hF a; intro a hF
      refine svn hF rfl rfl rfl ?_; clear hF a; intro a hF
      refine sv hF (v_pickT rfl rfl) rfl ?_; clear hF a; intro a hF
      refine WL_nil (hK _ _ ?_)
      clear hK K
      replace hF := hF.sub _ (c_ 31 rfl (c_ 7 rfl (c_ 6 rfl (c_ 5 rfl (c_ 0 rfl (c_ 1 rfl (n_)))))))
      refine W_ifT hF rfl ?_
      refine W_sr rfl (fun K hK => ?_)
      refine sv hF (v_move rfl) rfl ?_; clear hF a; intro a hF
      refine sv hF (v_assign rfl) rfl ?_; clear hF a; intro a hF
      refine WL_nil (hK _ _ ?_)
      clear hK K
      replace hF := hF.sub _ (c_ 6 rfl (c_ 7 rfl (c_ 5 rfl (c_ 0 rfl (c_ 1 rfl (n_))))))
      refine W_ret ?_
      refine ⟨_, _, hF, rfl, ?_⟩
      exact ⟨rfl, hS⟩
    · clear hF a; intro hc2 a hF
      try simp only [decide_eq_true_eq, decide_eq_false_iff_not, Bool.not_eq_true', Bool.not_eq_false', Bool.not_true, Bool.not_false] at hc2
      refine sv hF (v_pickF rfl rfl) rfl ?_; clear hF a; intro a hF
      refine sv hF (v_move rfl) rfl ?_; clear hF a; intro a hF
      refine svg hF rfl ?_
      refine sv hF (v_move rfl) rfl ?_; clear hF a; intro a hF
      refine svg hF rfl ?_
      refine sv hF (v_move rfl) rfl ?_; clear hF a; intro a hF
      refine svg hF rfl ?_
      refine sv hF (v_eqlT rfl rfl) rfl ?_; clear hF a; intro a hF
      refine sv hF (v_pickF rfl rfl) rfl ?_; clear hF a; intro a hF
      refine WL_nil (hK _ _ ?_)
      clear hK K
      replace hF := hF.sub _ (c_ 31 rfl (c_ 7 rfl (c_ 6 rfl (c_ 5 rfl (c_ 0 rfl (c_ 1 rfl (n_)))))))
      refine W_if hF rfl (fun hc3 => ?_) (fun hc3 => ?_)
      · skip
        try simp only [decide_eq_true_eq, decide_eq_false_iff_not, Bool.not_eq_true', Bool.not_eq_false', Bool.not_true, Bool.not_false] at hc3
        refine W_sr rfl (fun K hK => ?_)
        refine sv hF (v_move rfl) rfl ?_; clear hF a; intro a hF
        refine sv hF (v_assign rfl) rfl ?_; clear hF a; intro a hF
        refine WL_nil (hK _ _ ?_)
        clear hK K
        replace hF := hF.sub _ (c_ 6 rfl (c_ 7 rfl (c_ 5 rfl (c_ 0 rfl (c_ 1 rfl (n_))))))
        refine W_ret ?_
        refine ⟨_, _, hF, rfl, ?_⟩
        exact ⟨rfl, hS⟩
      · skip
        try simp only [decide_eq_true_eq, decide_eq_false_iff_not, Bool.not_eq_true', Bool.not_eq_false', Bool.not_true, Bool.not_false] at hc3
        refine W_skip ?_
        have hms : mayS f = true := by assumption
        have hms2 : mayS g = true := by assumption
        have hfg : ¬ f = g := by assumption
        have hml := mayS_len hms
        have hml2 := mayS_len hms2
        refine W_sr rfl (fun K hK => ?_)
        refine sv hF (v_ixA ar46 rfl rfl (by omega) (by omega)) rfl ?_; clear hF a; intro a hF
        refine sv hF (v_load sc5 rfl (hb5.at 0 rfl)) rfl ?_; clear hF a; intro a hF
        refine sv hF (v_ixA ar46 rfl rfl (by omega) (by omega)) rfl ?_; clear hF a; intro a hF
        refine sv hF (v_load sc5 rfl (hb5.at 1 rfl)) rfl ?_; clear hF a; intro a hF
        refine sv hF (v_ixA ar46 rfl rfl (by omega) (by omega)) rfl ?_; clear hF a; intro a hF
        refine sv hF (v_load sc5 rfl (hb5.at 2 rfl)) rfl ?_; clear hF a; intro a hF
        refine sv hF (v_build (cs := #[.int .u8 (n0 : Int), .int .u8 (n1 : Int), .int .u8 (n2 : Int)]) rfl (by kernel_rfl)) rfl ?_; clear hF a; intro a hF
        refine sc hF rfl rfl rfl en13 rfl (Some_ok B n0 n1 n2 _ hS.inv (by omega) (by omega) (by omega)) ?_; clear hF a; intro v w' a hv hF
        obtain ⟨rfl, hS'⟩ := hv
        replace hb5 := hb5.st (by decide) hS'
        replace hS := hS.trans hS'
        clear hS'
        have hmay := some_ok n0 n1 n2
        obtain ⟨mn, hmE⟩ : ∃ m : Nat, 1 + n2 % (maxM ((1 + n0 % 6 : Nat) : Int)).toNat = m := ⟨_, rfl⟩
        obtain ⟨kn, hkE⟩ : ∃ k : Nat, 1 + n1 % 8 = k := ⟨_, rfl⟩
        obtain ⟨p, hpE⟩ : ∃ p : Int, ((1 + n0 % 6 : Nat) : Int) = p := ⟨_, rfl⟩
        rw [hmE, hkE, hpE] at hF hmay
        clear hmE hkE hpE
        have hq := mayP_of hmay
        have hk : 1 ≤ kn ∧ kn ≤ 8 ∧ 1 ≤ mn ∧ mn ≤ 4 := by obtain ⟨-, -, kk, mm, e1, e2, h1, h2, h3, h4, -⟩ := hq; omega
        have hp6 : 1 ≤ p ∧ p ≤ 6 := ⟨hq.1, hq.2.1⟩
        have hs0 := hS.ext.size
        have t0_hb5 := heap_lt hb5
        refine s_allocN (D := FDx) (B := B) (z := .agg #[.int .i64 0, .int .i64 0, .int .i64 0]) hF (by kernel_rfl) (by decide) hS.inv rfl ?_; clear hF a; intro gx w' a hm hI' hx hF
        replace hb5 := hb5.mb hm (by simp)
        replace hS := hS.mb0 hm
        clear hm hI'
        have l0_hx := hx.low
        replace hx := hx.le hs0
        clear hs0
        refine s_storeN (D := FDx) (B := B) hF (by kernel_rfl) rfl rfl (rfl) (by rfl) hx hS.inv ?_; intro w' hm hI' hrc'
        replace hb5 := hb5.mb hm (by simp; omega)
        replace hS := hS.mb hm (fun k h => by cases h; exact hx.low)
        replace hx := hrc'
        clear hm hI' hrc'
        refine WL_nil (hK _ _ ?_)
        clear hK K
        replace hF := hF.sub _ (c_ 8 rfl (c_ 7 rfl (c_ 6 rfl (c_ 5 rfl (c_ 0 rfl (c_ 1 rfl (n_)))))))
        refine W_sr rfl (fun K hK => ?_)
        refine sv hF (v_ixA ar46 rfl rfl (by omega) (by omega)) rfl ?_; clear hF a; intro a hF
        refine sv hF (v_load sc5 rfl (hb5.at 3 rfl)) rfl ?_; clear hF a; intro a hF
        refine sv hF (v_cv Tryd.underlying5 Tryd.underlying3 rfl (wrap_i64 _ (by omega))) rfl ?_; clear hF a; intro a hF
        refine sv hF (v_fieldAddr fa35_1 rfl) rfl ?_; clear hF a; intro a hF
        refine sv hF (v_load sc3 rfl (hx.blk.at 1 rfl)) rfl ?_; clear hF a; intro a hF
        refine sv hF (v_fieldAddr fa35_2 rfl) rfl ?_; clear hF a; intro a hF
        refine sv hF (v_load sc3 rfl (hx.blk.at 2 rfl)) rfl ?_; clear hF a; intro a hF
        refine sv hF ((v_addI rfl rfl (by omega)).as (show Value.int .i64 ((kn : Int) + (mn : Int)) = .int .i64 ((kn + mn : Nat) : Int) by simp)) rfl ?_; clear hF a; intro a hF
        refine sv hF ((v_remI rfl rfl (by omega) (by omega)).as (show Value.int .i64 ((n3 : Int) % ((kn + mn : Nat) : Int)) = .int .i64 ((n3 % (kn + mn) : Nat) : Int) by simp)) rfl ?_; clear hF a; intro a hF
        have hi : n3 % (kn + mn) < kn + mn := Nat.mod_lt _ (by omega)
        obtain ⟨i, hiE⟩ : ∃ i : Nat, n3 % (kn + mn) = i := ⟨_, rfl⟩
        rw [hiE] at hF hi
        clear hiE
        refine sv hF (v_assign rfl) rfl ?_; clear hF a; intro a hF
        refine WL_nil (hK _ _ ?_)
        clear hK K
        replace hF := hF.sub _ (c_ 9 rfl (c_ 8 rfl (c_ 7 rfl (c_ 6 rfl (c_ 0 rfl (c_ 1 rfl (n_)))))))
        refine W_sr rfl (fun K hK => ?_)
        refine sv hF (v_move rfl) rfl ?_; clear hF a; intro a hF
        refine sv hF (v_loadN Tryd.underlying35 rfl (by kernel_rfl) rfl hx.blk) rfl ?_; clear hF a; intro a hF
        refine sv hF (v_move rfl) rfl ?_; clear hF a; intro a hF
        refine sc hF rfl rfl rfl en14 rfl (Shard_ok B f p (kn : Int) (mn : Int) (i : Int) _ hS.inv) ?_; clear hF a; intro v w' a hv hF
        obtain ⟨rfl, hS'⟩ := hv
        replace hb5 := hb5.st (by decide) hS'
        replace hx := hx.st hS'
        replace hS := hS.trans hS'
        clear hS'
        rw [shardR_is hms hmay hi] at hF
        refine sv hF (v_move rfl) rfl ?_; clear hF a; intro a hF
        refine sv hF (v_ext rfl rfl) rfl ?_; clear hF a; intro a hF
        refine sv hF (v_ext rfl rfl) rfl ?_; clear hF a; intro a hF
        refine sv hF (v_assign rfl) rfl ?_; clear hF a; intro a hF
        refine sv hF (v_assign rfl) rfl ?_; clear hF a; intro a hF
        refine WL_nil (hK _ _ ?_)
        clear hK K
        replace hF := hF.sub _ (c_ 11 rfl (c_ 10 rfl (c_ 9 rfl (c_ 8 rfl (c_ 7 rfl (c_ 6 rfl (c_ 0 rfl (c_ 1 rfl (n_)))))))))
        refine W_sr rfl (fun K hK => ?_)
        refine sv hF (v_move rfl) rfl ?_; clear hF a; intro a hF
        refine sv hF (v_loadN Tryd.underlying35 rfl (by kernel_rfl) rfl hx.blk) rfl ?_; clear hF a; intro a hF
        refine sv hF (v_move rfl) rfl ?_; clear hF a; intro a hF
        refine sc hF rfl rfl rfl en14 rfl (Shard_ok B g p (kn : Int) (mn : Int) (i : Int) _ hS.inv) ?_; clear hF a; intro v w' a hv hF
        obtain ⟨rfl, hS'⟩ := hv
        replace hb5 := hb5.st (by decide) hS'
        replace hx := hx.st hS'
        replace hS := hS.trans hS'
        clear hS'
        rw [shardR_is hms2 hmay hi] at hF
        refine sv hF (v_move rfl) rfl ?_; clear hF a; intro a hF
        refine sv hF (v_ext rfl rfl) rfl ?_; clear hF a; intro a hF
        refine sv hF (v_ext rfl rfl) rfl ?_; clear hF a; intro a hF
        refine sv hF (v_assign rfl) rfl ?_; clear hF a; intro a hF
        refine sv hF (v_assign rfl) rfl ?_; clear hF a; intro a hF
        refine WL_nil (hK _ _ ?_)
        clear hK K
        replace hF := hF.sub _ (c_ 13 rfl (c_ 12 rfl (c_ 11 rfl (c_ 10 rfl (c_ 7 rfl (c_ 6 rfl (c_ 0 rfl (n_))))))))
        refine W_sr rfl (fun K hK => ?_)
        refine sv hF (v_move rfl) rfl ?_; clear hF a; intro a hF
        refine sc hF rfl rfl rfl en17 rfl (Temp_ok B (shardN f p kn mn i) _ hS.inv (by have := shardN_len (o := f) (p := p) (k := kn) (m := mn) (i := i); omega)) ?_; clear hF a; intro v w' a hv hF
        obtain ⟨rfl, hS'⟩ := hv
        replace hb5 := hb5.st (by decide) hS'
        replace hx := hx.st hS'
        replace hS := hS.trans hS'
        clear hS'
        refine sc hF rfl rfl rfl en10 rfl (Read_ok B ((shardN f p kn mn i) ++ [126]) _ hS.inv (by have := shardN_len (o := f) (p := p) (k := kn) (m := mn) (i := i); first | omega | (rw [List.length_append, List.length_singleton]; omega))) ?_; clear hF a; intro v w' a hv hF
        obtain ⟨rfl, hS'⟩ := hv
        replace hb5 := hb5.st (by decide) hS'
        replace hx := hx.st hS'
        replace hS := hS.trans hS'
        clear hS'
        rw [rd_temp hms hmay hi] at hF
        refine sv hF (v_move rfl) rfl ?_; clear hF a; intro a hF
        refine sv hF (v_ext rfl rfl) rfl ?_; clear hF a; intro a hF
        refine sv hF (v_ext rfl rfl) rfl ?_; clear hF a; intro a hF
        have hs0 := hS.ext.size
        have t1_hb5 := heap_lt hb5
        have t1_hx := heap_lt hx.blk
        refine s_allocN (D := FDx) (B := B) (z := .agg nmz.cells.toArray) hF (by kernel_rfl) (by decide) hS.inv rfl ?_; clear hF a; intro gb w' a hm hI' hb hF
        replace hb5 := hb5.mb hm (by simp)
        replace hx := hx.mb hm (by simp)
        replace hS := hS.mb0 hm
        clear hm hI'
        have l1_hb := hb.low
        replace hb := hb.le hs0
        clear hs0
        refine s_storeN (D := FDx) (B := B) hF (by kernel_rfl) rfl rfl (rfl) (by rfl) hb hS.inv ?_; intro w' hm hI' hrc'
        replace hb5 := hb5.mb hm (by simp; omega)
        replace hx := hx.mb hm (by simp; omega)
        replace hS := hS.mb hm (fun k h => by cases h; exact hb.low)
        replace hb := hrc'
        clear hm hI' hrc'
        refine sv hF (v_assign rfl) rfl ?_; clear hF a; intro a hF
        refine WL_nil (hK _ _ ?_)
        clear hK K
        replace hF := hF.sub _ (c_ 14 rfl (c_ 13 rfl (c_ 12 rfl (c_ 11 rfl (c_ 10 rfl (c_ 7 rfl (c_ 6 rfl (c_ 0 rfl (n_)))))))))
        refine W_sr rfl (fun K hK => ?_)
        refine sv hF (v_move rfl) rfl ?_; clear hF a; intro a hF
        refine sc hF rfl rfl rfl en10 rfl (Read_ok B (shardN f p kn mn i) _ hS.inv (by have := shardN_len (o := f) (p := p) (k := kn) (m := mn) (i := i); first | omega | (rw [List.length_append, List.length_singleton]; omega))) ?_; clear hF a; intro v w' a hv hF
        obtain ⟨rfl, hS'⟩ := hv
        replace hb5 := hb5.st (by decide) hS'
        replace hx := hx.st hS'
        replace hb := hb.st hS'
        replace hS := hS.trans hS'
        clear hS'
        rw [rd_shard hms hmay hi] at hF
        refine sv hF (v_move rfl) rfl ?_; clear hF a; intro a hF
        refine sv hF (v_ext rfl rfl) rfl ?_; clear hF a; intro a hF
        refine sv hF ((v_ext rfl rfl).as (congrArg Value.bool (rfl))) rfl ?_; clear hF a; intro a hF
        have hs0 := hS.ext.size
        have t2_hb5 := heap_lt hb5
        have t2_hx := heap_lt hx.blk
        have t2_hb := heap_lt hb.blk
        refine s_allocN (D := FDx) (B := B) (z := .agg nmz.cells.toArray) hF (by kernel_rfl) (by decide) hS.inv rfl ?_; clear hF a; intro ga w' a hm hI' ha hF
        replace hb5 := hb5.mb hm (by simp)
        replace hx := hx.mb hm (by simp)
        replace hb := hb.mb hm (by simp)
        replace hS := hS.mb0 hm
        clear hm hI'
        have l2_ha := ha.low
        replace ha := ha.le hs0
        clear hs0
        refine s_storeN (D := FDx) (B := B) hF (by kernel_rfl) rfl rfl (rfl) (by rfl) ha hS.inv ?_; intro w' hm hI' hrc'
        replace hb5 := hb5.mb hm (by simp; omega)
        replace hx := hx.mb hm (by simp; omega)
        replace hb := hb.mb hm (by simp; omega)
        replace hS := hS.mb hm (fun k h => by cases h; exact ha.low)
        replace ha := hrc'
        clear hm hI' hrc'
        refine sv hF (v_assign rfl) rfl ?_; clear hF a; intro a hF
        refine WL_nil (hK _ _ ?_)
        clear hK K
        replace hF := hF.sub _ (c_ 17 rfl (c_ 16 rfl (c_ 14 rfl (c_ 13 rfl (c_ 12 rfl (c_ 11 rfl (c_ 10 rfl (c_ 7 rfl (c_ 6 rfl (c_ 0 rfl (n_)))))))))))
        refine W_sr rfl (fun K hK => ?_)
        refine sv hF (v_move rfl) rfl ?_; clear hF a; intro a hF
        refine sv hF (v_move rfl) rfl ?_; clear hF a; intro a hF
        refine svg hF rfl ?_
        refine sv hF (v_move rfl) rfl ?_; clear hF a; intro a hF
        refine svg hF rfl ?_
        refine sv hF ((v_eql rfl rfl).as (congrArg Value.bool (decide_eq_true (rfl)))) rfl ?_; clear hF a; intro a hF
        refine sv hF (v_pickT rfl rfl) rfl ?_; clear hF a; intro a hF
        refine sv hF (v_move rfl) rfl ?_; clear hF a; intro a hF
        refine svg hF rfl ?_
        refine sv hF (v_move rfl) rfl ?_; clear hF a; intro a hF
        refine svg hF rfl ?_
        refine sv hF ((v_eql rfl rfl).as (congrArg Value.bool (decide_eq_true (rfl)))) rfl ?_; clear hF a; intro a hF
        refine sv hF (v_pickT rfl rfl) rfl ?_; clear hF a; intro a hF
        refine sv hF (v_move rfl) rfl ?_; clear hF a; intro a hF
        refine svg hF rfl ?_
        refine sv hF (v_move rfl) rfl ?_; clear hF a; intro a hF
        refine svg hF rfl ?_
        refine sv hF (v_move rfl) rfl ?_; clear hF a; intro a hF
        refine svg hF rfl ?_
        refine sv hF ((v_neqT rfl rfl).as (congrArg Value.bool (by rw [decide_eq_false (shard_obj hms hms2 hmay hi hfg)]))) rfl ?_; clear hF a; intro a hF
        refine sv hF (v_pickT rfl rfl) rfl ?_; clear hF a; intro a hF
        refine sv hF (v_move rfl) rfl ?_; clear hF a; intro a hF
        refine svg hF rfl ?_
        refine sv hF (v_fieldAddr fa24_7 rfl) rfl ?_; clear hF a; intro a hF
        refine svg hF rfl ?_
        refine sv hF ((v_load sc4 rfl (hb.blk.at 7 (nm_t _ _ _ _ _ _))).as (congrArg Value.bool (rfl))) rfl ?_; clear hF a; intro a hF
        refine sv hF (v_pickT rfl rfl) rfl ?_; clear hF a; intro a hF
        refine sv hF (v_move rfl) rfl ?_; clear hF a; intro a hF
        refine svg hF rfl ?_
        refine sv hF (v_move rfl) rfl ?_; clear hF a; intro a hF
        refine sv hF (v_pickT rfl rfl) rfl ?_; clear hF a; intro a hF
        refine sv hF (v_move rfl) rfl ?_; clear hF a; intro a hF
        refine svg hF rfl ?_
        refine sv hF (v_fieldAddr fa24_7 rfl) rfl ?_; clear hF a; intro a hF
        refine svg hF rfl ?_
        refine sv hF ((v_load sc4 rfl (ha.blk.at 7 (nm_t _ _ _ _ _ _))).as (congrArg Value.bool (rfl))) rfl ?_; clear hF a; intro a hF
        refine svg hF rfl ?_
        refine sv hF (v_not rfl) rfl ?_; clear hF a; intro a hF
        refine sv hF (v_pickT rfl rfl) rfl ?_; clear hF a; intro a hF
        refine sv hF (v_move rfl) rfl ?_; clear hF a; intro a hF
        refine svg hF rfl ?_
        refine sv hF (v_fieldAddr fa24_0 rfl) rfl ?_; clear hF a; intro a hF
        refine svg hF rfl ?_
        refine sv hF (v_load sc9 rfl (ha.blk.at 0 (nm_o _ _ _ _ _ _))) rfl ?_; clear hF a; intro a hF
        refine svg hF rfl ?_
        refine sv hF (v_move rfl) rfl ?_; clear hF a; intro a hF
        refine svg hF rfl ?_
        refine sv hF ((v_eqlT rfl rfl).as (congrArg Value.bool (decide_eq_true (rfl)))) rfl ?_; clear hF a; intro a hF
        refine sv hF (v_pickT rfl rfl) rfl ?_; clear hF a; intro a hF
        refine sv hF (v_move rfl) rfl ?_; clear hF a; intro a hF
        refine svg hF rfl ?_
        refine sv hF (v_move rfl) rfl ?_; clear hF a; intro a hF
        refine svg hF rfl ?_
        refine sc hF rfl rfl rfl en17 rfl (Temp_ok B (shardN f p kn mn i) _ hS.inv (by have := shardN_len (o := f) (p := p) (k := kn) (m := mn) (i := i); omega)) ?_; clear hF a; intro v w' a hv hF
        obtain ⟨rfl, hS'⟩ := hv
        replace hb5 := hb5.st (by decide) hS'
        replace hx := hx.st hS'
        replace hb := hb.st hS'
        replace ha := ha.st hS'
        replace hS := hS.trans hS'
        clear hS'
        refine svg hF rfl ?_
        refine sv hF (v_move rfl) rfl ?_; clear hF a; intro a hF
        refine svg hF rfl ?_
        refine sv hF ((v_neqT rfl rfl).as (congrArg Value.bool (by rw [decide_eq_false (shard_tmp hms hms2 hmay hi)]))) rfl ?_; clear hF a; intro a hF
        refine sv hF (v_pickT rfl rfl) rfl ?_; clear hF a; intro a hF
        refine sv hF (v_assign rfl) rfl ?_; clear hF a; intro a hF
        refine WL_nil (hK _ _ ?_)
        clear hK K
        replace hF := hF.sub _ (c_ 6 rfl (n_))
        refine W_ret ?_
        refine ⟨_, _, hF, rfl, ?_⟩
        exact ⟨rfl, hS⟩

end Go.Proofs.YtkoiolamnnmokaaDoor
