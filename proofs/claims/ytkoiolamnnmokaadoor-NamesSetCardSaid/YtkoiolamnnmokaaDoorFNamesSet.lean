/- The statement NamesSet, walked: it returns true. -/
import Derived.Test.YtkoiolamnnmokaaDoorFAw15
set_option linter.unusedVariables false
set_option linter.unusedSimpArgs false
namespace Go.Proofs.YtkoiolamnnmokaaDoor
open Go Go.Gam


namespace FxFNamesSet
theorem en9 : Ent Tryd.prog 9 := ent Tryd.func9 (by kernel_rfl) (by kernel_rfl)
theorem en13 : Ent Tryd.prog 13 := ent Tryd.func13 (by kernel_rfl) (by kernel_rfl)
theorem en14 : Ent Tryd.prog 14 := ent Tryd.func14 (by kernel_rfl) (by kernel_rfl)
theorem en16 : Ent Tryd.prog 16 := ent Tryd.func16 (by kernel_rfl) (by kernel_rfl)
theorem en18 : Ent Tryd.prog 18 := ent Tryd.func18 (by kernel_rfl) (by kernel_rfl)
theorem en21 : Ent Tryd.prog 21 := ent Tryd.func21 (by kernel_rfl) (by kernel_rfl)
theorem fa35_1 : FieldFact Tryd.prog 35 1 1 := ff_of (sz := 0) Tryd.underlying35 (by kernel_rfl)
theorem fa35_2 : FieldFact Tryd.prog 35 2 2 := ff_of (sz := 0) Tryd.underlying35 (by kernel_rfl)
theorem hmix : Tryd.prog.follows .mixedOrders = true := by kernel_rfl
theorem sc3 : Scalar Tryd.prog 3 := ⟨_, Tryd.underlying3, by simp, by simp⟩
theorem sc9 : Scalar Tryd.prog 9 := ⟨_, Tryd.underlying9, by simp, by simp⟩
theorem sl54 : Sl Tryd.prog 54 9 (.string ⟨#[]⟩) 16 := sl_of Tryd.underlying54 rfl (by kernel_rfl)
end FxFNamesSet
open FxFNamesSet

set_option maxRecDepth 100000 in
set_option maxHeartbeats 1000000 in
theorem NamesSet_ok (B n0 n1 n2 : Nat) (f : List UInt8) (w : World) (hI : Inv FDx B w) (h0 : n0 < 256) (h1 : n1 < 256) (h2 : n2 < 256) (hfl : f.length ≤ maxLen) : Ret Tryd.prog 8 [.agg #[.int .u8 (n0 : Int), .int .u8 (n1 : Int), .int .u8 (n2 : Int)], .string (str f)] w fun v w' => v = .bool true ∧ St FDx B w w' := by
  refine enter 95 [(0, .agg #[.int .u8 (n0 : Int), .int .u8 (n1 : Int), .int .u8 (n2 : Int)]), (1, .string (str f))] 4 Tryd.func8 rfl rfl rfl rfl rfl ?_; intro a hF
  have hS := St.refl hI
  refine W_sr rfl (fun K hK => ?_)
  refine s_box (D := FDx) (B := B) hF rfl (by decide) hS.inv rfl ?_; clear hF a; intro w' a hm hb2 hsz hF
  replace hS := hS.mb0 hm
  clear hm
  refine sv hF (v_assign rfl) rfl ?_; clear hF a; intro a hF
  refine WL_nil (hK _ _ ?_)
  clear hK K
  replace hF := hF.sub _ (c_ 4 rfl (c_ 2 rfl (c_ 1 rfl (n_))))
  refine W_sr rfl (fun K hK => ?_)
  refine sc hF rfl rfl rfl en9 rfl (aw15_ok B _ hS.inv) ?_; clear hF a; intro v w' a hv hF
  obtain ⟨rfl, hS'⟩ := hv
  replace hb2 := hb2.st (by decide) hS'
  replace hS := hS.trans hS'
  clear hS'
  refine sv hF (v_assign rfl) rfl ?_; clear hF a; intro a hF
  refine WL_nil (hK _ _ ?_)
  clear hK K
  replace hF := hF.sub _ (c_ 5 rfl (c_ 4 rfl (c_ 2 rfl (c_ 1 rfl (n_)))))
  refine W_sr rfl (fun K hK => ?_)
  refine sv hF (v_loadN Tryd.underlying32 rfl (by kernel_rfl) rfl hb2) rfl ?_; clear hF a; intro a hF
  refine sc hF rfl rfl rfl en13 rfl (Some_ok B n0 n1 n2 _ hS.inv (by omega) (by omega) (by omega)) ?_; clear hF a; intro v w' a hv hF
  obtain ⟨rfl, hS'⟩ := hv
  replace hb2 := hb2.st (by decide) hS'
  replace hS := hS.trans hS'
  clear hS'
  have hmay := some_ok n0 n1 n2
  obtain ⟨mn, hmE⟩ : ∃ m : Nat, 1 + n2 % (maxM ((1 + n0 % 6 : Nat) : Int)).toNat = m := ⟨_, rfl⟩
  obtain ⟨kn, hkE⟩ : ∃ k : Nat, 1 + n1 % 8 = k := ⟨_, rfl⟩
  obtain ⟨p, hpE⟩ : ∃ p : Int, ((1 + n0 % 6 : Nat) : Int) = p := ⟨_, rfl⟩
  rw [hmE, hkE, hpE] at hF hmay
  clear hmE hkE hpE
  have hq := mayP_of hmay
  have hk : 1 ≤ kn ∧ kn ≤ 8 ∧ 1 ≤ mn ∧ mn ≤ 4 := by obtain ⟨-, -, kk, mm, e1, e2, h1, h2, h3, h4, -⟩ := hq; omega
  have hp6 : 1 ≤ p ∧ p ≤ 6 := ⟨hq.1, hq.2.1⟩
  have hs0 := hS.ext.size
  have t0_hb2 := heap_lt hb2
  refine s_allocN (D := FDx) (B := B) (z := .agg #[.int .i64 0, .int .i64 0, .int .i64 0]) hF (by kernel_rfl) (by decide) hS.inv rfl ?_; clear hF a; intro gx w' a hm hI' hx hF
  replace hb2 := hb2.mb hm (by simp)
  replace hS := hS.mb0 hm
  clear hm hI'
  have l0_hx := hx.low
  replace hx := hx.le hs0
  clear hs0
  refine s_storeN (D := FDx) (B := B) hF (by kernel_rfl) rfl rfl (rfl) (by rfl) hx hS.inv ?_; intro w' hm hI' hrc'
  replace hb2 := hb2.mb hm (by simp; omega)
  replace hS := hS.mb hm (fun k h => by cases h; exact hx.low)
  replace hx := hrc'
  clear hm hI' hrc'
  refine WL_nil (hK _ _ ?_)
  clear hK K
  replace hF := hF.sub _ (c_ 6 rfl (c_ 5 rfl (c_ 4 rfl (c_ 1 rfl (n_)))))
  refine W_seq ?_
  refine W_sr rfl (fun K hK => ?_)
  refine sv hF (v_move rfl) rfl ?_; clear hF a; intro a hF
  refine sc hF rfl rfl rfl en16 rfl (rMay15_ok B f _ hS.inv) ?_; clear hF a; intro v w' a hv hF
  obtain ⟨rfl, hS'⟩ := hv
  replace hb2 := hb2.st (by decide) hS'
  replace hx := hx.st hS'
  replace hS := hS.trans hS'
  clear hS'
  refine sv hF (v_not rfl) rfl ?_; clear hF a; intro a hF
  refine WL_nil (hK _ _ ?_)
  clear hK K
  replace hF := hF.sub _ (c_ 20 rfl (c_ 6 rfl (c_ 5 rfl (c_ 4 rfl (c_ 1 rfl (n_))))))
  refine W_if hF rfl (fun hc1 => ?_) (fun hc1 => ?_)
  · skip
    try simp only [decide_eq_true_eq, decide_eq_false_iff_not, Bool.not_eq_true', Bool.not_eq_false', Bool.not_true, Bool.not_false] at hc1
    refine W_sr rfl (fun K hK => ?_)
    refine sv hF (v_move rfl) rfl ?_; clear hF a; intro a hF
    refine sv hF (v_assign rfl) rfl ?_; clear hF a; intro a hF
    refine WL_nil (hK _ _ ?_)
    clear hK K
    replace hF := hF.sub _ (c_ 4 rfl (c_ 6 rfl (c_ 5 rfl (c_ 1 rfl (n_)))))
    refine W_ret ?_
    refine ⟨_, _, hF, rfl, ?_⟩
    exact ⟨rfl, hS⟩
  · skip
    try simp only [decide_eq_true_eq, decide_eq_false_iff_not, Bool.not_eq_true', Bool.not_eq_false', Bool.not_true, Bool.not_false] at hc1
    have hms : mayS f = true := by simp_all
    have hml := mayS_len hms
    refine W_skip ?_
    refine W_sr rfl (fun K hK => ?_)
    refine sv hF (v_move rfl) rfl ?_; clear hF a; intro a hF
    refine sv hF (v_loadN Tryd.underlying35 rfl (by kernel_rfl) rfl hx.blk) rfl ?_; clear hF a; intro a hF
    refine sc hF rfl rfl rfl en21 rfl (Set_ok B f p (kn : Int) (mn : Int) _ hS.inv) ?_; clear hF a; intro v w' a hv hF
    obtain ⟨u, ob, rfl, hO, hS'⟩ := hv
    rw [setR_is hms hmay] at hO hF
    obtain ⟨pa, ca, rfl⟩ := hO.shape
    have hA := hO.row (by decide)
    rw [strs_length, List.length_map, List.length_range] at hA hF
    clear hO
    replace hb2 := hb2.st (by decide) hS'
    replace hx := hx.st hS'
    replace hS := hS.trans hS'
    clear hS'
    refine sv hF (v_move rfl) rfl ?_; clear hF a; intro a hF
    refine sv hF (v_ext rfl rfl) rfl ?_; clear hF a; intro a hF
    refine sv hF (v_ext rfl rfl) rfl ?_; clear hF a; intro a hF
    refine sv hF (v_assign rfl) rfl ?_; clear hF a; intro a hF
    refine sv hF (v_assign rfl) rfl ?_; clear hF a; intro a hF
    refine WL_nil (hK _ _ ?_)
    clear hK K
    replace hF := hF.sub _ (c_ 8 rfl (c_ 7 rfl (c_ 6 rfl (c_ 5 rfl (c_ 4 rfl (c_ 1 rfl (n_)))))))
    refine W_sr rfl (fun K hK => ?_)
    refine sv hF (v_move rfl) rfl ?_; clear hF a; intro a hF
    refine sc hF rfl rfl rfl en18 rfl (Sidecar_ok B f _ hS.inv) ?_; clear hF a; intro v w' a hv hF
    obtain ⟨rfl, hS'⟩ := hv
    replace hb2 := hb2.st (by decide) hS'
    replace hx := hx.st hS'
    replace hA := (hA.st hS').mono hS'.ext.size
    replace hS := hS.trans hS'
    clear hS'
    rw [show sideR f = (f ++ 46 :: sideL, 0) from if_pos hms] at hF
    refine sv hF (v_move rfl) rfl ?_; clear hF a; intro a hF
    refine sv hF (v_ext rfl rfl) rfl ?_; clear hF a; intro a hF
    refine sv hF (v_ext rfl rfl) rfl ?_; clear hF a; intro a hF
    refine sv hF (v_assign rfl) rfl ?_; clear hF a; intro a hF
    refine sv hF (v_assign rfl) rfl ?_; clear hF a; intro a hF
    refine WL_nil (hK _ _ ?_)
    clear hK K
    replace hF := hF.sub _ (c_ 10 rfl (c_ 9 rfl (c_ 8 rfl (c_ 7 rfl (c_ 6 rfl (c_ 5 rfl (c_ 4 rfl (c_ 1 rfl (n_)))))))))
    refine W_seq ?_
    refine W_sr rfl (fun K hK => ?_)
    refine sv hF (v_move rfl) rfl ?_; clear hF a; intro a hF
    refine sv hF ((v_neq rfl rfl).as (congrArg Value.bool (decide_eq_false (fun h => h rfl)))) rfl ?_; clear hF a; intro a hF
    refine sv hF (v_move rfl) rfl ?_; clear hF a; intro a hF
    refine svg hF rfl ?_
    refine sv hF (v_move rfl) rfl ?_; clear hF a; intro a hF
    refine svg hF rfl ?_
    refine sv hF ((v_neq rfl rfl).as (congrArg Value.bool (decide_eq_false (fun h => h rfl)))) rfl ?_; clear hF a; intro a hF
    refine sv hF (v_pickF rfl rfl) rfl ?_; clear hF a; intro a hF
    refine sv hF (v_move rfl) rfl ?_; clear hF a; intro a hF
    refine svg hF rfl ?_
    refine sv hF (v_move rfl) rfl ?_; clear hF a; intro a hF
    refine svg hF rfl ?_
    refine sv hF (v_lenS rfl sl54 rfl) rfl ?_; clear hF a; intro a hF
    refine svg hF rfl ?_
    refine sv hF (v_fieldAddr fa35_1 rfl) rfl ?_; clear hF a; intro a hF
    refine svg hF rfl ?_
    refine sv hF (v_load sc3 rfl (hx.blk.at 1 rfl)) rfl ?_; clear hF a; intro a hF
    refine svg hF rfl ?_
    refine sv hF (v_fieldAddr fa35_2 rfl) rfl ?_; clear hF a; intro a hF
    refine svg hF rfl ?_
    refine sv hF (v_load sc3 rfl (hx.blk.at 2 rfl)) rfl ?_; clear hF a; intro a hF
    refine svg hF rfl ?_
    refine sv hF ((v_addI rfl rfl (by omega)).as (show Value.int .i64 ((kn : Int) + (mn : Int)) = .int .i64 ((kn + mn : Nat) : Int) by simp)) rfl ?_; clear hF a; intro a hF
    refine svg hF rfl ?_
    refine sv hF ((v_neq rfl rfl).as (congrArg Value.bool (decide_eq_false (fun h => h rfl)))) rfl ?_; clear hF a; intro a hF
    refine sv hF (v_pickF rfl rfl) rfl ?_; clear hF a; intro a hF
    refine WL_nil (hK _ _ ?_)
    clear hK K
    replace hF := hF.sub _ (c_ 48 rfl (c_ 9 rfl (c_ 7 rfl (c_ 6 rfl (c_ 5 rfl (c_ 4 rfl (c_ 1 rfl (n_))))))))
    refine W_ifF hF rfl ?_
    refine W_skip ?_
    refine W_seq ?_
    obtain ⟨KA, hKe⟩ : ∃ K, K = w'.heap.size := ⟨_, rfl⟩
    have hKA : KA ≤ w'.heap.size := by omega
    rw [← hKe] at hA
    clear hKe
    refine W_sr rfl (fun K hK => ?_)
    refine sv hF (v_assign rfl) rfl ?_; clear hF a; intro a hF
    refine WL_nil (hK _ _ ?_)
    clear hK K
    replace hF := hF.sub _ (c_ 11 rfl (c_ 9 rfl (c_ 7 rfl (c_ 6 rfl (c_ 5 rfl (c_ 4 rfl (c_ 1 rfl (n_))))))))
    refine W_block ?_
    refine W_loop (fun q a w1 => ∃ (i : Nat), Fr 95 [(1, .string (str f)), (5, .bool true), (6, .pointer (some ⟨gx, 0, none⟩)), (7, .slice pa (kn + mn) ca), (9, .string (str (f ++ 46 :: sideL))), (11, .int .i64 (i : Int))] a ∧ (St FDx B w w1) ∧ (RecB FDx B w.heap.size w1 gx 35 [.int .i64 p, .int .i64 (kn : Int), .int .i64 (mn : Int)]) ∧ (Row FDx B KA w1 (.slice pa (kn + mn) ca) (strs ((List.range (kn + mn)).map fun i => shardN f p kn mn i))) ∧ (KA ≤ w1.heap.size) ∧ (i ≤ kn + mn) ∧ (q + i = kn + mn)) (kn + mn) ?_ ?_
    · skip
      exact ⟨0, hF.sub _ (c_ 1 rfl (c_ 5 rfl (c_ 6 rfl (c_ 7 rfl (c_ 9 rfl (c_ 11 rfl (n_))))))), hS, hx, hA, hKA, by omega, by omega⟩
    · skip
      clear hF
      clear hS hx hA hKA
      rintro q a w1 ⟨i, hF, hS, hx, hA, hKA, hi, hq⟩
      refine W_seq ?_
      refine W_sr rfl (fun K hK => ?_)
      refine sv hF (v_move rfl) rfl ?_; clear hF a; intro a hF
      refine sv hF (v_move rfl) rfl ?_; clear hF a; intro a hF
      refine sv hF (v_lenS rfl sl54 rfl) rfl ?_; clear hF a; intro a hF
      refine sv hF (v_lss rfl rfl) rfl ?_; clear hF a; intro a hF
      refine WL_nil (hK _ _ ?_)
      clear hK K
      replace hF := hF.sub _ (c_ 52 rfl (c_ 1 rfl (c_ 5 rfl (c_ 6 rfl (c_ 7 rfl (c_ 9 rfl (c_ 11 rfl (n_))))))))
      refine W_if hF rfl (fun hc2 => ?_) (fun hc2 => ?_)
      · skip
        try simp only [decide_eq_true_eq, decide_eq_false_iff_not, Bool.not_eq_true', Bool.not_eq_false', Bool.not_true, Bool.not_false] at hc2
        have hlt : i < kn + mn := by omega
        refine W_skip ?_
        refine W_seq ?_
        refine W_block ?_
        refine W_sr rfl (fun K hK => ?_)
        refine sv hF (v_move rfl) rfl ?_; clear hF a; intro a hF
        refine sv hF (v_loadN Tryd.underlying35 rfl (by kernel_rfl) rfl hx.blk) rfl ?_; clear hF a; intro a hF
        refine sv hF (v_move rfl) rfl ?_; clear hF a; intro a hF
        refine sc hF rfl rfl rfl en14 rfl (Shard_ok B f p (kn : Int) (mn : Int) (i : Int) _ hS.inv) ?_; clear hF a; intro v w' a hv hF
        obtain ⟨rfl, hS'⟩ := hv
        replace hx := hx.st hS'
        replace hA := hA.st hS'
        replace hKA := Nat.le_trans hKA hS'.ext.size
        replace hS := hS.trans hS'
        clear hS'
        rw [shardR_is hms hmay hlt] at hF
        refine sv hF (v_move rfl) rfl ?_; clear hF a; intro a hF
        refine sv hF (v_ext rfl rfl) rfl ?_; clear hF a; intro a hF
        refine sv hF (v_ext rfl rfl) rfl ?_; clear hF a; intro a hF
        refine sv hF (v_assign rfl) rfl ?_; clear hF a; intro a hF
        refine sv hF (v_assign rfl) rfl ?_; clear hF a; intro a hF
        refine WL_nil (hK _ _ ?_)
        clear hK K
        replace hF := hF.sub _ (c_ 13 rfl (c_ 12 rfl (c_ 1 rfl (c_ 5 rfl (c_ 6 rfl (c_ 7 rfl (c_ 9 rfl (c_ 11 rfl (n_)))))))))
        refine W_seq ?_
        obtain ⟨g1, og1, hg1, hkg1, -⟩ := hA.kat (strs_at (show ((List.range (kn + mn)).map fun i => shardN f p kn mn i)[i]? = some (shardN f p kn mn i) by rw [List.getElem?_map, List.getElem?_range (by omega)]; rfl))
        rw [hg1] at hF
        refine W_sr rfl (fun K hK => ?_)
        refine sv hF (v_move rfl) rfl ?_; clear hF a; intro a hF
        refine sv hF ((v_neq rfl rfl).as (congrArg Value.bool (decide_eq_false (fun h => h rfl)))) rfl ?_; clear hF a; intro a hF
        refine sv hF (v_move rfl) rfl ?_; clear hF a; intro a hF
        refine svg hF rfl ?_
        refine sv hF (v_move rfl) rfl ?_; clear hF a; intro a hF
        refine svg hF rfl ?_
        refine sv hF (v_move rfl) rfl ?_; clear hF a; intro a hF
        refine svg hF rfl ?_
        refine sv hF (v_move rfl) rfl ?_; clear hF a; intro a hF
        refine svg hF rfl ?_
        refine sv hF (v_ixS sl54 rfl rfl (by omega) (by omega)) rfl ?_; clear hF a; intro a hF
        refine svg hF rfl ?_
        refine sv hF (v_load sc9 rfl (by rw [toNat_c]; exact hkg1.c)) rfl ?_; clear hF a; intro a hF
        refine svg hF rfl ?_
        refine sv hF ((v_neqT (a := shardN f p kn mn i) (b := shardN f p kn mn i) rfl rfl).as (congrArg Value.bool (show (!decide (shardN f p kn mn i = shardN f p kn mn i)) = false by simp))) rfl ?_; clear hF a; intro a hF
        refine sv hF (v_pickF rfl rfl) rfl ?_; clear hF a; intro a hF
        refine sv hF (v_move rfl) rfl ?_; clear hF a; intro a hF
        refine svg hF rfl ?_
        refine sv hF (v_move rfl) rfl ?_; clear hF a; intro a hF
        refine svg hF rfl ?_
        refine sv hF (v_move rfl) rfl ?_; clear hF a; intro a hF
        refine svg hF rfl ?_
        refine sv hF (v_ixS sl54 rfl rfl (by omega) (by omega)) rfl ?_; clear hF a; intro a hF
        refine svg hF rfl ?_
        refine sv hF (v_load sc9 rfl (by rw [toNat_c]; exact hkg1.c)) rfl ?_; clear hF a; intro a hF
        refine svg hF rfl ?_
        refine sv hF (v_move rfl) rfl ?_; clear hF a; intro a hF
        refine svg hF rfl ?_
        refine sv hF ((v_eqlT rfl rfl).as (congrArg Value.bool (decide_eq_false (shard_side hms hmay hlt)))) rfl ?_; clear hF a; intro a hF
        refine sv hF (v_pickF rfl rfl) rfl ?_; clear hF a; intro a hF
        refine WL_nil (hK _ _ ?_)
        clear hK K
        replace hF := hF.sub _ (c_ 79 rfl (c_ 1 rfl (c_ 5 rfl (c_ 6 rfl (c_ 7 rfl (c_ 9 rfl (c_ 11 rfl (n_))))))))
        rw [← hg1] at hF
        refine W_ifF hF rfl ?_
        refine W_skip ?_
        refine W_sr rfl (fun K hK => ?_)
        refine sv hF (v_assign rfl) rfl ?_; clear hF a; intro a hF
        refine WL_nil (hK _ _ ?_)
        clear hK K
        replace hF := hF.sub _ (c_ 14 rfl (c_ 1 rfl (c_ 5 rfl (c_ 6 rfl (c_ 7 rfl (c_ 9 rfl (c_ 11 rfl (n_))))))))
        refine W_block ?_
        refine W_loop (fun q2 a w2 => ∃ (j : Nat), Fr 95 [(1, .string (str f)), (5, .bool true), (6, .pointer (some ⟨gx, 0, none⟩)), (7, .slice pa (kn + mn) ca), (9, .string (str (f ++ 46 :: sideL))), (11, .int .i64 (i : Int)), (14, .int .i64 (j : Int))] a ∧ (St FDx B w w2) ∧ (RecB FDx B w.heap.size w2 gx 35 [.int .i64 p, .int .i64 (kn : Int), .int .i64 (mn : Int)]) ∧ (Row FDx B KA w2 (.slice pa (kn + mn) ca) (strs ((List.range (kn + mn)).map fun i => shardN f p kn mn i))) ∧ (KA ≤ w2.heap.size) ∧ (j ≤ i) ∧ (q2 + j = i)) (i) ?_ ?_
        · skip
          exact ⟨0, hF.sub _ (c_ 1 rfl (c_ 5 rfl (c_ 6 rfl (c_ 7 rfl (c_ 9 rfl (c_ 11 rfl (c_ 14 rfl (n_)))))))), hS, hx, hA, hKA, by omega, by omega⟩
        · skip
          clear hF
          clear hS hx hA hKA
          rintro q2 a w2 ⟨j, hF, hS, hx, hA, hKA, hj, hq2⟩
          refine W_seq ?_
          refine W_sr rfl (fun K hK => ?_)
          refine sv hF (v_move rfl) rfl ?_; clear hF a; intro a hF
          refine sv hF (v_move rfl) rfl ?_; clear hF a; intro a hF
          refine sv hF (v_lss rfl rfl) rfl ?_; clear hF a; intro a hF
          refine WL_nil (hK _ _ ?_)
          clear hK K
          replace hF := hF.sub _ (c_ 82 rfl (c_ 1 rfl (c_ 5 rfl (c_ 6 rfl (c_ 7 rfl (c_ 9 rfl (c_ 11 rfl (c_ 14 rfl (n_)))))))))
          refine W_if hF rfl (fun hc3 => ?_) (fun hc3 => ?_)
          · skip
            try simp only [decide_eq_true_eq, decide_eq_false_iff_not, Bool.not_eq_true', Bool.not_eq_false', Bool.not_true, Bool.not_false] at hc3
            have hlt2 : j < i := by omega
            refine W_skip ?_
            refine W_seq ?_
            refine W_block ?_
            obtain ⟨g1, og1, hg1, hkg1, -⟩ := hA.kat (strs_at (show ((List.range (kn + mn)).map fun i => shardN f p kn mn i)[i]? = some (shardN f p kn mn i) by rw [List.getElem?_map, List.getElem?_range (by omega)]; rfl))
            obtain ⟨g2, og2, hg2, hkg2, -⟩ := hA.kat (strs_at (show ((List.range (kn + mn)).map fun i => shardN f p kn mn i)[j]? = some (shardN f p kn mn j) by rw [List.getElem?_map, List.getElem?_range (by omega)]; rfl))
            rw [hg1] at hF hg2
            cases hg2
            refine W_sd (m := 9) rfl hmix hS.inv (fun K hK w1 hS' hh => ?_)
            replace hx := hx.st hS'
            replace hA := hA.st hS'
            replace hKA := Nat.le_trans hKA hS'.ext.size
            replace hkg1 := hkg1.st hS'
            replace hkg2 := hkg2.st hS'
            replace hS := hS.trans hS'
            clear hS'
            clear hh
            refine a_v (i := 0) rfl (by kernel_rfl) hF (fun w2 hx => v_move rfl) rfl ?_; clear hF a; intro a hF
            refine a_v (i := 1) rfl (by kernel_rfl) hF (fun w2 hx => v_move rfl) rfl ?_; clear hF a; intro a hF
            refine a_v (i := 2) rfl (by kernel_rfl) hF (fun w2 hx => v_ixS sl54 rfl rfl (by omega) (by omega)) rfl ?_; clear hF a; intro a hF
            refine a_v (i := 3) rfl (by kernel_rfl) hF (fun w2 hx => v_load sc9 rfl (by rw [toNat_c]; exact KC.ld hkg2 hx)) rfl ?_; clear hF a; intro a hF
            refine a_v (i := 4) rfl (by kernel_rfl) hF (fun w2 hx => v_move rfl) rfl ?_; clear hF a; intro a hF
            refine a_v (i := 5) rfl (by kernel_rfl) hF (fun w2 hx => v_move rfl) rfl ?_; clear hF a; intro a hF
            refine a_v (i := 6) rfl (by kernel_rfl) hF (fun w2 hx => v_ixS sl54 rfl rfl (by omega) (by omega)) rfl ?_; clear hF a; intro a hF
            refine a_v (i := 7) rfl (by kernel_rfl) hF (fun w2 hx => v_load sc9 rfl (by rw [toNat_c]; exact KC.ld hkg1 hx)) rfl ?_; clear hF a; intro a hF
            refine a_v (i := 8) rfl (by kernel_rfl) hF (fun w2 hx => (v_eqlT rfl rfl).as (congrArg Value.bool (decide_eq_false (shard_ne hms hmay (by omega) hlt (by omega))))) rfl ?_; clear hF a; intro a hF
            refine a_done (by kernel_rfl) (hK _ _ ?_)
            clear hK K
            replace hF := hF.sub _ (c_ 93 rfl (c_ 1 rfl (c_ 5 rfl (c_ 6 rfl (c_ 7 rfl (c_ 9 rfl (c_ 11 rfl (c_ 14 rfl (n_)))))))))
            rw [← hg1] at hF
            refine W_ifF hF rfl ?_
            refine W_skip ?_
            refine W_reg rfl (fun K hK => ?_)
            refine sv hF (v_move rfl) rfl ?_; clear hF a; intro a hF
            refine sv hF (v_addI rfl rfl (by omega)) rfl ?_; clear hF a; intro a hF
            refine sv hF (v_assign rfl) rfl ?_; clear hF a; intro a hF
            refine WL_nil (hK _ _ ?_)
            clear hK K
            replace hF := hF.sub _ (c_ 14 rfl (c_ 84 rfl (c_ 83 rfl (c_ 1 rfl (c_ 5 rfl (c_ 6 rfl (c_ 7 rfl (c_ 9 rfl (c_ 11 rfl (n_))))))))))
            exact ⟨q2 - 1, by omega, j + 1, hF.sub _ (c_ 1 rfl (c_ 5 rfl (c_ 6 rfl (c_ 7 rfl (c_ 9 rfl (c_ 11 rfl (c_ 14 rfl (n_)))))))), hS, hx, hA, hKA, by omega, by omega⟩
          · skip
            try simp only [decide_eq_true_eq, decide_eq_false_iff_not, Bool.not_eq_true', Bool.not_eq_false', Bool.not_true, Bool.not_false] at hc3
            refine W_exit rfl ?_
            refine W_reg rfl (fun K hK => ?_)
            refine sv hF (v_move rfl) rfl ?_; clear hF a; intro a hF
            refine sv hF (v_addI rfl rfl (by omega)) rfl ?_; clear hF a; intro a hF
            refine sv hF (v_assign rfl) rfl ?_; clear hF a; intro a hF
            refine WL_nil (hK _ _ ?_)
            clear hK K
            replace hF := hF.sub _ (c_ 11 rfl (c_ 54 rfl (c_ 53 rfl (c_ 1 rfl (c_ 5 rfl (c_ 6 rfl (c_ 7 rfl (c_ 9 rfl (c_ 14 rfl (n_))))))))))
            exact ⟨q - 1, by omega, i + 1, hF.sub _ (c_ 1 rfl (c_ 5 rfl (c_ 6 rfl (c_ 7 rfl (c_ 9 rfl (c_ 11 rfl (n_))))))), hS, hx, hA, hKA, by omega, by omega⟩
      · skip
        try simp only [decide_eq_true_eq, decide_eq_false_iff_not, Bool.not_eq_true', Bool.not_eq_false', Bool.not_true, Bool.not_false] at hc2
        refine W_exit rfl ?_
        refine W_sr rfl (fun K hK => ?_)
        refine sv hF (v_move rfl) rfl ?_; clear hF a; intro a hF
        refine sv hF (v_assign rfl) rfl ?_; clear hF a; intro a hF
        refine WL_nil (hK _ _ ?_)
        clear hK K
        replace hF := hF.sub _ (c_ 4 rfl (c_ 94 rfl (c_ 1 rfl (c_ 5 rfl (c_ 6 rfl (c_ 7 rfl (c_ 9 rfl (c_ 11 rfl (n_)))))))))
        refine W_ret ?_
        refine ⟨_, _, hF, rfl, ?_⟩
        exact ⟨rfl, hS⟩

end Go.Proofs.YtkoiolamnnmokaaDoor
