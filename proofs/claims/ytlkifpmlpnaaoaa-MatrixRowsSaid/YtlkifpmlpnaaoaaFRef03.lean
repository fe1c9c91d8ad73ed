/- The walks of gambrelref03: what the document asks of regions. -/
import Derived.Test.YtlkifpmlpnaaoaaFRef02
import Derived.Test.YtlkifpmlpnaaoaaGReg
set_option linter.unusedVariables false
set_option linter.unusedSimpArgs false
namespace Go.Proofs.Ytlkifpmlpnaaoaa
open Go Go.Gam


namespace FxFRef03
theorem en18 : Ent Try.prog 18 := ent Try.func18 (by kernel_rfl) (by kernel_rfl)
theorem en20 : Ent Try.prog 20 := ent Try.func20 (by kernel_rfl) (by kernel_rfl)
theorem en37 : Ent Try.prog 37 := ent Try.func37 (by kernel_rfl) (by kernel_rfl)
theorem en38 : Ent Try.prog 38 := ent Try.func38 (by kernel_rfl) (by kernel_rfl)
theorem en39 : Ent Try.prog 39 := ent Try.func39 (by kernel_rfl) (by kernel_rfl)
theorem en64 : Ent Try.prog 64 := ent Try.func64 (by kernel_rfl) (by kernel_rfl)
theorem hmix : Try.prog.follows .mixedOrders = true := by kernel_rfl
theorem sc22 : Scalar Try.prog 22 := ⟨_, Try.underlying22, by simp, by simp⟩
theorem sc3 : Scalar Try.prog 3 := ⟨_, Try.underlying3, by simp, by simp⟩
theorem sc5 : Scalar Try.prog 5 := ⟨_, Try.underlying5, by simp, by simp⟩
theorem sl22 : Sl Try.prog 22 5 (.int .u8 0) 1 := sl_of Try.underlying22 rfl (by kernel_rfl)
theorem sl23 : Sl Try.prog 23 3 (.int .i64 0) 8 := sl_of Try.underlying23 rfl (by kernel_rfl)
theorem sl59 : Sl Try.prog 59 22 (.slice none 0 0) 24 := sl_of Try.underlying59 rfl (by kernel_rfl)
end FxFRef03
open FxFRef03

set_option maxRecDepth 100000 in
set_option maxHeartbeats 1000000 in
theorem rWords_ok (B M wb : Nat) (hw : wb = 8 ∨ wb = 16) (sa : Option Addr) (cp : Nat) (bs : List Nat) (w : World) (hI : Inv FDx B w) (hbs : Row FDx B M w (.slice sa bs.length cp) (byt bs)) (hM : M ≤ w.heap.size) (h8 : ∀ x ∈ bs, x < 256) (hlen : bs.length ≤ 100000) : Ret Try.prog 18 [.int .i64 (wb : Int), .slice sa bs.length cp] w fun v w' => ∃ sl ob, v = .tuple #[sl, .bool (decide (bs.length % (wb / 8) = 0))] ∧ Gam.Own FDx B w.heap.size w' FDx.E sl ob (ints (wordsN (wb / 8) bs)) ∧ St FDx B w w' := by
  refine enter2 47 [(0, .int .i64 (wb : Int)), (1, .slice sa bs.length cp)] 4 5 Try.func18 rfl rfl rfl rfl rfl ?_; intro a hF
  have hS := St.refl hI
  obtain ⟨nn, hnn⟩ : ∃ nn, nn = wb / 8 := ⟨_, rfl⟩
  have h12 : nn = 1 ∨ nn = 2 := by omega
  refine W_sr rfl (fun K hK => ?_)
  refine sv hF (v_assign rfl) rfl ?_; clear hF a; intro a hF
  refine sv hF (v_assign rfl) rfl ?_; clear hF a; intro a hF
  refine WL_nil (hK _ _ ?_)
  clear hK K
  refine W_sr rfl (fun K hK => ?_)
  refine sv hF (v_assign rfl) rfl ?_; clear hF a; intro a hF
  refine WL_nil (hK _ _ ?_)
  clear hK K
  refine W_sr rfl (fun K hK => ?_)
  refine sv hF (v_move rfl) rfl ?_; clear hF a; intro a hF
  refine sv hF ((v_quoN (m := wb) (n := 8) rfl rfl (by decide) (fits_i64 (by omega))).as (congrArg _ (show ((wb / 8 : Nat) : Int) = (nn : Int) by omega))) rfl ?_; clear hF a; intro a hF
  refine sv hF (v_assign rfl) rfl ?_; clear hF a; intro a hF
  refine WL_nil (hK _ _ ?_)
  clear hK K
  replace hF := hF.sub _ (c_ 7 rfl (c_ 6 rfl (c_ 5 rfl (c_ 4 rfl (c_ 1 rfl (n_))))))
  refine W_seq ?_
  refine W_sr rfl (fun K hK => ?_)
  refine sv hF (v_assign rfl) rfl ?_; clear hF a; intro a hF
  refine WL_nil (hK _ _ ?_)
  clear hK K
  refine W_block ?_
  refine W_loop (fun m a w1 => ∃ (i j : Nat) (v6 : Value) (b6 : Option Nat), Fr 47 [(1, .slice sa bs.length cp), (6, v6), (7, .int .i64 (nn : Int)), (8, .int .i64 (i : Int))] a ∧ St FDx B w w1 ∧ Row FDx B M w1 (.slice sa bs.length cp) (byt bs) ∧ Gam.Own FDx B w.heap.size w1 FDx.E v6 b6 (ints ((List.range j).map (wv nn bs))) ∧ i = nn * j ∧ j ≤ bs.length / nn ∧ m + j = bs.length / nn ∧ i ≤ bs.length) (bs.length / nn) ?_ ?_
  · skip
    exact ⟨0, 0, _, none, hF.sub _ (c_ 1 rfl (c_ 6 rfl (c_ 7 rfl (c_ 8 rfl n_)))), hS, hbs, Gam.Own.nil _ _ _ _ _, by omega, Nat.zero_le _, by omega, by omega⟩
  · skip
    clear hF
    clear hS hbs
    rintro m a w1 ⟨i, j, v6, b6, hF, hS, hbs, hO, hij, hj, hm, hi⟩
    refine W_seq ?_
    refine W_sr rfl (fun K hK => ?_)
    refine sv hF (v_move rfl) rfl ?_; clear hF a; intro a hF
    refine sv hF (v_move rfl) rfl ?_; clear hF a; intro a hF
    refine sv hF (v_addI rfl rfl (by omega)) rfl ?_; clear hF a; intro a hF
    refine sv hF (v_move rfl) rfl ?_; clear hF a; intro a hF
    refine sv hF (v_lenS rfl sl22 rfl) rfl ?_; clear hF a; intro a hF
    refine sv hF (v_leq rfl rfl) rfl ?_; clear hF a; intro a hF
    refine WL_nil (hK _ _ ?_)
    clear hK K
    replace hF := hF.sub _ (c_ 17 rfl (c_ 1 rfl (c_ 6 rfl (c_ 7 rfl (c_ 8 rfl (n_))))))
    refine W_if hF rfl (fun hc1 => ?_) (fun hc1 => ?_)
    · skip
      try simp only [decide_eq_true_eq, decide_eq_false_iff_not, Bool.not_eq_true', Bool.not_eq_false', Bool.not_true, Bool.not_false] at hc1
      have hst := wstep_lt h12 hij (show i + nn ≤ bs.length by omega)
      have hdl := Nat.div_le_self bs.length nn
      obtain ⟨c, hc⟩ : ∃ c, bs[i]? = some c := ⟨_, List.getElem?_eq_getElem (by omega)⟩
      have hc8 := h8 c (List.mem_of_getElem? hc)
      obtain ⟨-, gb, ob, rfl, hcb⟩ := hbs.at (byt_at hc)
      refine W_skip ?_
      refine W_seq ?_
      refine W_block ?_
      refine W_sr rfl (fun K hK => ?_)
      refine sv hF (v_move rfl) rfl ?_; clear hF a; intro a hF
      refine sv hF (v_move rfl) rfl ?_; clear hF a; intro a hF
      refine sv hF (v_ixS sl22 rfl rfl (by omega) (by omega)) rfl ?_; clear hF a; intro a hF
      refine sv hF (v_load sc5 rfl (by rw [toNat_c]; exact hcb)) rfl ?_; clear hF a; intro a hF
      refine sv hF (v_cv Try.underlying5 Try.underlying3 rfl (wrap_i64 _ (by omega))) rfl ?_; clear hF a; intro a hF
      refine sv hF (v_assign rfl) rfl ?_; clear hF a; intro a hF
      refine WL_nil (hK _ _ ?_)
      clear hK K
      replace hF := hF.sub _ (c_ 9 rfl (c_ 1 rfl (c_ 6 rfl (c_ 7 rfl (c_ 8 rfl (n_))))))
      refine W_seq ?_
      refine W_sr rfl (fun K hK => ?_)
      refine sv hF (v_move rfl) rfl ?_; clear hF a; intro a hF
      refine sv hF (v_eql rfl rfl) rfl ?_; clear hF a; intro a hF
      refine WL_nil (hK _ _ ?_)
      clear hK K
      replace hF := hF.sub _ (c_ 27 rfl (c_ 9 rfl (c_ 1 rfl (c_ 6 rfl (c_ 7 rfl (c_ 8 rfl (n_)))))))
      refine W_if hF rfl (fun hc2 => ?_) (fun hc2 => ?_)
      · skip
        try simp only [decide_eq_true_eq, decide_eq_false_iff_not, Bool.not_eq_true', Bool.not_eq_false', Bool.not_true, Bool.not_false] at hc2
        obtain ⟨d, hd⟩ : ∃ d, bs[i + 1]? = some d := ⟨_, List.getElem?_eq_getElem (by omega)⟩
        have hd8 := h8 d (List.mem_of_getElem? hd)
        obtain ⟨-, gb2, ob2, hg2, hcd⟩ := hbs.at (byt_at hd)
        obtain ⟨rfl, rfl⟩ : gb = gb2 ∧ ob = ob2 := by cases hg2; exact ⟨rfl, rfl⟩
        have hwv := wv_two (by omega) hij hc hd
        refine W_reg rfl (fun K hK => ?_)
        refine sv hF (v_move rfl) rfl ?_; clear hF a; intro a hF
        refine sv hF (v_move rfl) rfl ?_; clear hF a; intro a hF
        refine sv hF (v_move rfl) rfl ?_; clear hF a; intro a hF
        refine sv hF (v_addI rfl rfl (by omega)) rfl ?_; clear hF a; intro a hF
        refine sv hF ((v_ixS sl22 rfl rfl (by omega) (by omega)).as (show _ = Value.pointer (some ⟨gb, ob + (i + 1), none⟩) by congr 3)) rfl ?_; clear hF a; intro a hF
        refine sv hF (v_load sc5 rfl hcd) rfl ?_; clear hF a; intro a hF
        refine sv hF (v_cv Try.underlying5 Try.underlying3 rfl (wrap_i64 _ (by omega))) rfl ?_; clear hF a; intro a hF
        refine sv hF (v_mulI rfl rfl (by omega)) rfl ?_; clear hF a; intro a hF
        refine sv hF ((v_addI rfl rfl (by omega)).as (congrArg _ (show (c : Int) + 256 * (d : Int) = ((c + 256 * d : Nat) : Int) by omega))) rfl ?_; clear hF a; intro a hF
        refine sv hF (v_assign rfl) rfl ?_; clear hF a; intro a hF
        refine WL_nil (hK _ _ ?_)
        clear hK K
        replace hF := hF.sub _ (c_ 9 rfl (c_ 1 rfl (c_ 6 rfl (c_ 7 rfl (c_ 8 rfl (n_))))))
        refine W_reg rfl (fun K hK => ?_)
        refine sv hF (v_move rfl) rfl ?_; clear hF a; intro a hF
        refine sv hF (v_move rfl) rfl ?_; clear hF a; intro a hF
        refine s_bs (D := FDx) (B := B) hF sl23 rfl rfl (by decide) (by simp [Value.cells]) (by decide) hS.inv rfl ?_; clear hF a; intro w' a hm hI' hb hF
        replace hbs := hbs.mb hm (fun _ h => by cases h)
        replace hO := hO.mb hm (fun _ _ => by simp)
        replace hS := hS.mb0 hm
        clear hm hI'
        refine s_app (D := FDx) (B := B) hF rfl sl23 rfl rfl hO (hb.row (by decide)) (by simp [Value.oneCell']) (by simp; omega) (by simp [maxLen]; omega) (hS.ext.size) (by decide) hS.inv rfl ?_; clear hF a; intro v' b' w' a ho' hm hI' hb' hF
        replace hbs := hbs.mb hm (fun k h => Nat.le_trans (by omega) (hO.lt k h).1)
        replace hS := hS.mb hm (fun k h => Nat.le_trans (Nat.le_refl _) (hO.lt k h).1)
        replace hO := ho'
        clear hm hI' ho' hb
        refine sv hF (v_assign rfl) rfl ?_; clear hF a; intro a hF
        refine WL_nil (hK _ _ ?_)
        clear hK K
        replace hF := hF.sub _ (c_ 6 rfl (c_ 1 rfl (c_ 7 rfl (c_ 8 rfl (n_)))))
        refine W_reg rfl (fun K hK => ?_)
        refine sv hF (v_move rfl) rfl ?_; clear hF a; intro a hF
        refine sv hF (v_move rfl) rfl ?_; clear hF a; intro a hF
        refine sv hF (v_addI rfl rfl (by omega)) rfl ?_; clear hF a; intro a hF
        refine sv hF (v_assign rfl) rfl ?_; clear hF a; intro a hF
        refine WL_nil (hK _ _ ?_)
        clear hK K
        exact ⟨m - 1, by omega, i + nn, j + 1, _, _, hF.sub _ (c_ 1 rfl (c_ 6 rfl (c_ 7 rfl (c_ 8 rfl n_)))), hS, hbs, hO.cast (by rw [wv_snoc, ints_snoc, hwv]), hst.2, by omega, by omega, by omega⟩
      · skip
        try simp only [decide_eq_true_eq, decide_eq_false_iff_not, Bool.not_eq_true', Bool.not_eq_false', Bool.not_true, Bool.not_false] at hc2
        have hwv := wv_one (by omega) hij hc
        refine W_skip ?_
        refine W_reg rfl (fun K hK => ?_)
        refine sv hF (v_move rfl) rfl ?_; clear hF a; intro a hF
        refine sv hF (v_move rfl) rfl ?_; clear hF a; intro a hF
        refine s_bs (D := FDx) (B := B) hF sl23 rfl rfl (by decide) (by simp [Value.cells]) (by decide) hS.inv rfl ?_; clear hF a; intro w' a hm hI' hb hF
        replace hbs := hbs.mb hm (fun _ h => by cases h)
        replace hO := hO.mb hm (fun _ _ => by simp)
        replace hS := hS.mb0 hm
        clear hm hI'
        refine s_app (D := FDx) (B := B) hF rfl sl23 rfl rfl hO (hb.row (by decide)) (by simp [Value.oneCell']) (by simp; omega) (by simp [maxLen]; omega) (hS.ext.size) (by decide) hS.inv rfl ?_; clear hF a; intro v' b' w' a ho' hm hI' hb' hF
        replace hbs := hbs.mb hm (fun k h => Nat.le_trans (by omega) (hO.lt k h).1)
        replace hS := hS.mb hm (fun k h => Nat.le_trans (Nat.le_refl _) (hO.lt k h).1)
        replace hO := ho'
        clear hm hI' ho' hb
        refine sv hF (v_assign rfl) rfl ?_; clear hF a; intro a hF
        refine WL_nil (hK _ _ ?_)
        clear hK K
        replace hF := hF.sub _ (c_ 6 rfl (c_ 1 rfl (c_ 7 rfl (c_ 8 rfl (n_)))))
        refine W_reg rfl (fun K hK => ?_)
        refine sv hF (v_move rfl) rfl ?_; clear hF a; intro a hF
        refine sv hF (v_move rfl) rfl ?_; clear hF a; intro a hF
        refine sv hF (v_addI rfl rfl (by omega)) rfl ?_; clear hF a; intro a hF
        refine sv hF (v_assign rfl) rfl ?_; clear hF a; intro a hF
        refine WL_nil (hK _ _ ?_)
        clear hK K
        exact ⟨m - 1, by omega, i + nn, j + 1, _, _, hF.sub _ (c_ 1 rfl (c_ 6 rfl (c_ 7 rfl (c_ 8 rfl n_)))), hS, hbs, hO.cast (by rw [wv_snoc, ints_snoc, hwv]), hst.2, by omega, by omega, by omega⟩
    · skip
      try simp only [decide_eq_true_eq, decide_eq_false_iff_not, Bool.not_eq_true', Bool.not_eq_false', Bool.not_true, Bool.not_false] at hc1
      obtain rfl := wstep_end h12 hij (by omega) hj
      refine W_exit rfl ?_
      refine W_sd (m := 8) rfl hmix hS.inv (fun K hK w1 hS' hh => ?_)
      replace hbs := hbs.st hS'
      replace hO := hO.st (by decide) hS'
      replace hS := hS.trans hS'
      clear hS'
      clear hh
      refine a_v (i := 0) rfl (by kernel_rfl) hF (fun w2 hx => v_move rfl) rfl ?_; clear hF a; intro a hF
      refine a_v (i := 1) rfl (by kernel_rfl) hF (fun w2 hx => v_move rfl) rfl ?_; clear hF a; intro a hF
      refine a_v (i := 2) rfl (by kernel_rfl) hF (fun w2 hx => v_lenS rfl sl22 rfl) rfl ?_; clear hF a; intro a hF
      refine a_v (i := 3) rfl (by kernel_rfl) hF (fun w2 hx => v_move rfl) rfl ?_; clear hF a; intro a hF
      refine a_v (i := 4) rfl (by kernel_rfl) hF (fun w2 hx => v_remI rfl rfl (by omega) (by omega)) rfl ?_; clear hF a; intro a hF
      refine a_v (i := 5) rfl (by kernel_rfl) hF (fun w2 hx => v_eql rfl rfl) rfl ?_; clear hF a; intro a hF
      refine a_v (i := 6) rfl (by kernel_rfl) hF (fun w2 hx => v_assign rfl) rfl ?_; clear hF a; intro a hF
      refine a_v (i := 7) rfl (by kernel_rfl) hF (fun w2 hx => v_assign rfl) rfl ?_; clear hF a; intro a hF
      refine a_done (by kernel_rfl) (hK _ _ ?_)
      clear hK K
      replace hF := hF.sub _ (c_ 5 rfl (c_ 4 rfl (c_ 46 rfl (c_ 45 rfl (c_ 44 rfl (c_ 43 rfl (c_ 42 rfl (c_ 41 rfl (c_ 1 rfl (c_ 6 rfl (c_ 7 rfl (c_ 8 rfl (n_)))))))))))))
      refine W_ret ?_
      refine ⟨_, _, _, hF, rfl, rfl, ?_⟩
      subst hnn
      exact ⟨_, _, by rw [show decide ((bs.length : Int) % ((wb / 8 : Nat) : Int) = 0) = decide (bs.length % (wb / 8) = 0) by rw [decide_eq_decide]; omega], hO, hS⟩

set_option maxRecDepth 100000 in
set_option maxHeartbeats 1000000 in
theorem rBytes_ok (B M wb p : Nat) (hp : Prm wb p) (sa : Option Addr) (cp : Nat) (zs : List Int) (w : World) (hI : Inv FDx B w) (hzs : Row FDx B M w (.slice sa zs.length cp) (zints zs)) (hM : M ≤ w.heap.size) (hlen : zs.length ≤ 100000) : Ret Try.prog 20 [.int .i64 (wb : Int), .slice sa zs.length cp] w fun v w' => ∃ sl ob, v = .tuple #[sl, .bool ((rbytes (some (wb, p)) zs).isSome)] ∧ Gam.Own FDx B w.heap.size w' 5 sl ob (byt ((rbytes (some (wb, p)) zs).getD [])) ∧ St FDx B w w' := by
  refine enter2 42 [(0, .int .i64 (wb : Int)), (1, .slice sa zs.length cp)] 4 5 Try.func20 rfl rfl rfl rfl rfl ?_; intro a hF
  have hS := St.refl hI
  obtain ⟨nn, hnn⟩ : ∃ nn, nn = wb / 8 := ⟨_, rfl⟩
  have h12 : wb = 8 ∧ nn = 1 ∨ wb = 16 ∧ nn = 2 := by have := hp.w; omega
  have hsz := hp.size
  refine W_sr rfl (fun K hK => ?_)
  refine sv hF (v_assign rfl) rfl ?_; clear hF a; intro a hF
  refine sv hF (v_assign rfl) rfl ?_; clear hF a; intro a hF
  refine WL_nil (hK _ _ ?_)
  clear hK K
  refine W_sr rfl (fun K hK => ?_)
  refine sv hF (v_assign rfl) rfl ?_; clear hF a; intro a hF
  refine WL_nil (hK _ _ ?_)
  clear hK K
  refine W_seq ?_
  refine W_sr rfl (fun K hK => ?_)
  refine sv hF (v_assign rfl) rfl ?_; clear hF a; intro a hF
  refine WL_nil (hK _ _ ?_)
  clear hK K
  refine W_block ?_
  refine W_loop (fun m a w1 => ∃ (i : Nat) (v6 : Value) (b6 : Option Nat), Fr 42 [(0, .int .i64 (wb : Int)), (1, .slice sa zs.length cp), (6, v6), (7, .int .i64 (i : Int))] a ∧ St FDx B w w1 ∧ Row FDx B M w1 (.slice sa zs.length cp) (zints zs) ∧ Gam.Own FDx B w.heap.size w1 5 v6 b6 (byt (bytesN nn ((zs.take i).map Int.toNat))) ∧ (zs.take i).all (inF (some (wb, p))) = true ∧ i ≤ zs.length ∧ m + i = zs.length) (zs.length) ?_ ?_
  · skip
    exact ⟨0, _, none, hF.sub _ (c_ 0 rfl (c_ 1 rfl (c_ 6 rfl (c_ 7 rfl n_)))), hS, hzs, Gam.Own.nil _ _ _ _ _, rfl, by omega, by omega⟩
  · skip
    clear hF
    clear hS hzs
    rintro m a w1 ⟨i, v6, b6, hF, hS, hzs, hO, hall, hi, hm⟩
    refine W_seq ?_
    refine W_sr rfl (fun K hK => ?_)
    refine sv hF (v_move rfl) rfl ?_; clear hF a; intro a hF
    refine sv hF (v_move rfl) rfl ?_; clear hF a; intro a hF
    refine sv hF (v_lenS rfl sl23 rfl) rfl ?_; clear hF a; intro a hF
    refine sv hF (v_lss rfl rfl) rfl ?_; clear hF a; intro a hF
    refine WL_nil (hK _ _ ?_)
    clear hK K
    replace hF := hF.sub _ (c_ 11 rfl (c_ 0 rfl (c_ 1 rfl (c_ 6 rfl (c_ 7 rfl (n_))))))
    refine W_if hF rfl (fun hc1 => ?_) (fun hc1 => ?_)
    · skip
      try simp only [decide_eq_true_eq, decide_eq_false_iff_not, Bool.not_eq_true', Bool.not_eq_false', Bool.not_true, Bool.not_false] at hc1
      have hlt : i < zs.length := by omega
      obtain ⟨z, hz⟩ : ∃ z, zs[i]? = some z := ⟨_, List.getElem?_eq_getElem hlt⟩
      obtain ⟨-, gb, ob, hgb, hcb⟩ := hzs.at (zints_at hz)
      subst hgb
      refine W_skip ?_
      refine W_seq ?_
      refine W_block ?_
      refine W_seq ?_
      refine W_sr rfl (fun K hK => ?_)
      refine sv hF (v_move rfl) rfl ?_; clear hF a; intro a hF
      refine sv hF (v_move rfl) rfl ?_; clear hF a; intro a hF
      refine sv hF (v_move rfl) rfl ?_; clear hF a; intro a hF
      refine sv hF (v_ixS sl23 rfl rfl (by omega) (by omega)) rfl ?_; clear hF a; intro a hF
      refine sv hF (v_load sc3 rfl (by rw [toNat_c]; exact hcb)) rfl ?_; clear hF a; intro a hF
      refine sc hF rfl rfl rfl en39 rfl (rIn_ok B wb p z _ hS.inv (by omega)) ?_; clear hF a; intro v w' a hv hF
      obtain ⟨rfl, hw⟩ := hv
      obtain rfl := hw.symm
      have hS' := St.refl hS.inv
      replace hzs := hzs.st hS'
      replace hO := hO.st (by decide) hS'
      replace hS := hS.trans hS'
      clear hS'
      refine sv hF (v_not rfl) rfl ?_; clear hF a; intro a hF
      refine WL_nil (hK _ _ ?_)
      clear hK K
      replace hF := hF.sub _ (c_ 20 rfl (c_ 0 rfl (c_ 1 rfl (c_ 6 rfl (c_ 7 rfl (n_))))))
      refine W_if hF rfl (fun hc2 => ?_) (fun hc2 => ?_)
      · skip
        try simp only [decide_eq_true_eq, decide_eq_false_iff_not, Bool.not_eq_true', Bool.not_eq_false', Bool.not_true, Bool.not_false] at hc2
        refine W_sr rfl (fun K hK => ?_)
        refine sv hF (v_assign rfl) rfl ?_; clear hF a; intro a hF
        refine sv hF (v_assign rfl) rfl ?_; clear hF a; intro a hF
        refine WL_nil (hK _ _ ?_)
        clear hK K
        replace hF := hF.sub _ (c_ 5 rfl (c_ 4 rfl (c_ 0 rfl (c_ 1 rfl (c_ 6 rfl (c_ 7 rfl (n_)))))))
        refine W_ret ?_
        refine ⟨_, _, _, hF, rfl, rfl, ?_⟩
        have hfa : zs.all (inF (some (wb, p))) = false := by
          rw [List.all_eq_false]; exact ⟨z, List.mem_of_getElem? hz, by simpa using hc2⟩
        rw [rbytes_f hfa]
        exact ⟨_, none, rfl, Gam.Own.nil _ _ _ _ _, hS⟩
      · skip
        try simp only [decide_eq_true_eq, decide_eq_false_iff_not, Bool.not_eq_true', Bool.not_eq_false', Bool.not_true, Bool.not_false] at hc2
        refine W_skip ?_
        have hz2 := hc2
        obtain ⟨x, rfl, hx⟩ := inF_nat hc2
        have hst := bytes_step nn hz
        have hall2 : (zs.take (i + 1)).all (inF (some (wb, p))) = true := by rw [List.take_add_one, hz, List.all_append, hall]; simp [hz2]
        refine W_sr rfl (fun K hK => ?_)
        refine sv hF (v_move rfl) rfl ?_; clear hF a; intro a hF
        refine sv hF (v_move rfl) rfl ?_; clear hF a; intro a hF
        refine sv hF (v_move rfl) rfl ?_; clear hF a; intro a hF
        refine sv hF (v_ixS sl23 rfl rfl (by omega) (by omega)) rfl ?_; clear hF a; intro a hF
        refine sv hF (v_load sc3 rfl (by rw [toNat_c]; exact hcb)) rfl ?_; clear hF a; intro a hF
        refine sv hF ((v_remI rfl rfl (by omega) (by omega)).as (congrArg _ (show (x : Int) % 256 = ((x % 256 : Nat) : Int) by omega))) rfl ?_; clear hF a; intro a hF
        refine sv hF (v_cv Try.underlying3 Try.underlying5 rfl (wrap_u8 _ (by omega))) rfl ?_; clear hF a; intro a hF
        refine s_bs (D := FDx) (B := B) hF sl22 rfl rfl (by decide) (by simp [Value.cells]) (by decide) hS.inv rfl ?_; clear hF a; intro w' a hm hI' hb hF
        replace hzs := hzs.mb hm (fun _ h => by cases h)
        replace hO := hO.mb hm (fun _ _ => by simp)
        replace hS := hS.mb0 hm
        clear hm hI'
        refine s_app (D := FDx) (B := B) hF rfl sl22 rfl rfl hO (hb.row (by decide)) (by simp [Value.oneCell']) (by have := bytesN_len nn ((zs.take i).map Int.toNat); simp only [maxLen, List.length_append, byt_length, List.length_cons, List.length_nil, List.length_map, List.length_take] at this ⊢; omega) (by have := bytesN_len nn ((zs.take i).map Int.toNat); simp only [maxLen, List.length_append, byt_length, List.length_cons, List.length_nil, List.length_map, List.length_take] at this ⊢; omega) (hS.ext.size) (by decide) hS.inv rfl ?_; clear hF a; intro v' b' w' a ho' hm hI' hb' hF
        replace hzs := hzs.mb hm (fun k h => Nat.le_trans (by omega) (hO.lt k h).1)
        replace hS := hS.mb hm (fun k h => Nat.le_trans (Nat.le_refl _) (hO.lt k h).1)
        replace hO := ho'
        clear hm hI' ho' hb
        refine sv hF (v_assign rfl) rfl ?_; clear hF a; intro a hF
        refine WL_nil (hK _ _ ?_)
        clear hK K
        replace hF := hF.sub _ (c_ 6 rfl (c_ 0 rfl (c_ 1 rfl (c_ 7 rfl (n_)))))
        refine W_sr rfl (fun K hK => ?_)
        refine sv hF (v_move rfl) rfl ?_; clear hF a; intro a hF
        refine sv hF (v_eql rfl rfl) rfl ?_; clear hF a; intro a hF
        refine WL_nil (hK _ _ ?_)
        clear hK K
        replace hF := hF.sub _ (c_ 31 rfl (c_ 6 rfl (c_ 0 rfl (c_ 1 rfl (c_ 7 rfl (n_))))))
        refine W_if hF rfl (fun hc3 => ?_) (fun hc3 => ?_)
        · skip
          try simp only [decide_eq_true_eq, decide_eq_false_iff_not, Bool.not_eq_true', Bool.not_eq_false', Bool.not_true, Bool.not_false] at hc3
          have hnn2 : nn = 2 := by omega
          rw [if_pos hnn2] at hst
          clear hcb
          obtain ⟨-, gb2, ob2, hgb2, hcb⟩ := hzs.at (zints_at hz)
          obtain ⟨rfl, rfl⟩ : gb = gb2 ∧ ob = ob2 := by cases hgb2; exact ⟨rfl, rfl⟩
          refine W_reg rfl (fun K hK => ?_)
          refine sv hF (v_move rfl) rfl ?_; clear hF a; intro a hF
          refine sv hF (v_move rfl) rfl ?_; clear hF a; intro a hF
          refine sv hF (v_move rfl) rfl ?_; clear hF a; intro a hF
          refine sv hF (v_ixS sl23 rfl rfl (by omega) (by omega)) rfl ?_; clear hF a; intro a hF
          refine sv hF (v_load sc3 rfl (by rw [toNat_c]; exact hcb)) rfl ?_; clear hF a; intro a hF
          refine sv hF (v_quoN (m := x) (n := 256) rfl rfl (by decide) (fits_i64 (by omega))) rfl ?_; clear hF a; intro a hF
          refine sv hF (v_cv Try.underlying3 Try.underlying5 rfl (wrap_u8 _ (by omega))) rfl ?_; clear hF a; intro a hF
          refine s_bs (D := FDx) (B := B) hF sl22 rfl rfl (by decide) (by simp [Value.cells]) (by decide) hS.inv rfl ?_; clear hF a; intro w' a hm hI' hb hF
          replace hzs := hzs.mb hm (fun _ h => by cases h)
          replace hO := hO.mb hm (fun _ _ => by simp)
          replace hS := hS.mb0 hm
          clear hm hI'
          refine s_app (D := FDx) (B := B) hF rfl sl22 rfl rfl hO (hb.row (by decide)) (by simp [Value.oneCell']) (by have := bytesN_len nn ((zs.take i).map Int.toNat); simp only [maxLen, List.length_append, byt_length, List.length_cons, List.length_nil, List.length_map, List.length_take] at this ⊢; omega) (by have := bytesN_len nn ((zs.take i).map Int.toNat); simp only [maxLen, List.length_append, byt_length, List.length_cons, List.length_nil, List.length_map, List.length_take] at this ⊢; omega) (hS.ext.size) (by decide) hS.inv rfl ?_; clear hF a; intro v' b' w' a ho' hm hI' hb' hF
          replace hzs := hzs.mb hm (fun k h => Nat.le_trans (by omega) (hO.lt k h).1)
          replace hS := hS.mb hm (fun k h => Nat.le_trans (Nat.le_refl _) (hO.lt k h).1)
          replace hO := ho'
          clear hm hI' ho' hb
          refine sv hF (v_assign rfl) rfl ?_; clear hF a; intro a hF
          refine WL_nil (hK _ _ ?_)
          clear hK K
          replace hF := hF.sub _ (c_ 6 rfl (c_ 0 rfl (c_ 1 rfl (c_ 7 rfl (n_)))))
          refine W_reg rfl (fun K hK => ?_)
          refine sv hF (v_move rfl) rfl ?_; clear hF a; intro a hF
          refine sv hF (v_addI rfl rfl (by omega)) rfl ?_; clear hF a; intro a hF
          refine sv hF (v_assign rfl) rfl ?_; clear hF a; intro a hF
          refine WL_nil (hK _ _ ?_)
          clear hK K
          exact ⟨m - 1, by omega, i + 1, _, _, hF.sub _ (c_ 0 rfl (c_ 1 rfl (c_ 6 rfl (c_ 7 rfl n_)))), hS, hzs, hO.cast (by rw [hst]; simp [byt]), hall2, by omega, by omega⟩
        · skip
          try simp only [decide_eq_true_eq, decide_eq_false_iff_not, Bool.not_eq_true', Bool.not_eq_false', Bool.not_true, Bool.not_false] at hc3
          have hnn2 : nn ≠ 2 := by omega
          rw [if_neg hnn2] at hst
          refine W_skip ?_
          refine W_reg rfl (fun K hK => ?_)
          refine sv hF (v_move rfl) rfl ?_; clear hF a; intro a hF
          refine sv hF (v_addI rfl rfl (by omega)) rfl ?_; clear hF a; intro a hF
          refine sv hF (v_assign rfl) rfl ?_; clear hF a; intro a hF
          refine WL_nil (hK _ _ ?_)
          clear hK K
          replace hF := hF.sub _ (c_ 7 rfl (c_ 13 rfl (c_ 12 rfl (c_ 6 rfl (c_ 0 rfl (c_ 1 rfl (n_)))))))
          exact ⟨m - 1, by omega, i + 1, _, _, hF.sub _ (c_ 0 rfl (c_ 1 rfl (c_ 6 rfl (c_ 7 rfl n_)))), hS, hzs, hO.cast (by rw [hst]; simp [byt]), hall2, by omega, by omega⟩
    · skip
      try simp only [decide_eq_true_eq, decide_eq_false_iff_not, Bool.not_eq_true', Bool.not_eq_false', Bool.not_true, Bool.not_false] at hc1
      refine W_exit rfl ?_
      refine W_sr rfl (fun K hK => ?_)
      refine sv hF (v_move rfl) rfl ?_; clear hF a; intro a hF
      refine sv hF (v_assign rfl) rfl ?_; clear hF a; intro a hF
      refine sv hF (v_assign rfl) rfl ?_; clear hF a; intro a hF
      refine WL_nil (hK _ _ ?_)
      clear hK K
      replace hF := hF.sub _ (c_ 5 rfl (c_ 4 rfl (c_ 41 rfl (c_ 0 rfl (c_ 1 rfl (c_ 6 rfl (c_ 7 rfl (n_))))))))
      refine W_ret ?_
      refine ⟨_, _, _, hF, rfl, rfl, ?_⟩
      obtain rfl : i = zs.length := by omega
      rw [List.take_length] at hO hall
      rw [rbytes_t hnn hall]
      exact ⟨_, _, rfl, hO, hS⟩

set_option maxRecDepth 100000 in
set_option maxHeartbeats 1000000 in
theorem rMul3_ok (B M wb p : Nat) (hp : Prm wb p) (ic : Int) (sa : Option Addr) (cp : Nat) (bs : List Nat) (w : World) (hI : Inv FDx B w) (hbs : Row FDx B M w (.slice sa bs.length cp) (byt bs)) (hM : M ≤ w.heap.size) (h8 : ∀ x ∈ bs, x < 256) (hlen : bs.length ≤ 100000) : Ret Try.prog 37 [.int .i64 (wb : Int), .int .u32 (p : Int), .int .i64 ic, .slice sa bs.length cp] w fun v w' => ∃ sl ob, v = .tuple #[sl, .bool ((rmul (some (wb, p)) ic bs).isSome)] ∧ Gam.Own FDx B w.heap.size w' 5 sl ob (byt ((rmul (some (wb, p)) ic bs).getD [])) ∧ St FDx B w w' := by
  refine enter2 50 [(0, .int .i64 (wb : Int)), (1, .int .u32 (p : Int)), (2, .int .i64 ic), (3, .slice sa bs.length cp)] 8 9 Try.func37 rfl rfl rfl rfl rfl ?_; intro a hF
  have hS := St.refl hI
  have hsz := hp.size
  have h816 := hp.w
  refine W_sr rfl (fun K hK => ?_)
  refine sv hF (v_assign rfl) rfl ?_; clear hF a; intro a hF
  refine sv hF (v_assign rfl) rfl ?_; clear hF a; intro a hF
  refine WL_nil (hK _ _ ?_)
  clear hK K
  refine W_sr rfl (fun K hK => ?_)
  refine sv hF (v_move rfl) rfl ?_; clear hF a; intro a hF
  refine sv hF (v_move rfl) rfl ?_; clear hF a; intro a hF
  refine sc hF rfl rfl rfl en18 rfl (rWords_ok B M wb hp.w sa cp bs _ hS.inv hbs hM h8 hlen) ?_; clear hF a; intro v w' a hv hF
  clear hbs
  obtain ⟨sl, ob, rfl, hO, hS'⟩ := hv
  replace hS := hS.trans hS'
  clear hS'
  refine sv hF (v_move rfl) rfl ?_; clear hF a; intro a hF
  refine sv hF (v_ext rfl rfl) rfl ?_; clear hF a; intro a hF
  refine sv hF (v_ext rfl rfl) rfl ?_; clear hF a; intro a hF
  refine sv hF (v_assign rfl) rfl ?_; clear hF a; intro a hF
  refine sv hF (v_assign rfl) rfl ?_; clear hF a; intro a hF
  refine WL_nil (hK _ _ ?_)
  clear hK K
  replace hF := hF.sub _ (c_ 11 rfl (c_ 10 rfl (c_ 9 rfl (c_ 8 rfl (c_ 0 rfl (c_ 1 rfl (c_ 2 rfl (n_))))))))
  obtain ⟨a10, c10, rfl⟩ := hO.shape
  refine W_seq ?_
  refine W_sr rfl (fun K hK => ?_)
  refine sv hF (v_move rfl) rfl ?_; clear hF a; intro a hF
  refine sb hF (v_not rfl) rfl ?_ ?_
  · clear hF a; intro hc1 a hF
    try simp only [decide_eq_true_eq, decide_eq_false_iff_not, Bool.not_eq_true', Bool.not_eq_false', Bool.not_true, Bool.not_false] at hc1
    refine sv hF (v_move rfl) rfl ?_; clear hF a; intro a hF
    refine svn hF rfl rfl rfl ?_; clear hF a; intro a hF
    refine svn hF rfl rfl rfl ?_; clear hF a; intro a hF
    refine svn hF rfl rfl rfl ?_; clear hF a; intro a hF
    refine svn hF rfl rfl rfl ?_; clear hF a; intro a hF
    refine sv hF (v_pickT rfl rfl) rfl ?_; clear hF a; intro a hF
    refine WL_nil (hK _ _ ?_)
    clear hK K
    replace hF := hF.sub _ (c_ 27 rfl (c_ 10 rfl (c_ 9 rfl (c_ 8 rfl (c_ 0 rfl (c_ 1 rfl (c_ 2 rfl (n_))))))))
    refine W_ifT hF rfl ?_
    refine W_sr rfl (fun K hK => ?_)
    refine sv hF (v_assign rfl) rfl ?_; clear hF a; intro a hF
    refine sv hF (v_assign rfl) rfl ?_; clear hF a; intro a hF
    refine WL_nil (hK _ _ ?_)
    clear hK K
    replace hF := hF.sub _ (c_ 9 rfl (c_ 8 rfl (c_ 10 rfl (c_ 0 rfl (c_ 1 rfl (c_ 2 rfl (n_)))))))
    refine W_ret ?_
    refine ⟨_, _, _, hF, rfl, rfl, ?_⟩
    have hn : rmul (some (wb, p)) ic bs = none := rmul_none (.inl (wordsN_no (by simpa using hc1)))
    rw [hn]
    exact ⟨_, none, rfl, Gam.Own.nil _ _ _ _ _, hS⟩
  · clear hF a; intro hc1 a hF
    try simp only [decide_eq_true_eq, decide_eq_false_iff_not, Bool.not_eq_true', Bool.not_eq_false', Bool.not_true, Bool.not_false] at hc1
    refine sv hF (v_move rfl) rfl ?_; clear hF a; intro a hF
    refine svg hF rfl ?_
    refine sv hF (v_move rfl) rfl ?_; clear hF a; intro a hF
    refine svg hF rfl ?_
    refine sv hF (v_move rfl) rfl ?_; clear hF a; intro a hF
    refine svg hF rfl ?_
    refine sc hF rfl rfl rfl en39 rfl (rIn_ok B wb p ic _ hS.inv (by omega)) ?_; clear hF a; intro v w' a hv hF
    obtain ⟨rfl, hw⟩ := hv
    obtain rfl := hw.symm
    have hS' := St.refl hS.inv
    replace hO := hO.st (by decide) hS'
    replace hS := hS.trans hS'
    clear hS'
    refine svg hF rfl ?_
    refine sv hF (v_not rfl) rfl ?_; clear hF a; intro a hF
    refine sv hF (v_pickF rfl rfl) rfl ?_; clear hF a; intro a hF
    refine WL_nil (hK _ _ ?_)
    clear hK K
    replace hF := hF.sub _ (c_ 27 rfl (c_ 10 rfl (c_ 9 rfl (c_ 8 rfl (c_ 0 rfl (c_ 1 rfl (c_ 2 rfl (n_))))))))
    refine W_if hF rfl (fun hc2 => ?_) (fun hc2 => ?_)
    · skip
      try simp only [decide_eq_true_eq, decide_eq_false_iff_not, Bool.not_eq_true', Bool.not_eq_false', Bool.not_true, Bool.not_false] at hc2
      refine W_sr rfl (fun K hK => ?_)
      refine sv hF (v_assign rfl) rfl ?_; clear hF a; intro a hF
      refine sv hF (v_assign rfl) rfl ?_; clear hF a; intro a hF
      refine WL_nil (hK _ _ ?_)
      clear hK K
      replace hF := hF.sub _ (c_ 9 rfl (c_ 8 rfl (c_ 10 rfl (c_ 0 rfl (c_ 1 rfl (c_ 2 rfl (n_)))))))
      refine W_ret ?_
      refine ⟨_, _, _, hF, rfl, rfl, ?_⟩
      have hn : rmul (some (wb, p)) ic bs = none := rmul_none (.inr hc2)
      rw [hn]
      exact ⟨_, none, rfl, Gam.Own.nil _ _ _ _ _, hS⟩
    · skip
      try simp only [decide_eq_true_eq, decide_eq_false_iff_not, Bool.not_eq_true', Bool.not_eq_false', Bool.not_true, Bool.not_false] at hc2
      refine W_skip ?_
      have hws : rwords (some (wb, p)) bs = some (wordsN (wb / 8) bs) := wordsN_rw (by simpa using hc1)
      have hwl := rwords_len hws
      rw [ints_length] at hF
      generalize wordsN (wb / 8) bs = ws at *
      have hL := hO.row (by decide)
      rw [ints_length] at hL
      clear hO
      obtain ⟨M2, hL, hwM, hMc⟩ := mk_M hL hS.ext.size
      refine W_sr rfl (fun K hK => ?_)
      refine sv hF (v_assign rfl) rfl ?_; clear hF a; intro a hF
      refine WL_nil (hK _ _ ?_)
      clear hK K
      replace hF := hF.sub _ (c_ 12 rfl (c_ 10 rfl (c_ 9 rfl (c_ 8 rfl (c_ 0 rfl (c_ 1 rfl (c_ 2 rfl (n_))))))))
      refine W_seq ?_
      refine W_sr rfl (fun K hK => ?_)
      refine sv hF (v_assign rfl) rfl ?_; clear hF a; intro a hF
      refine WL_nil (hK _ _ ?_)
      clear hK K
      refine W_block ?_
      refine W_loop (fun m a w1 => ∃ (i : Nat) (v12 : Value) (b12 : Option Nat), Fr 50 [(0, .int .i64 (wb : Int)), (1, .int .u32 (p : Int)), (2, .int .i64 ic), (10, .slice a10 ws.length c10), (12, v12), (13, .int .i64 (i : Int))] a ∧ St FDx B w w1 ∧ Row FDx B M2 w1 (.slice a10 ws.length c10) (ints ws) ∧ M2 ≤ w1.heap.size ∧ Gam.Own FDx B M2 w1 FDx.E v12 b12 (zints ((ws.take i).map fun (a : Nat) => gmul (some (wb, p)) ic (a : Int))) ∧ i ≤ ws.length ∧ m + i = ws.length) (ws.length) ?_ ?_
      · skip
        exact ⟨0, _, none, hF.sub _ (c_ 0 rfl (c_ 1 rfl (c_ 2 rfl (c_ 10 rfl (c_ 12 rfl (c_ 13 rfl n_)))))), hS, hL, hMc, Gam.Own.nil _ _ _ _ _, by omega, by omega⟩
      · skip
        clear hF
        clear hS hL hMc
        rintro m a w1 ⟨i, v12, b12, hF, hS, hL, hMc, hO, hi, hm⟩
        refine W_seq ?_
        refine W_sr rfl (fun K hK => ?_)
        refine sv hF (v_move rfl) rfl ?_; clear hF a; intro a hF
        refine sv hF (v_move rfl) rfl ?_; clear hF a; intro a hF
        refine sv hF (v_lenS rfl sl23 rfl) rfl ?_; clear hF a; intro a hF
        refine sv hF (v_lss rfl rfl) rfl ?_; clear hF a; intro a hF
        refine WL_nil (hK _ _ ?_)
        clear hK K
        replace hF := hF.sub _ (c_ 31 rfl (c_ 0 rfl (c_ 1 rfl (c_ 2 rfl (c_ 10 rfl (c_ 12 rfl (c_ 13 rfl (n_))))))))
        refine W_if hF rfl (fun hc3 => ?_) (fun hc3 => ?_)
        · skip
          try simp only [decide_eq_true_eq, decide_eq_false_iff_not, Bool.not_eq_true', Bool.not_eq_false', Bool.not_true, Bool.not_false] at hc3
          have hlt : i < ws.length := by omega
          obtain ⟨x, hx⟩ : ∃ x, ws[i]? = some x := ⟨_, List.getElem?_eq_getElem hlt⟩
          obtain ⟨-, gb, ob_, hgb, hcb⟩ := hL.at (ints_at hx)
          subst hgb
          refine W_skip ?_
          refine W_seq ?_
          refine W_block ?_
          refine W_reg rfl (fun K hK => ?_)
          refine sv hF (v_move rfl) rfl ?_; clear hF a; intro a hF
          refine sv hF (v_move rfl) rfl ?_; clear hF a; intro a hF
          refine sv hF (v_move rfl) rfl ?_; clear hF a; intro a hF
          refine sv hF (v_move rfl) rfl ?_; clear hF a; intro a hF
          refine sv hF (v_move rfl) rfl ?_; clear hF a; intro a hF
          refine sv hF (v_move rfl) rfl ?_; clear hF a; intro a hF
          refine sv hF (v_ixS sl23 rfl rfl (by omega) (by omega)) rfl ?_; clear hF a; intro a hF
          refine sv hF (v_load sc3 rfl (by rw [toNat_c]; exact hcb)) rfl ?_; clear hF a; intro a hF
          refine sc hF rfl rfl rfl en64 rfl (rMul_gf B wb p ic (x : Int) _ hS.inv hp) ?_; clear hF a; intro v w' a hv hF
          obtain ⟨rfl, hS'⟩ := hv
          replace hL := hL.st hS'
          replace hMc := Nat.le_trans hMc hS'.ext.size
          replace hO := hO.st (by decide) hS'
          replace hS := hS.trans hS'
          clear hS'
          refine s_bs (D := FDx) (B := B) hF sl23 rfl rfl (by decide) (by simp [Value.cells]) (by decide) hS.inv rfl ?_; clear hF a; intro w' a hm hI' hb hF
          replace hL := hL.mb hm (fun _ h => by cases h)
          replace hMc := Nat.le_trans hMc hm.size
          replace hO := hO.mb hm (fun _ _ => by simp)
          replace hS := hS.mb0 hm
          clear hm hI'
          refine s_app (D := FDx) (B := B) hF rfl sl23 rfl rfl hO (hb.row (by decide)) (by simp [Value.oneCell']) (by simp; omega) (by simp [maxLen]; omega) (hMc) (by decide) hS.inv rfl ?_; clear hF a; intro v' b' w' a ho' hm hI' hb' hF
          replace hL := hL.mb hm (fun k h => Nat.le_trans (by omega) (hO.lt k h).1)
          replace hMc := Nat.le_trans hMc hm.size
          replace hS := hS.mb hm (fun k h => Nat.le_trans (hwM) (hO.lt k h).1)
          replace hO := ho'
          clear hm hI' ho' hb
          refine sv hF (v_assign rfl) rfl ?_; clear hF a; intro a hF
          refine WL_nil (hK _ _ ?_)
          clear hK K
          replace hF := hF.sub _ (c_ 12 rfl (c_ 0 rfl (c_ 1 rfl (c_ 2 rfl (c_ 10 rfl (c_ 13 rfl (n_)))))))
          refine W_reg rfl (fun K hK => ?_)
          refine sv hF (v_move rfl) rfl ?_; clear hF a; intro a hF
          refine sv hF (v_addI rfl rfl (by omega)) rfl ?_; clear hF a; intro a hF
          refine sv hF (v_assign rfl) rfl ?_; clear hF a; intro a hF
          refine WL_nil (hK _ _ ?_)
          clear hK K
          exact ⟨m - 1, by omega, i + 1, _, _, hF.sub _ (c_ 0 rfl (c_ 1 rfl (c_ 2 rfl (c_ 10 rfl (c_ 12 rfl (c_ 13 rfl n_)))))), hS, hL, hMc, hO.cast (by rw [gmuls_snoc hx, zints_snoc]), by omega, by omega⟩
        · skip
          try simp only [decide_eq_true_eq, decide_eq_false_iff_not, Bool.not_eq_true', Bool.not_eq_false', Bool.not_true, Bool.not_false] at hc3
          refine W_exit rfl ?_
          obtain rfl : i = ws.length := by omega
          rw [List.take_length] at hO
          obtain ⟨a12, c12, rfl⟩ := hO.shape
          have hR := hO.row (by decide)
          rw [zints_length] at hR hF
          refine W_sr rfl (fun K hK => ?_)
          refine sv hF (v_move rfl) rfl ?_; clear hF a; intro a hF
          refine sv hF (v_move rfl) rfl ?_; clear hF a; intro a hF
          refine sc hF rfl rfl rfl en20 rfl (rBytes_ok B _ wb p hp a12 c12 _ _ hS.inv hR (Nat.le_refl _) (by simp; omega)) ?_; clear hF a; intro v w' a hv hF
          clear hO hL
          obtain ⟨sl, ob, rfl, hO, hS'⟩ := hv
          replace hO := hO.le hS.ext.size
          replace hS := hS.trans hS'
          clear hS'
          refine sv hF (v_ext rfl rfl) rfl ?_; clear hF a; intro a hF
          refine sv hF (v_ext rfl rfl) rfl ?_; clear hF a; intro a hF
          refine sv hF (v_assign rfl) rfl ?_; clear hF a; intro a hF
          refine sv hF (v_assign rfl) rfl ?_; clear hF a; intro a hF
          refine WL_nil (hK _ _ ?_)
          clear hK K
          replace hF := hF.sub _ (c_ 9 rfl (c_ 8 rfl (c_ 49 rfl (c_ 48 rfl (c_ 47 rfl (c_ 46 rfl (c_ 45 rfl (c_ 0 rfl (c_ 1 rfl (c_ 2 rfl (c_ 10 rfl (c_ 12 rfl (c_ 13 rfl (n_))))))))))))))
          refine W_ret ?_
          refine ⟨_, _, _, hF, rfl, rfl, ?_⟩
          have hn := rmul_some hws hc2
          rw [hn]
          exact ⟨_, _, rfl, hO, hS⟩

set_option maxRecDepth 100000 in
set_option maxHeartbeats 1000000 in
theorem rAdd_ok (B M : Nat) (sx sy : Option Addr) (cx cy : Nat) (x y : List Nat) (w : World) (hI : Inv FDx B w) (hx : Row FDx B M w (.slice sx x.length cx) (byt x)) (hy : Row FDx B M w (.slice sy y.length cy) (byt y)) (hM : M ≤ w.heap.size) (hx8 : ∀ u ∈ x, u < 256) (hy8 : ∀ u ∈ y, u < 256) (hlen : x.length ≤ 100000) : Ret Try.prog 38 [.slice sx x.length cx, .slice sy y.length cy] w fun v w' => ∃ sl ob, v = .tuple #[sl, .bool (decide (x.length = y.length))] ∧ Gam.Own FDx B w.heap.size w' 5 sl ob (byt (if x.length = y.length then xorB x y else [])) ∧ St FDx B w w' := by
  refine enter2 32 [(0, .slice sx x.length cx), (1, .slice sy y.length cy)] 4 5 Try.func38 rfl rfl rfl rfl rfl ?_; intro a hF
  have hS := St.refl hI
  refine W_sr rfl (fun K hK => ?_)
  refine sv hF (v_assign rfl) rfl ?_; clear hF a; intro a hF
  refine sv hF (v_assign rfl) rfl ?_; clear hF a; intro a hF
  refine WL_nil (hK _ _ ?_)
  clear hK K
  refine W_seq ?_
  refine W_sr rfl (fun K hK => ?_)
  refine sv hF (v_move rfl) rfl ?_; clear hF a; intro a hF
  refine sv hF (v_lenS rfl sl22 rfl) rfl ?_; clear hF a; intro a hF
  refine sv hF (v_move rfl) rfl ?_; clear hF a; intro a hF
  refine sv hF (v_lenS rfl sl22 rfl) rfl ?_; clear hF a; intro a hF
  refine sv hF (v_neq rfl rfl) rfl ?_; clear hF a; intro a hF
  refine WL_nil (hK _ _ ?_)
  clear hK K
  replace hF := hF.sub _ (c_ 12 rfl (c_ 5 rfl (c_ 4 rfl (c_ 0 rfl (c_ 1 rfl (n_))))))
  refine W_if hF rfl (fun hc1 => ?_) (fun hc1 => ?_)
  · skip
    try simp only [decide_eq_true_eq, decide_eq_false_iff_not, Bool.not_eq_true', Bool.not_eq_false', Bool.not_true, Bool.not_false] at hc1
    refine W_sr rfl (fun K hK => ?_)
    refine sv hF (v_assign rfl) rfl ?_; clear hF a; intro a hF
    refine sv hF (v_assign rfl) rfl ?_; clear hF a; intro a hF
    refine WL_nil (hK _ _ ?_)
    clear hK K
    replace hF := hF.sub _ (c_ 5 rfl (c_ 4 rfl (c_ 0 rfl (c_ 1 rfl (n_)))))
    refine W_ret ?_
    refine ⟨_, _, _, hF, rfl, rfl, ?_⟩
    have hne : ¬ x.length = y.length := by omega
    rw [if_neg hne, decide_eq_false hne]
    exact ⟨_, none, rfl, Gam.Own.nil _ _ _ _ _, hS⟩
  · skip
    try simp only [decide_eq_true_eq, decide_eq_false_iff_not, Bool.not_eq_true', Bool.not_eq_false', Bool.not_true, Bool.not_false] at hc1
    refine W_skip ?_
    refine W_sr rfl (fun K hK => ?_)
    refine sv hF (v_assign rfl) rfl ?_; clear hF a; intro a hF
    refine WL_nil (hK _ _ ?_)
    clear hK K
    replace hF := hF.sub _ (c_ 6 rfl (c_ 5 rfl (c_ 4 rfl (c_ 0 rfl (c_ 1 rfl (n_))))))
    refine W_seq ?_
    refine W_sr rfl (fun K hK => ?_)
    refine sv hF (v_assign rfl) rfl ?_; clear hF a; intro a hF
    refine WL_nil (hK _ _ ?_)
    clear hK K
    refine W_block ?_
    refine W_loop (fun m a w1 => ∃ (i : Nat) (v6 : Value) (b6 : Option Nat), Fr 32 [(0, .slice sx x.length cx), (1, .slice sy y.length cy), (6, v6), (7, .int .i64 (i : Int))] a ∧ St FDx B w w1 ∧ Row FDx B M w1 (.slice sx x.length cx) (byt x) ∧ Row FDx B M w1 (.slice sy y.length cy) (byt y) ∧ Gam.Own FDx B w.heap.size w1 5 v6 b6 (byt (xorB (x.take i) (y.take i))) ∧ i ≤ x.length ∧ m + i = x.length) (x.length) ?_ ?_
    · skip
      exact ⟨0, _, none, hF.sub _ (c_ 0 rfl (c_ 1 rfl (c_ 6 rfl (c_ 7 rfl n_)))), hS, hx, hy, (Gam.Own.nil _ _ _ _ _).cast rfl, by omega, by omega⟩
    · skip
      clear hF
      clear hS hx hy
      rintro m a w1 ⟨i, v6, b6, hF, hS, hx, hy, hO, hi, hm⟩
      refine W_seq ?_
      refine W_sr rfl (fun K hK => ?_)
      refine sv hF (v_move rfl) rfl ?_; clear hF a; intro a hF
      refine sv hF (v_move rfl) rfl ?_; clear hF a; intro a hF
      refine sv hF (v_lenS rfl sl22 rfl) rfl ?_; clear hF a; intro a hF
      refine sv hF (v_lss rfl rfl) rfl ?_; clear hF a; intro a hF
      refine WL_nil (hK _ _ ?_)
      clear hK K
      replace hF := hF.sub _ (c_ 16 rfl (c_ 0 rfl (c_ 1 rfl (c_ 6 rfl (c_ 7 rfl (n_))))))
      refine W_if hF rfl (fun hc2 => ?_) (fun hc2 => ?_)
      · skip
        try simp only [decide_eq_true_eq, decide_eq_false_iff_not, Bool.not_eq_true', Bool.not_eq_false', Bool.not_true, Bool.not_false] at hc2
        have hlt : i < x.length := by omega
        obtain ⟨u, hu⟩ : ∃ u, x[i]? = some u := ⟨_, List.getElem?_eq_getElem hlt⟩
        obtain ⟨v2, hv2⟩ : ∃ u, y[i]? = some u := ⟨_, List.getElem?_eq_getElem (by omega)⟩
        obtain ⟨-, ga, oa, hga, hca⟩ := hx.at (byt_at hu)
        obtain ⟨-, gb, ob_, hgb, hcb⟩ := hy.at (byt_at hv2)
        subst hga hgb
        have hu8 := hx8 u (List.mem_of_getElem? hu)
        have hv8 := hy8 v2 (List.mem_of_getElem? hv2)
        have hxl : (xorB (x.take i) (y.take i)).length = i := by rw [xorB_len (by simp; omega)]; simp; omega
        refine W_skip ?_
        refine W_seq ?_
        refine W_block ?_
        refine W_dS (fun w2 => w2.cell? ⟨ga, oa + i, none⟩ = some (.int .u8 (u : Int)) ∧ w2.cell? ⟨gb, ob_ + i, none⟩ = some (.int .u8 (v2 : Int))) (m := 13) rfl hmix (fun K hK => ?_)
        have hS' := St.drew hS.inv
        replace hx := hx.st hS'
        replace hy := hy.st hS'
        replace hO := hO.st (by decide) hS'
        replace hS := hS.trans hS'
        clear hS'
        have hSS := And.intro hca hcb
        refine b_v (i := 0) rfl (by kernel_rfl) hF (fun w2 hx => v_move rfl) rfl hSS ?_; clear hF a; intro a hF
        refine b_v (i := 1) rfl (by kernel_rfl) hF (fun w2 hx => v_move rfl) rfl hSS ?_; clear hF a; intro a hF
        refine b_v (i := 2) rfl (by kernel_rfl) hF (fun w2 hx => v_move rfl) rfl hSS ?_; clear hF a; intro a hF
        refine b_v (i := 3) rfl (by kernel_rfl) hF (fun w2 hx => v_ixS sl22 rfl rfl (by omega) (by omega)) rfl hSS ?_; clear hF a; intro a hF
        refine b_v (i := 4) rfl (by kernel_rfl) hF (fun w2 hx => v_load sc5 rfl (by rw [toNat_c]; exact hx.1)) rfl hSS ?_; clear hF a; intro a hF
        refine b_v (i := 5) rfl (by kernel_rfl) hF (fun w2 hx => v_move rfl) rfl hSS ?_; clear hF a; intro a hF
        refine b_v (i := 6) rfl (by kernel_rfl) hF (fun w2 hx => v_move rfl) rfl hSS ?_; clear hF a; intro a hF
        refine b_v (i := 7) rfl (by kernel_rfl) hF (fun w2 hx => v_ixS sl22 rfl rfl (by omega) (by omega)) rfl hSS ?_; clear hF a; intro a hF
        refine b_v (i := 8) rfl (by kernel_rfl) hF (fun w2 hx => v_load sc5 rfl (by rw [toNat_c]; exact hx.2)) rfl hSS ?_; clear hF a; intro a hF
        refine b_v (i := 9) rfl (by kernel_rfl) hF (fun w2 hx => v_xorN rfl rfl (fits_u8 hu8) (fits_u8 hv8)) rfl hSS ?_; clear hF a; intro a hF
        refine b_e (i := 10) (by kernel_rfl) rfl ?_
        refine s_bs (D := FDx) (B := B) hF sl22 rfl rfl (by decide) (by simp [Value.cells]) (by decide) hS.inv rfl ?_; clear hF a; intro w' a hm hI' hb hF
        replace hx := hx.mb hm (fun _ h => by cases h)
        replace hy := hy.mb hm (fun _ h => by cases h)
        replace hO := hO.mb hm (fun _ _ => by simp)
        replace hS := hS.mb0 hm
        clear hm hI'
        clear hSS
        obtain ⟨-, g3, o3, h3, hc3x⟩ := hx.at (byt_at hu)
        obtain ⟨-, g4, o4, h4, hc4x⟩ := hy.at (byt_at hv2)
        obtain ⟨rfl, rfl⟩ : ga = g3 ∧ oa = o3 := by cases h3; exact ⟨rfl, rfl⟩
        obtain ⟨rfl, rfl⟩ : gb = g4 ∧ ob_ = o4 := by cases h4; exact ⟨rfl, rfl⟩
        have hSS := And.intro hc3x hc4x
        clear hc3x hc4x h3 h4
        refine WL_nil ⟨hSS, ?_⟩
        refine b_e (i := 11) (by kernel_rfl) rfl ?_
        refine s_app (D := FDx) (B := B) hF rfl sl22 rfl rfl hO (hb.row (by decide)) (by simp [Value.oneCell']) (by simp [hxl]; omega) (by simp [hxl, maxLen]; omega) (hS.ext.size) (by decide) hS.inv rfl ?_; clear hF a; intro v' b' w' a ho' hm hI' hb' hF
        replace hx := hx.mb hm (fun k h => Nat.le_trans (by omega) (hO.lt k h).1)
        replace hy := hy.mb hm (fun k h => Nat.le_trans (by omega) (hO.lt k h).1)
        replace hS := hS.mb hm (fun k h => Nat.le_trans (Nat.le_refl _) (hO.lt k h).1)
        replace hO := ho'
        clear hm hI' ho' hb
        clear hSS
        obtain ⟨-, g3, o3, h3, hc3x⟩ := hx.at (byt_at hu)
        obtain ⟨-, g4, o4, h4, hc4x⟩ := hy.at (byt_at hv2)
        obtain ⟨rfl, rfl⟩ : ga = g3 ∧ oa = o3 := by cases h3; exact ⟨rfl, rfl⟩
        obtain ⟨rfl, rfl⟩ : gb = g4 ∧ ob_ = o4 := by cases h4; exact ⟨rfl, rfl⟩
        have hSS := And.intro hc3x hc4x
        clear hc3x hc4x h3 h4
        refine WL_nil ⟨hSS, ?_⟩
        refine b_v (i := 12) rfl (by kernel_rfl) hF (fun w2 hx => v_assign rfl) rfl hSS ?_; clear hF a; intro a hF
        refine b_done (by kernel_rfl) (hK _ _ ?_)
        clear hK K
        replace hF := hF.sub _ (c_ 6 rfl (c_ 0 rfl (c_ 1 rfl (c_ 7 rfl (n_)))))
        refine W_reg rfl (fun K hK => ?_)
        refine sv hF (v_move rfl) rfl ?_; clear hF a; intro a hF
        refine sv hF (v_addI rfl rfl (by omega)) rfl ?_; clear hF a; intro a hF
        refine sv hF (v_assign rfl) rfl ?_; clear hF a; intro a hF
        refine WL_nil (hK _ _ ?_)
        clear hK K
        exact ⟨m - 1, by omega, i + 1, _, _, hF.sub _ (c_ 0 rfl (c_ 1 rfl (c_ 6 rfl (c_ 7 rfl n_)))), hS, hx, hy, hO.cast (by rw [xorB_snoc hu hv2, byt_snoc]), by omega, by omega⟩
      · skip
        try simp only [decide_eq_true_eq, decide_eq_false_iff_not, Bool.not_eq_true', Bool.not_eq_false', Bool.not_true, Bool.not_false] at hc2
        refine W_exit rfl ?_
        refine W_sr rfl (fun K hK => ?_)
        refine sv hF (v_move rfl) rfl ?_; clear hF a; intro a hF
        refine sv hF (v_assign rfl) rfl ?_; clear hF a; intro a hF
        refine sv hF (v_assign rfl) rfl ?_; clear hF a; intro a hF
        refine WL_nil (hK _ _ ?_)
        clear hK K
        replace hF := hF.sub _ (c_ 5 rfl (c_ 4 rfl (c_ 31 rfl (c_ 0 rfl (c_ 1 rfl (c_ 6 rfl (c_ 7 rfl (n_))))))))
        refine W_ret ?_
        refine ⟨_, _, _, hF, rfl, rfl, ?_⟩
        obtain rfl : i = x.length := by omega
        have heq : x.length = y.length := by omega
        rw [List.take_length, heq, List.take_length] at hO
        rw [if_pos heq, decide_eq_true heq]
        exact ⟨_, _, rfl, hO, hS⟩

set_option maxRecDepth 100000 in
set_option maxHeartbeats 1000000 in
theorem rDot_ok (B M wb p : Nat) (hp : Prm wb p) (s1 s2 : Option Addr) (c1 c2 : Nat) (cs : List Int) (vals : List Value) (bss : List (List Nat)) (w : World) (hI : Inv FDx B w) (hC : Row FDx B M w (.slice s1 cs.length c1) (zints cs)) (hR : Row FDx B M w (.slice s2 vals.length c2) vals) (hR2 : Rows2 FDx B M w vals bss) (hM : M ≤ w.heap.size) (h8 : ∀ b ∈ bss, ∀ x ∈ b, x < 256) (hlen : bss.length ≤ 1000) (hlen2 : ∀ b ∈ bss, b.length ≤ 10000) : Ret Try.prog 36 [.int .i64 (wb : Int), .int .u32 (p : Int), .slice s1 cs.length c1, .slice s2 vals.length c2] w fun v w' => ∃ sl ob, v = .tuple #[sl, .bool ((rdot (some (wb, p)) cs bss).isSome)] ∧ Gam.Own FDx B w.heap.size w' 5 sl ob (byt ((rdot (some (wb, p)) cs bss).getD [])) ∧ St FDx B w w' := by
  refine enter2 71 [(0, .int .i64 (wb : Int)), (1, .int .u32 (p : Int)), (2, .slice s1 cs.length c1), (3, .slice s2 vals.length c2)] 8 9 Try.func36 rfl rfl rfl rfl rfl ?_; intro a hF
  have hS := St.refl hI
  have hvl := hR2.1
  have h816 := hp.w
  have hfz : fsz (some (wb, p)) ≤ 65536 := hp.size.2
  refine W_sr rfl (fun K hK => ?_)
  refine sv hF (v_assign rfl) rfl ?_; clear hF a; intro a hF
  refine sv hF (v_assign rfl) rfl ?_; clear hF a; intro a hF
  refine WL_nil (hK _ _ ?_)
  clear hK K
  refine W_seq ?_
  refine W_sr rfl (fun K hK => ?_)
  refine sv hF (v_move rfl) rfl ?_; clear hF a; intro a hF
  refine sv hF (v_lenS rfl sl23 rfl) rfl ?_; clear hF a; intro a hF
  refine sv hF (v_move rfl) rfl ?_; clear hF a; intro a hF
  refine sv hF (v_lenS rfl sl59 rfl) rfl ?_; clear hF a; intro a hF
  refine sb hF (v_neq rfl rfl) rfl ?_ ?_
  · clear hF a; intro hc1 a hF
    try simp only [decide_eq_true_eq, decide_eq_false_iff_not, Bool.not_eq_true', Bool.not_eq_false', Bool.not_true, Bool.not_false] at hc1
    refine sv hF (v_move rfl) rfl ?_; clear hF a; intro a hF
    refine svn hF rfl rfl rfl ?_; clear hF a; intro a hF
    refine svn hF rfl rfl rfl ?_; clear hF a; intro a hF
    refine svn hF rfl rfl rfl ?_; clear hF a; intro a hF
    refine sv hF (v_pickT rfl rfl) rfl ?_; clear hF a; intro a hF
    refine WL_nil (hK _ _ ?_)
    clear hK K
    replace hF := hF.sub _ (c_ 25 rfl (c_ 9 rfl (c_ 8 rfl (c_ 0 rfl (c_ 1 rfl (c_ 2 rfl (c_ 3 rfl (n_))))))))
    refine W_ifT hF rfl ?_
    refine W_sr rfl (fun K hK => ?_)
    refine sv hF (v_assign rfl) rfl ?_; clear hF a; intro a hF
    refine sv hF (v_assign rfl) rfl ?_; clear hF a; intro a hF
    refine WL_nil (hK _ _ ?_)
    clear hK K
    replace hF := hF.sub _ (c_ 9 rfl (c_ 8 rfl (c_ 0 rfl (c_ 1 rfl (c_ 2 rfl (c_ 3 rfl (n_)))))))
    refine W_ret ?_
    refine ⟨_, _, _, hF, rfl, rfl, ?_⟩
    rw [rdot_none1 (.inl (by omega))]
    exact ⟨_, none, rfl, Gam.Own.nil _ _ _ _ _, hS⟩
  · clear hF a; intro hc1 a hF
    try simp only [decide_eq_true_eq, decide_eq_false_iff_not, Bool.not_eq_true', Bool.not_eq_false', Bool.not_true, Bool.not_false] at hc1
    refine sv hF (v_move rfl) rfl ?_; clear hF a; intro a hF
    refine svg hF rfl ?_
    refine sv hF (v_move rfl) rfl ?_; clear hF a; intro a hF
    refine svg hF rfl ?_
    refine sv hF (v_lenS rfl sl23 rfl) rfl ?_; clear hF a; intro a hF
    refine svg hF rfl ?_
    refine sv hF (v_eql rfl rfl) rfl ?_; clear hF a; intro a hF
    refine sv hF (v_pickF rfl rfl) rfl ?_; clear hF a; intro a hF
    refine WL_nil (hK _ _ ?_)
    clear hK K
    replace hF := hF.sub _ (c_ 25 rfl (c_ 9 rfl (c_ 8 rfl (c_ 0 rfl (c_ 1 rfl (c_ 2 rfl (c_ 3 rfl (n_))))))))
    refine W_if hF rfl (fun hc2 => ?_) (fun hc2 => ?_)
    · skip
      try simp only [decide_eq_true_eq, decide_eq_false_iff_not, Bool.not_eq_true', Bool.not_eq_false', Bool.not_true, Bool.not_false] at hc2
      refine W_sr rfl (fun K hK => ?_)
      refine sv hF (v_assign rfl) rfl ?_; clear hF a; intro a hF
      refine sv hF (v_assign rfl) rfl ?_; clear hF a; intro a hF
      refine WL_nil (hK _ _ ?_)
      clear hK K
      replace hF := hF.sub _ (c_ 9 rfl (c_ 8 rfl (c_ 0 rfl (c_ 1 rfl (c_ 2 rfl (c_ 3 rfl (n_)))))))
      refine W_ret ?_
      refine ⟨_, _, _, hF, rfl, rfl, ?_⟩
      rw [rdot_none1 (.inr (by omega))]
      exact ⟨_, none, rfl, Gam.Own.nil _ _ _ _ _, hS⟩
    · skip
      try simp only [decide_eq_true_eq, decide_eq_false_iff_not, Bool.not_eq_true', Bool.not_eq_false', Bool.not_true, Bool.not_false] at hc2
      refine W_skip ?_
      obtain ⟨b0, hb0⟩ : ∃ b, bss[0]? = some b := ⟨_, List.getElem?_eq_getElem (by omega)⟩
      obtain ⟨ci0, hci0⟩ : ∃ b, cs[0]? = some b := ⟨_, List.getElem?_eq_getElem (by omega)⟩
      obtain ⟨v0, hv0⟩ : ∃ v, vals[0]? = some v := ⟨_, List.getElem?_eq_getElem (by omega)⟩
      have hRb0 := hR2.2 0 v0 b0 hv0 hb0
      obtain ⟨sb0, cb0, rfl⟩ := hRb0.sl
      rw [byt_length] at hv0
      clear hRb0
      refine W_sr rfl (fun K hK => ?_)
      refine sv hF (v_assign rfl) rfl ?_; clear hF a; intro a hF
      refine WL_nil (hK _ _ ?_)
      clear hK K
      replace hF := hF.sub _ (c_ 10 rfl (c_ 9 rfl (c_ 8 rfl (c_ 0 rfl (c_ 1 rfl (c_ 2 rfl (c_ 3 rfl (n_))))))))
      refine W_seq ?_
      refine W_sr rfl (fun K hK => ?_)
      refine sv hF (v_assign rfl) rfl ?_; clear hF a; intro a hF
      refine WL_nil (hK _ _ ?_)
      clear hK K
      refine W_block ?_
      refine W_loop (fun m a w1 => ∃ (r : Nat) (v10 : Value) (b10 : Option Nat) (xs : List (List Nat)), Fr 71 [(0, .int .i64 (wb : Int)), (1, .int .u32 (p : Int)), (2, .slice s1 cs.length c1), (3, .slice s2 vals.length c2), (10, v10), (11, .int .i64 (r : Int))] a ∧ St FDx B w w1 ∧ Row FDx B M w1 (.slice s1 cs.length c1) (zints cs) ∧ Row FDx B M w1 (.slice s2 vals.length c2) vals ∧ Rows2 FDx B M w1 vals bss ∧ Gam.Own FDx B w.heap.size w1 5 v10 b10 (byt (if r = 0 then [] else xs.foldl xorB (List.replicate b0.length 0))) ∧ rmuls (some (wb, p)) (cs.take r) (bss.take r) = some xs ∧ (∀ x ∈ xs, (∀ u ∈ x, u < 256) ∧ x.length = b0.length) ∧ xs.length = r ∧ r ≤ bss.length ∧ m + r = bss.length) (bss.length) ?_ ?_
      · skip
        exact ⟨0, _, none, [], hF.sub _ (c_ 0 rfl (c_ 1 rfl (c_ 2 rfl (c_ 3 rfl (c_ 10 rfl (c_ 11 rfl n_)))))), hS, hC, hR, hR2, (Gam.Own.nil _ _ _ _ _).cast rfl, rfl, by simp, rfl, by omega, by omega⟩
      · skip
        clear hF
        clear hS hC hR hR2
        rintro m a w1 ⟨r, v10, b10, xs, hF, hS, hC, hR, hR2, hO, hmu, hxs, hxl, hr, hm⟩
        refine W_seq ?_
        refine W_sr rfl (fun K hK => ?_)
        refine sv hF (v_move rfl) rfl ?_; clear hF a; intro a hF
        refine sv hF (v_move rfl) rfl ?_; clear hF a; intro a hF
        refine sv hF (v_lenS rfl sl23 rfl) rfl ?_; clear hF a; intro a hF
        refine sv hF (v_lss rfl rfl) rfl ?_; clear hF a; intro a hF
        refine WL_nil (hK _ _ ?_)
        clear hK K
        replace hF := hF.sub _ (c_ 29 rfl (c_ 0 rfl (c_ 1 rfl (c_ 2 rfl (c_ 3 rfl (c_ 10 rfl (c_ 11 rfl (n_))))))))
        refine W_if hF rfl (fun hc3 => ?_) (fun hc3 => ?_)
        · skip
          try simp only [decide_eq_true_eq, decide_eq_false_iff_not, Bool.not_eq_true', Bool.not_eq_false', Bool.not_true, Bool.not_false] at hc3
          have hlt : r < bss.length := by omega
          obtain ⟨ci, hci⟩ : ∃ c, cs[r]? = some c := ⟨_, List.getElem?_eq_getElem (by omega)⟩
          obtain ⟨b, hb⟩ : ∃ b, bss[r]? = some b := ⟨_, List.getElem?_eq_getElem hlt⟩
          obtain ⟨vr, hvr⟩ : ∃ v, vals[r]? = some v := ⟨_, List.getElem?_eq_getElem (by omega)⟩
          have hRb := hR2.2 r vr b hvr hb
          obtain ⟨sb, cb, rfl⟩ := hRb.sl
          rw [byt_length] at hRb hvr
          obtain ⟨-, gr, or_, hgr, hcr⟩ := hR.at hvr
          obtain ⟨-, gc, oc, hgc, hcc⟩ := hC.at (zints_at hci)
          subst hgr hgc
          clear hcr hcc
          have hb8 := h8 b (List.mem_of_getElem? hb)
          have hbl := hlen2 b (List.mem_of_getElem? hb)
          refine W_skip ?_
          refine W_seq ?_
          refine W_block ?_
          refine W_sd (m := 16) rfl hmix hS.inv (fun K hK w1 hS' hh => ?_)
          replace hC := hC.st hS'
          replace hR := hR.st hS'
          replace hR2 := hR2.st hS'
          replace hO := hO.st (by decide) hS'
          replace hRb := hRb.st hS'
          replace hS := hS.trans hS'
          clear hS'
          clear hh
          refine a_v (i := 0) rfl (by kernel_rfl) hF (fun w2 hx => v_move rfl) rfl ?_; clear hF a; intro a hF
          refine a_v (i := 1) rfl (by kernel_rfl) hF (fun w2 hx => v_move rfl) rfl ?_; clear hF a; intro a hF
          refine a_v (i := 2) rfl (by kernel_rfl) hF (fun w2 hx => v_move rfl) rfl ?_; clear hF a; intro a hF
          refine a_v (i := 3) rfl (by kernel_rfl) hF (fun w2 hx => v_move rfl) rfl ?_; clear hF a; intro a hF
          refine a_v (i := 4) rfl (by kernel_rfl) hF (fun w2 hx => v_ixS sl23 rfl rfl (by omega) (by omega)) rfl ?_; clear hF a; intro a hF
          refine a_v (i := 5) rfl (by kernel_rfl) hF (fun w2 hx => v_load sc3 rfl (by rw [toNat_c]; have h := ((hC.ext hx).at (zints_at hci)).2; obtain ⟨g9, o9, e9, h9⟩ := h; cases e9; exact h9)) rfl ?_; clear hF a; intro a hF
          refine a_v (i := 6) rfl (by kernel_rfl) hF (fun w2 hx => v_move rfl) rfl ?_; clear hF a; intro a hF
          refine a_v (i := 7) rfl (by kernel_rfl) hF (fun w2 hx => v_move rfl) rfl ?_; clear hF a; intro a hF
          refine a_v (i := 8) rfl (by kernel_rfl) hF (fun w2 hx => v_ixS sl59 rfl rfl (by omega) (by omega)) rfl ?_; clear hF a; intro a hF
          refine a_v (i := 9) rfl (by kernel_rfl) hF (fun w2 hx => v_load sc22 rfl (by rw [toNat_c]; have h := ((hR.ext hx).at (hvr)).2; obtain ⟨g9, o9, e9, h9⟩ := h; cases e9; exact h9)) rfl ?_; clear hF a; intro a hF
          refine a_e (i := 10) rfl (by kernel_rfl) ?_
          refine sc hF rfl rfl rfl en37 rfl (rMul3_ok B M wb p hp ci sb cb b _ hS.inv hRb (Nat.le_trans hM hS.ext.size) hb8 (by omega)) ?_; clear hF a; intro v w' a hv hF
          clear hRb
          obtain ⟨sl, ob, rfl, hX, hS'⟩ := hv
          replace hX := hX.le hS.ext.size
          refine WL_nil ⟨hS'.ext, ?_⟩
          replace hC := hC.st hS'
          replace hR := hR.st hS'
          replace hR2 := hR2.st hS'
          replace hO := hO.st (by decide) hS'
          replace hS := hS.trans hS'
          clear hS'
          refine a_v (i := 11) rfl (by kernel_rfl) hF (fun w2 hx => v_move rfl) rfl ?_; clear hF a; intro a hF
          refine a_v (i := 12) rfl (by kernel_rfl) hF (fun w2 hx => v_ext rfl rfl) rfl ?_; clear hF a; intro a hF
          refine a_v (i := 13) rfl (by kernel_rfl) hF (fun w2 hx => v_ext rfl rfl) rfl ?_; clear hF a; intro a hF
          refine a_v (i := 14) rfl (by kernel_rfl) hF (fun w2 hx => v_assign rfl) rfl ?_; clear hF a; intro a hF
          refine a_v (i := 15) rfl (by kernel_rfl) hF (fun w2 hx => v_assign rfl) rfl ?_; clear hF a; intro a hF
          refine a_done (by kernel_rfl) (hK _ _ ?_)
          clear hK K
          replace hF := hF.sub _ (c_ 13 rfl (c_ 12 rfl (c_ 0 rfl (c_ 1 rfl (c_ 2 rfl (c_ 3 rfl (c_ 10 rfl (c_ 11 rfl (n_)))))))))
          refine W_seq ?_
          refine W_sd (m := 14) rfl hmix hS.inv (fun K hK w1 hS' hh => ?_)
          replace hC := hC.st hS'
          replace hR := hR.st hS'
          replace hR2 := hR2.st hS'
          replace hO := hO.st (by decide) hS'
          replace hX := hX.st (by decide) hS'
          replace hS := hS.trans hS'
          clear hS'
          clear hh
          refine a_v (i := 0) rfl (by kernel_rfl) hF (fun w2 hx => v_move rfl) rfl ?_; clear hF a; intro a hF
          refine a_b (i := 1) rfl (by kernel_rfl) hF (fun w2 hx => v_not rfl) rfl ?_ ?_
          · clear hF a; intro hc4 a hF
            try simp only [decide_eq_true_eq, decide_eq_false_iff_not, Bool.not_eq_true', Bool.not_eq_false', Bool.not_true, Bool.not_false] at hc4
            refine a_v (i := 2) rfl (by kernel_rfl) hF (fun w2 hx => v_move rfl) rfl ?_; clear hF a; intro a hF
            refine a_vn (i := 3) rfl (by kernel_rfl) hF rfl rfl rfl ?_; clear hF a; intro a hF
            refine a_vn (i := 4) rfl (by kernel_rfl) hF rfl rfl rfl ?_; clear hF a; intro a hF
            refine a_vn (i := 5) rfl (by kernel_rfl) hF rfl rfl rfl ?_; clear hF a; intro a hF
            refine a_vn (i := 6) rfl (by kernel_rfl) hF rfl rfl rfl ?_; clear hF a; intro a hF
            refine a_vn (i := 7) rfl (by kernel_rfl) hF rfl rfl rfl ?_; clear hF a; intro a hF
            refine a_vn (i := 8) rfl (by kernel_rfl) hF rfl rfl rfl ?_; clear hF a; intro a hF
            refine a_vn (i := 9) rfl (by kernel_rfl) hF rfl rfl rfl ?_; clear hF a; intro a hF
            refine a_vn (i := 10) rfl (by kernel_rfl) hF rfl rfl rfl ?_; clear hF a; intro a hF
            refine a_vn (i := 11) rfl (by kernel_rfl) hF rfl rfl rfl ?_; clear hF a; intro a hF
            refine a_vn (i := 12) rfl (by kernel_rfl) hF rfl rfl rfl ?_; clear hF a; intro a hF
            refine a_v (i := 13) rfl (by kernel_rfl) hF (fun w2 hx => v_pickT rfl rfl) rfl ?_; clear hF a; intro a hF
            refine a_done (by kernel_rfl) (hK _ _ ?_)
            clear hK K
            replace hF := hF.sub _ (c_ 59 rfl (c_ 12 rfl (c_ 0 rfl (c_ 1 rfl (c_ 2 rfl (c_ 3 rfl (c_ 10 rfl (c_ 11 rfl (n_)))))))))
            refine W_ifT hF rfl ?_
            refine W_sr rfl (fun K hK => ?_)
            refine sv hF (v_assign rfl) rfl ?_; clear hF a; intro a hF
            refine sv hF (v_assign rfl) rfl ?_; clear hF a; intro a hF
            refine WL_nil (hK _ _ ?_)
            clear hK K
            replace hF := hF.sub _ (c_ 9 rfl (c_ 8 rfl (c_ 12 rfl (c_ 0 rfl (c_ 1 rfl (c_ 2 rfl (c_ 3 rfl (c_ 10 rfl (c_ 11 rfl (n_))))))))))
            refine W_ret ?_
            refine ⟨_, _, _, hF, rfl, rfl, ?_⟩
            rw [rdot_none2 (rmuls_none hci hb (by simpa using hc4))]
            exact ⟨_, none, rfl, Gam.Own.nil _ _ _ _ _, hS⟩
          · clear hF a; intro hc4 a hF
            try simp only [decide_eq_true_eq, decide_eq_false_iff_not, Bool.not_eq_true', Bool.not_eq_false', Bool.not_true, Bool.not_false] at hc4
            refine a_v (i := 2) rfl (by kernel_rfl) hF (fun w2 hx => v_move rfl) rfl ?_; clear hF a; intro a hF
            refine a_vg (i := 3) rfl (by kernel_rfl) hF rfl (fun w2 hx => v_move rfl) rfl ?_; clear hF a; intro a hF
            refine a_vg (i := 4) rfl (by kernel_rfl) hF rfl (fun w2 hx => v_move rfl) rfl ?_; clear hF a; intro a hF
            refine a_vg (i := 5) rfl (by kernel_rfl) hF rfl (fun w2 hx => v_ixS sl59 rfl rfl (by omega) (by omega)) rfl ?_; clear hF a; intro a hF
            refine a_vg (i := 6) rfl (by kernel_rfl) hF rfl (fun w2 hx => v_load sc22 rfl (by rw [toNat_c]; have h := ((hR.ext hx).at (hvr)).2; obtain ⟨g9, o9, e9, h9⟩ := h; cases e9; exact h9)) rfl ?_; clear hF a; intro a hF
            refine a_vg (i := 7) rfl (by kernel_rfl) hF rfl (fun w2 hx => v_lenS rfl sl22 rfl) rfl ?_; clear hF a; intro a hF
            refine a_vg (i := 8) rfl (by kernel_rfl) hF rfl (fun w2 hx => v_move rfl) rfl ?_; clear hF a; intro a hF
            refine a_vg (i := 9) rfl (by kernel_rfl) hF rfl (fun w2 hx => v_ixS sl59 rfl rfl (by omega) (by omega)) rfl ?_; clear hF a; intro a hF
            refine a_vg (i := 10) rfl (by kernel_rfl) hF rfl (fun w2 hx => v_load sc22 rfl (by have h := ((hR.ext hx).at (hv0)).2; obtain ⟨g9, o9, e9, h9⟩ := h; cases e9; exact h9)) rfl ?_; clear hF a; intro a hF
            refine a_vg (i := 11) rfl (by kernel_rfl) hF rfl (fun w2 hx => v_lenS rfl sl22 rfl) rfl ?_; clear hF a; intro a hF
            refine a_vg (i := 12) rfl (by kernel_rfl) hF rfl (fun w2 hx => v_neq rfl rfl) rfl ?_; clear hF a; intro a hF
            refine a_v (i := 13) rfl (by kernel_rfl) hF (fun w2 hx => v_pickF rfl rfl) rfl ?_; clear hF a; intro a hF
            refine a_done (by kernel_rfl) (hK _ _ ?_)
            clear hK K
            replace hF := hF.sub _ (c_ 59 rfl (c_ 12 rfl (c_ 0 rfl (c_ 1 rfl (c_ 2 rfl (c_ 3 rfl (c_ 10 rfl (c_ 11 rfl (n_)))))))))
            refine W_if hF rfl (fun hc5 => ?_) (fun hc5 => ?_)
            · skip
              try simp only [decide_eq_true_eq, decide_eq_false_iff_not, Bool.not_eq_true', Bool.not_eq_false', Bool.not_true, Bool.not_false] at hc5
              refine W_sr rfl (fun K hK => ?_)
              refine sv hF (v_assign rfl) rfl ?_; clear hF a; intro a hF
              refine sv hF (v_assign rfl) rfl ?_; clear hF a; intro a hF
              refine WL_nil (hK _ _ ?_)
              clear hK K
              replace hF := hF.sub _ (c_ 9 rfl (c_ 8 rfl (c_ 12 rfl (c_ 0 rfl (c_ 1 rfl (c_ 2 rfl (c_ 3 rfl (c_ 10 rfl (c_ 11 rfl (n_))))))))))
              refine W_ret ?_
              refine ⟨_, _, _, hF, rfl, rfl, ?_⟩
              rw [rdot_unlike hp.w hb0 hci0 hb hci (by omega)]
              exact ⟨_, none, rfl, Gam.Own.nil _ _ _ _ _, hS⟩
            · skip
              try simp only [decide_eq_true_eq, decide_eq_false_iff_not, Bool.not_eq_true', Bool.not_eq_false', Bool.not_true, Bool.not_false] at hc5
              refine W_skip ?_
              obtain ⟨x, hx⟩ := Option.isSome_iff_exists.1 (show (rmul (some (wb, p)) ci b).isSome = true by simpa using hc4)
              rw [hx] at hX
              simp only [Option.getD_some] at hX
              have hxlen := rmul_len hp.w hx
              have hpr := rmul_props hfz hx
              have hbe : b.length = b0.length := by omega
              have hxs2 : ∀ z ∈ xs ++ [x], (∀ u ∈ z, u < 256) ∧ z.length = b0.length := by intro z hz; rw [List.mem_append] at hz; rcases hz with hz | hz; exact hxs z hz; (obtain rfl := List.mem_singleton.1 hz; exact ⟨hpr.1, by omega⟩)
              have hst := rmuls_step (by omega) hmu hci hb hx
              obtain ⟨ax, cx, rfl⟩ := hX.shape
              rw [byt_length] at hF hX
              refine W_sr rfl (fun K hK => ?_)
              refine sv hF (v_move rfl) rfl ?_; clear hF a; intro a hF
              refine sv hF (v_eql rfl rfl) rfl ?_; clear hF a; intro a hF
              refine WL_nil (hK _ _ ?_)
              clear hK K
              replace hF := hF.sub _ (c_ 61 rfl (c_ 12 rfl (c_ 0 rfl (c_ 1 rfl (c_ 2 rfl (c_ 3 rfl (c_ 10 rfl (c_ 11 rfl (n_)))))))))
              refine W_if hF rfl (fun hc6 => ?_) (fun hc6 => ?_)
              · skip
                try simp only [decide_eq_true_eq, decide_eq_false_iff_not, Bool.not_eq_true', Bool.not_eq_false', Bool.not_true, Bool.not_false] at hc6
                obtain rfl : r = 0 := by omega
                obtain rfl : xs = [] := List.eq_nil_of_length_eq_zero hxl
                refine W_reg rfl (fun K hK => ?_)
                refine sv hF (v_move rfl) rfl ?_; clear hF a; intro a hF
                refine sv hF (v_assign rfl) rfl ?_; clear hF a; intro a hF
                refine WL_nil (hK _ _ ?_)
                clear hK K
                replace hF := hF.sub _ (c_ 10 rfl (c_ 0 rfl (c_ 1 rfl (c_ 2 rfl (c_ 3 rfl (c_ 11 rfl (n_)))))))
                refine W_reg rfl (fun K hK => ?_)
                refine sv hF (v_move rfl) rfl ?_; clear hF a; intro a hF
                refine sv hF (v_addI rfl rfl (by omega)) rfl ?_; clear hF a; intro a hF
                refine sv hF (v_assign rfl) rfl ?_; clear hF a; intro a hF
                refine WL_nil (hK _ _ ?_)
                clear hK K
                first
                  | exact ⟨m - 1, by omega, 1, _, _, [x], hF.sub _ (c_ 0 rfl (c_ 1 rfl (c_ 2 rfl (c_ 3 rfl (c_ 10 rfl (c_ 11 rfl n_)))))), hS, hC, hR, hR2, hX.cast (by show byt x = byt (xorB (List.replicate b0.length 0) x); rw [show b0.length = x.length by omega, xorB_zero]), hst, hxs2, rfl, by omega, by omega⟩
                  | exact ⟨m - 1, by omega, r + 1, _, _, _, hF.sub _ (c_ 0 rfl (c_ 1 rfl (c_ 2 rfl (c_ 3 rfl (c_ 10 rfl (c_ 11 rfl n_)))))), hS, hC, hR, hR2, hO.cast (by rw [if_pos (by omega), if_neg (by omega), List.foldl_append]; rfl), hst, hxs2, by simp [hxl], by omega, by omega⟩
              · skip
                try simp only [decide_eq_true_eq, decide_eq_false_iff_not, Bool.not_eq_true', Bool.not_eq_false', Bool.not_true, Bool.not_false] at hc6
                rw [if_neg (show ¬ r = 0 by omega)] at hO
                obtain ⟨a10, c10, rfl⟩ := hO.shape
                rw [byt_length] at hF hO
                have hfl := foldl_len xs (List.replicate b0.length 0) (by simp) (fun z hz => (hxs z hz).2)
                refine W_sr rfl (fun K hK => ?_)
                refine sv hF (v_move rfl) rfl ?_; clear hF a; intro a hF
                refine sv hF (v_move rfl) rfl ?_; clear hF a; intro a hF
                refine sc hF rfl rfl rfl en38 rfl (rAdd_ok B _ a10 ax c10 cx _ x _ hS.inv (hO.row (by decide)) (hX.row (by decide)) (Nat.le_refl _) (foldl_lt xs _ (by simp) (fun z hz => (hxs z hz).1)) hpr.1 (by omega)) ?_; clear hF a; intro v w' a hv hF
                clear hO hX
                obtain ⟨sl, ob2, rfl, hO, hS'⟩ := hv
                replace hO := hO.le hS.ext.size
                replace hC := hC.st hS'
                replace hR := hR.st hS'
                replace hR2 := hR2.st hS'
                replace hS := hS.trans hS'
                clear hS'
                refine sv hF (v_move rfl) rfl ?_; clear hF a; intro a hF
                refine sv hF (v_ext rfl rfl) rfl ?_; clear hF a; intro a hF
                refine sv hF (v_ext rfl rfl) rfl ?_; clear hF a; intro a hF
                refine sv hF (v_assign rfl) rfl ?_; clear hF a; intro a hF
                refine sv hF (v_assign rfl) rfl ?_; clear hF a; intro a hF
                refine WL_nil (hK _ _ ?_)
                clear hK K
                replace hF := hF.sub _ (c_ 14 rfl (c_ 0 rfl (c_ 1 rfl (c_ 2 rfl (c_ 3 rfl (c_ 10 rfl (c_ 11 rfl (n_))))))))
                refine W_reg rfl (fun K hK => ?_)
                refine sv hF (v_move rfl) rfl ?_; clear hF a; intro a hF
                refine sv hF (v_assign rfl) rfl ?_; clear hF a; intro a hF
                refine WL_nil (hK _ _ ?_)
                clear hK K
                replace hF := hF.sub _ (c_ 10 rfl (c_ 0 rfl (c_ 1 rfl (c_ 2 rfl (c_ 3 rfl (c_ 11 rfl (n_)))))))
                refine W_reg rfl (fun K hK => ?_)
                refine sv hF (v_move rfl) rfl ?_; clear hF a; intro a hF
                refine sv hF (v_addI rfl rfl (by omega)) rfl ?_; clear hF a; intro a hF
                refine sv hF (v_assign rfl) rfl ?_; clear hF a; intro a hF
                refine WL_nil (hK _ _ ?_)
                clear hK K
                first
                  | exact ⟨m - 1, by omega, 1, _, _, [x], hF.sub _ (c_ 0 rfl (c_ 1 rfl (c_ 2 rfl (c_ 3 rfl (c_ 10 rfl (c_ 11 rfl n_)))))), hS, hC, hR, hR2, hX.cast (by show byt x = byt (xorB (List.replicate b0.length 0) x); rw [show b0.length = x.length by omega, xorB_zero]), hst, hxs2, rfl, by omega, by omega⟩
                  | exact ⟨m - 1, by omega, r + 1, _, _, _, hF.sub _ (c_ 0 rfl (c_ 1 rfl (c_ 2 rfl (c_ 3 rfl (c_ 10 rfl (c_ 11 rfl n_)))))), hS, hC, hR, hR2, hO.cast (by rw [if_pos (by omega), if_neg (by omega), List.foldl_append]; rfl), hst, hxs2, by simp [hxl], by omega, by omega⟩
        · skip
          try simp only [decide_eq_true_eq, decide_eq_false_iff_not, Bool.not_eq_true', Bool.not_eq_false', Bool.not_true, Bool.not_false] at hc3
          refine W_exit rfl ?_
          refine W_sr rfl (fun K hK => ?_)
          refine sv hF (v_move rfl) rfl ?_; clear hF a; intro a hF
          refine sv hF (v_assign rfl) rfl ?_; clear hF a; intro a hF
          refine sv hF (v_assign rfl) rfl ?_; clear hF a; intro a hF
          refine WL_nil (hK _ _ ?_)
          clear hK K
          replace hF := hF.sub _ (c_ 9 rfl (c_ 8 rfl (c_ 70 rfl (c_ 0 rfl (c_ 1 rfl (c_ 2 rfl (c_ 3 rfl (c_ 10 rfl (c_ 11 rfl (n_))))))))))
          refine W_ret ?_
          refine ⟨_, _, _, hF, rfl, rfl, ?_⟩
          obtain rfl : r = bss.length := by omega
          rw [List.take_length, List.take_of_length_le (by omega)] at hmu
          rw [if_neg (by omega)] at hO
          obtain ⟨x0, h3, h4⟩ := rmuls_head hmu hb0 hci0
          have hx0 := rmul_len hp.w h3
          rw [rdot_some (by omega) (by omega) hmu, rsum_t h4 (fun z hz => by rw [(hxs z hz).2, hx0]), hx0]
          exact ⟨_, _, rfl, hO, hS⟩

end Go.Proofs.Ytlkifpmlpnaaoaa
