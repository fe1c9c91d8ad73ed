/- The statement RegionSpreads, walked: it returns true. -/
import Derived.Test.YtlkifpmlpnaaoaaFAw03
set_option linter.unusedVariables false
set_option linter.unusedSimpArgs false
namespace Go.Proofs.Ytlkifpmlpnaaoaa
open Go Go.Gam


namespace FxFRegionSpreads
theorem en15 : Ent Try.prog 15 := ent Try.func15 (by kernel_rfl) (by kernel_rfl)
theorem en16 : Ent Try.prog 16 := ent Try.func16 (by kernel_rfl) (by kernel_rfl)
theorem en23 : Ent Try.prog 23 := ent Try.func23 (by kernel_rfl) (by kernel_rfl)
theorem en24 : Ent Try.prog 24 := ent Try.func24 (by kernel_rfl) (by kernel_rfl)
theorem en25 : Ent Try.prog 25 := ent Try.func25 (by kernel_rfl) (by kernel_rfl)
theorem en26 : Ent Try.prog 26 := ent Try.func26 (by kernel_rfl) (by kernel_rfl)
theorem en27 : Ent Try.prog 27 := ent Try.func27 (by kernel_rfl) (by kernel_rfl)
theorem ar45 : ArrOf Try.prog 45 2 := ar_of Try.underlying45 (by kernel_rfl)
theorem hmix : Try.prog.follows .mixedOrders = true := by kernel_rfl
theorem sc43 : Scalar Try.prog 43 := ⟨_, Try.underlying43, by simp, by simp⟩
theorem sl22 : Sl Try.prog 22 5 (.int .u8 0) 1 := sl_of Try.underlying22 rfl (by kernel_rfl)
end FxFRegionSpreads
open FxFRegionSpreads

set_option maxRecDepth 100000 in
set_option maxHeartbeats 1000000 in
theorem RegionSpreads_ok (B M : Nat) (lg : Bool) (c0 c1 : Nat) (pb : Option Addr) (cb : Nat) (b : List Nat) (w : World) (hI : Inv FDx B w) (hM : M ≤ w.heap.size) (hc0 : c0 < 65536) (hc1 : c1 < 65536) (hb : Row FDx B M w (.slice pb b.length cb) (byt b)) (hb8 : ∀ x ∈ b, x < 256) (hbl : b.length ≤ maxLen) : Ret Try.prog 5 [.bool lg, .agg #[.int .u16 (c0 : Int), .int .u16 (c1 : Int)], .slice pb b.length cb] w fun v w' => v = .bool true ∧ St FDx B w w' := by
  refine enter 162 [(0, .bool lg), (1, .agg #[.int .u16 (c0 : Int), .int .u16 (c1 : Int)]), (2, .slice pb b.length cb)] 6 Try.func5 rfl rfl rfl rfl rfl ?_; intro a hF
  have hS := St.refl hI
  replace hb := hb.mono hM
  simp only [maxLen] at hbl
  refine W_sr rfl (fun K hK => ?_)
  refine s_box (D := FDx) (B := B) hF rfl (by decide) hS.inv rfl ?_; clear hF a; intro w' a hm hbox hsz hF
  replace hb := (hb.mb hm (fun _ h => by cases h)).mono hm.size
  replace hS := hS.mb0 hm
  clear hm
  generalize w.heap.size = g at *
  refine sv hF (v_assign rfl) rfl ?_; clear hF a; intro a hF
  refine WL_nil (hK _ _ ?_)
  clear hK K
  replace hF := hF.sub _ (c_ 6 rfl (c_ 4 rfl (c_ 0 rfl (c_ 2 rfl (n_)))))
  refine W_sr rfl (fun K hK => ?_)
  refine sc hF rfl rfl rfl en15 rfl (aw03_ok B _ hS.inv) ?_; clear hF a; intro v w' a hv hF
  obtain ⟨rfl, hS'⟩ := hv
  replace hb := (hb.st hS').mono hS'.ext.size
  replace hbox := hbox.st (by decide) hS'
  replace hS := hS.trans hS'
  clear hS'
  refine sv hF (v_assign rfl) rfl ?_; clear hF a; intro a hF
  refine WL_nil (hK _ _ ?_)
  clear hK K
  replace hF := hF.sub _ (c_ 7 rfl (c_ 6 rfl (c_ 4 rfl (c_ 0 rfl (c_ 2 rfl (n_))))))
  refine W_seq ?_
  refine W_sr rfl (fun K hK => ?_)
  refine sv hF (v_move rfl) rfl ?_; clear hF a; intro a hF
  refine sv hF (v_lenS rfl sl22 rfl) rfl ?_; clear hF a; intro a hF
  refine sb hF (v_gtr rfl rfl) rfl ?_ ?_
  · clear hF a; intro hc1 a hF
    try simp only [decide_eq_true_eq, decide_eq_false_iff_not, Bool.not_eq_true', Bool.not_eq_false', Bool.not_true, Bool.not_false] at hc1
    refine sv hF (v_move rfl) rfl ?_; clear hF a; intro a hF
    refine svn hF rfl rfl rfl ?_; clear hF a; intro a hF
    refine svn hF rfl rfl rfl ?_; clear hF a; intro a hF
    refine svn hF rfl rfl rfl ?_; clear hF a; intro a hF
    refine svn hF rfl rfl rfl ?_; clear hF a; intro a hF
    refine sv hF (v_pickT rfl rfl) rfl ?_; clear hF a; intro a hF
    refine WL_nil (hK _ _ ?_)
    clear hK K
    replace hF := hF.sub _ (c_ 39 rfl (c_ 7 rfl (c_ 6 rfl (c_ 4 rfl (c_ 0 rfl (c_ 2 rfl (n_)))))))
    refine W_ifT hF rfl ?_
    refine W_sr rfl (fun K hK => ?_)
    refine sv hF (v_move rfl) rfl ?_; clear hF a; intro a hF
    refine sv hF (v_assign rfl) rfl ?_; clear hF a; intro a hF
    refine WL_nil (hK _ _ ?_)
    clear hK K
    replace hF := hF.sub _ (c_ 6 rfl (c_ 7 rfl (c_ 4 rfl (c_ 0 rfl (c_ 2 rfl (n_))))))
    refine W_ret ?_
    refine ⟨_, _, hF, rfl, ?_⟩
    exact ⟨rfl, hS⟩
  · clear hF a; intro hc1 a hF
    try simp only [decide_eq_true_eq, decide_eq_false_iff_not, Bool.not_eq_true', Bool.not_eq_false', Bool.not_true, Bool.not_false] at hc1
    refine sv hF (v_move rfl) rfl ?_; clear hF a; intro a hF
    refine svg hF rfl ?_
    refine sv hF (v_move rfl) rfl ?_; clear hF a; intro a hF
    refine svg hF rfl ?_
    refine sv hF (v_lenS rfl sl22 rfl) rfl ?_; clear hF a; intro a hF
    refine svg hF rfl ?_
    refine sv hF (v_remI rfl rfl (by omega) (by omega)) rfl ?_; clear hF a; intro a hF
    refine svg hF rfl ?_
    refine sv hF (v_neq rfl rfl) rfl ?_; clear hF a; intro a hF
    refine sv hF (v_pickF rfl rfl) rfl ?_; clear hF a; intro a hF
    refine WL_nil (hK _ _ ?_)
    clear hK K
    replace hF := hF.sub _ (c_ 39 rfl (c_ 7 rfl (c_ 6 rfl (c_ 4 rfl (c_ 0 rfl (c_ 2 rfl (n_)))))))
    refine W_if hF rfl (fun hc2 => ?_) (fun hc2 => ?_)
    · skip
      try simp only [decide_eq_true_eq, decide_eq_false_iff_not, Bool.not_eq_true', Bool.not_eq_false', Bool.not_true, Bool.not_false] at hc2
      refine W_sr rfl (fun K hK => ?_)
      refine sv hF (v_move rfl) rfl ?_; clear hF a; intro a hF
      refine sv hF (v_assign rfl) rfl ?_; clear hF a; intro a hF
      refine WL_nil (hK _ _ ?_)
      clear hK K
      replace hF := hF.sub _ (c_ 6 rfl (c_ 7 rfl (c_ 4 rfl (c_ 0 rfl (c_ 2 rfl (n_))))))
      refine W_ret ?_
      refine ⟨_, _, hF, rfl, ?_⟩
      exact ⟨rfl, hS⟩
    · skip
      try simp only [decide_eq_true_eq, decide_eq_false_iff_not, Bool.not_eq_true', Bool.not_eq_false', Bool.not_true, Bool.not_false] at hc2
      refine W_skip ?_
      refine W_sr rfl (fun K hK => ?_)
      refine sv hF (v_move rfl) rfl ?_; clear hF a; intro a hF
      refine sc hF rfl rfl rfl en16 rfl (field3_ok B lg _ hS.inv) ?_; clear hF a; intro v w' a hv hF
      obtain ⟨fv, rfl, hf, hS'⟩ := hv
      obtain ⟨⟨wb, p⟩, hq⟩ : ∃ q, fq lg = q := ⟨_, rfl⟩
      have hq1 : (fq lg).1 = wb := by rw [hq]
      have hq2 : (fq lg).2 = p := by rw [hq]
      rw [hq] at hf
      rw [hq1, hq2] at hF
      clear hq1 hq2
      have hp : Prm wb p := hf.1
      obtain ⟨kk, rfl, -⟩ := hf.2
      replace hb := (hb.st hS').mono hS'.ext.size
      replace hbox := hbox.st (by decide) hS'
      replace hS := hS.trans hS'
      clear hS'
      refine sv hF (v_move rfl) rfl ?_; clear hF a; intro a hF
      refine sv hF (v_ext rfl rfl) rfl ?_; clear hF a; intro a hF
      refine sv hF (v_ext rfl rfl) rfl ?_; clear hF a; intro a hF
      refine sv hF (v_ext rfl rfl) rfl ?_; clear hF a; intro a hF
      refine sv hF (v_assign rfl) rfl ?_; clear hF a; intro a hF
      refine sv hF (v_assign rfl) rfl ?_; clear hF a; intro a hF
      refine sv hF (v_assign rfl) rfl ?_; clear hF a; intro a hF
      refine WL_nil (hK _ _ ?_)
      clear hK K
      replace hF := hF.sub _ (c_ 8 rfl (c_ 7 rfl (c_ 6 rfl (c_ 4 rfl (c_ 2 rfl (n_))))))
      refine W_seq ?_
      refine W_sr rfl (fun K hK => ?_)
      refine sv hF (v_move rfl) rfl ?_; clear hF a; intro a hF
      refine sv hF ((v_eqlNil (by exact Try.underlying25) rfl rfl).as (congrArg Value.bool (rfl))) rfl ?_; clear hF a; intro a hF
      refine WL_nil (hK _ _ ?_)
      clear hK K
      replace hF := hF.sub _ (c_ 48 rfl (c_ 8 rfl (c_ 7 rfl (c_ 6 rfl (c_ 4 rfl (c_ 2 rfl (n_)))))))
      refine W_ifF hF rfl ?_
      refine W_skip ?_
      refine W_sd (m := 7) rfl hmix hS.inv (fun K hK w1 hS' hh => ?_)
      replace hb := (hb.st hS').mono hS'.ext.size
      replace hbox := hbox.st (by decide) hS'
      replace hf := hf.st hS'
      replace hS := hS.trans hS'
      clear hS'
      clear hh
      refine a_v (i := 0) rfl (by kernel_rfl) hF (fun w2 hx => v_ixA ar45 rfl rfl (by omega) (by omega)) rfl ?_; clear hF a; intro a hF
      refine a_v (i := 1) rfl (by kernel_rfl) hF (fun w2 hx => v_load sc43 rfl (hbox.ld (by decide) hx 0 rfl)) rfl ?_; clear hF a; intro a hF
      refine a_v (i := 2) rfl (by kernel_rfl) hF (fun w2 hx => v_cv Try.underlying43 Try.underlying3 rfl (wrap_i64 _ (by omega))) rfl ?_; clear hF a; intro a hF
      refine a_v (i := 3) rfl (by kernel_rfl) hF (fun w2 hx => v_move rfl) rfl ?_; clear hF a; intro a hF
      refine a_e (i := 4) rfl (by kernel_rfl) ?_
      refine sc hF rfl rfl rfl en24 rfl (Size_ok B (some (wb, p)) _ _ hf) ?_; clear hF a; intro v w' a hv hF
      obtain ⟨rfl, hw⟩ := hv
      obtain rfl := hw.symm
      have hS' := St.refl hS.inv
      refine WL_nil ⟨hS'.ext, ?_⟩
      replace hb := (hb.st hS').mono hS'.ext.size
      replace hbox := hbox.st (by decide) hS'
      replace hf := hf.st hS'
      replace hS := hS.trans hS'
      clear hS'
      rw [fsz_some] at hF
      have hsz := hp.size
      refine a_v (i := 5) rfl (by kernel_rfl) hF (fun w2 hx => (v_remI rfl rfl (by omega) (by omega)).as (congrArg _ (Int.natCast_emod c0 _).symm)) rfl ?_; clear hF a; intro a hF
      refine a_v (i := 6) rfl (by kernel_rfl) hF (fun w2 hx => v_assign rfl) rfl ?_; clear hF a; intro a hF
      refine a_done (by kernel_rfl) (hK _ _ ?_)
      clear hK K
      replace hF := hF.sub _ (c_ 11 rfl (c_ 8 rfl (c_ 7 rfl (c_ 6 rfl (c_ 4 rfl (c_ 2 rfl (n_)))))))
      have hm : c0 % 2 ^ wb < 2 ^ wb := Nat.mod_lt _ (show 0 < 2 ^ wb by have := hp.size; omega)
      generalize c0 % 2 ^ wb = m at *
      refine W_sd (m := 7) rfl hmix hS.inv (fun K hK w1 hS' hh => ?_)
      replace hb := (hb.st hS').mono hS'.ext.size
      replace hbox := hbox.st (by decide) hS'
      replace hf := hf.st hS'
      replace hS := hS.trans hS'
      clear hS'
      clear hh
      refine a_v (i := 0) rfl (by kernel_rfl) hF (fun w2 hx => v_ixA ar45 rfl rfl (by omega) (by omega)) rfl ?_; clear hF a; intro a hF
      refine a_v (i := 1) rfl (by kernel_rfl) hF (fun w2 hx => v_load sc43 rfl (hbox.ld (by decide) hx 1 rfl)) rfl ?_; clear hF a; intro a hF
      refine a_v (i := 2) rfl (by kernel_rfl) hF (fun w2 hx => v_cv Try.underlying43 Try.underlying3 rfl (wrap_i64 _ (by omega))) rfl ?_; clear hF a; intro a hF
      refine a_v (i := 3) rfl (by kernel_rfl) hF (fun w2 hx => v_move rfl) rfl ?_; clear hF a; intro a hF
      refine a_e (i := 4) rfl (by kernel_rfl) ?_
      refine sc hF rfl rfl rfl en24 rfl (Size_ok B (some (wb, p)) _ _ hf) ?_; clear hF a; intro v w' a hv hF
      obtain ⟨rfl, hw⟩ := hv
      obtain rfl := hw.symm
      have hS' := St.refl hS.inv
      refine WL_nil ⟨hS'.ext, ?_⟩
      replace hb := (hb.st hS').mono hS'.ext.size
      replace hbox := hbox.st (by decide) hS'
      replace hf := hf.st hS'
      replace hS := hS.trans hS'
      clear hS'
      rw [fsz_some] at hF
      have hsz := hp.size
      refine a_v (i := 5) rfl (by kernel_rfl) hF (fun w2 hx => (v_remI rfl rfl (by omega) (by omega)).as (congrArg _ (Int.natCast_emod c1 _).symm)) rfl ?_; clear hF a; intro a hF
      refine a_v (i := 6) rfl (by kernel_rfl) hF (fun w2 hx => v_assign rfl) rfl ?_; clear hF a; intro a hF
      refine a_done (by kernel_rfl) (hK _ _ ?_)
      clear hK K
      replace hF := hF.sub _ (c_ 12 rfl (c_ 11 rfl (c_ 8 rfl (c_ 7 rfl (c_ 6 rfl (c_ 2 rfl (n_)))))))
      have hn : c1 % 2 ^ wb < 2 ^ wb := Nat.mod_lt _ (show 0 < 2 ^ wb by have := hp.size; omega)
      generalize c1 % 2 ^ wb = n at *
      refine W_sr rfl (fun K hK => ?_)
      refine sv hF (v_move rfl) rfl ?_; clear hF a; intro a hF
      refine sv hF (v_lenS rfl sl22 rfl) rfl ?_; clear hF a; intro a hF
      refine sv hF (v_quoN (m := b.length) (n := 2) rfl rfl (by decide) (fits_i64 (by omega))) rfl ?_; clear hF a; intro a hF
      refine sv hF (v_assign rfl) rfl ?_; clear hF a; intro a hF
      refine WL_nil (hK _ _ ?_)
      clear hK K
      replace hF := hF.sub _ (c_ 13 rfl (c_ 12 rfl (c_ 11 rfl (c_ 8 rfl (c_ 7 rfl (c_ 6 rfl (c_ 2 rfl (n_))))))))
      clear hbox
      have hx := hb.to (hi := b.length / 2) (by rw [byt_length]; omega)
      have hy := hb.part (lo := b.length / 2) (hi := b.length) (by omega) (by rw [byt_length]; omega)
      have hcd := hb.capd
      rw [byt_take] at hx
      rw [byt_part] at hy
      obtain ⟨x, hxe⟩ : ∃ x, x = b.take (b.length / 2) := ⟨_, rfl⟩
      obtain ⟨y, hye⟩ : ∃ y, y = (b.take b.length).drop (b.length / 2) := ⟨_, rfl⟩
      rw [← hxe] at hx
      rw [← hye] at hy
      have hxl : x.length = b.length / 2 := by rw [hxe]; simp; omega
      have hyl : y.length = b.length - x.length := by rw [hye]; simp; omega
      have hx8 : ∀ u ∈ x, u < 256 := fun u hu => hb8 u (List.mem_of_mem_take (hxe ▸ hu))
      have hy8 : ∀ u ∈ y, u < 256 := fun u hu => hb8 u (List.mem_of_mem_take (List.mem_of_mem_drop (hye ▸ hu)))
      clear hxe hye
      rw [← hxl] at hF hx hy
      rw [← hyl] at hy
      have hxm : x.length % (wb / 8) = 0 := by rcases nn12 hp with ⟨_, e⟩ | ⟨_, e⟩ <;> rw [e] <;> omega
      have hbm : b.length % (wb / 8) = 0 := by rcases nn12 hp with ⟨_, e⟩ | ⟨_, e⟩ <;> rw [e] <;> omega
      have hxy : x.length = y.length := by omega
      obtain ⟨P, Q, X, eP, eQ, eX, hPQ, hX⟩ := spreads hp hm hxy hxm hx8 hy8
      obtain ⟨hbe, hbs⟩ := behind hp hm hn hxm hx8 eP
      have hP8 : ∀ x ∈ P, x < 256 := by have := rmul_lt hp (m : Int) x; rw [eP] at this; exact this
      have hQ8 : ∀ x ∈ Q, x < 256 := by have := rmul_lt hp (m : Int) y; rw [eQ] at this; exact this
      have hPl := rmul_len hp.w eP
      have hQl := rmul_len hp.w eQ
      have hXY : (xorB x y).length = x.length := xorB_len hxy
      refine W_sd (m := 12) rfl hmix hS.inv (fun K hK w1 hS' hh => ?_)
      replace hb := (hb.st hS').mono hS'.ext.size
      replace hf := hf.st hS'
      replace hx := (hx.st hS').mono hS'.ext.size
      replace hy := (hy.st hS').mono hS'.ext.size
      replace hS := hS.trans hS'
      clear hS'
      clear hh
      refine a_v (i := 0) rfl (by kernel_rfl) hF (fun w2 hx => v_move rfl) rfl ?_; clear hF a; intro a hF
      refine a_v (i := 1) rfl (by kernel_rfl) hF (fun w2 hx => v_move rfl) rfl ?_; clear hF a; intro a hF
      refine a_v (i := 2) rfl (by kernel_rfl) hF (fun w2 hx => v_slHi sl22 rfl rfl (by omega) (by omega)) rfl ?_; clear hF a; intro a hF
      refine a_v (i := 3) rfl (by kernel_rfl) hF (fun w2 hx => v_move rfl) rfl ?_; clear hF a; intro a hF
      refine a_v (i := 4) rfl (by kernel_rfl) hF (fun w2 hx => v_move rfl) rfl ?_; clear hF a; intro a hF
      refine a_v (i := 5) rfl (by kernel_rfl) hF (fun w2 hx => v_slLo sl22 rfl rfl (by omega) (by omega)) rfl ?_; clear hF a; intro a hF
      rw [← hyl] at hF
      refine a_e (i := 6) rfl (by kernel_rfl) ?_
      refine sc hF rfl rfl rfl en25 rfl (Add_reg B _ _ _ _ _ x y _ hS.inv hx hy (Nat.le_refl _) hx8 hy8 (by omega) (by omega)) ?_; clear hF a; intro v w' a hv hF
      obtain ⟨sS_, obS_, rfl, hOS_, hS'⟩ := hv
      rw [rsum_two hxy] at hOS_ hF
      try simp only [Option.getD_some, Option.getD_none] at hOS_
      obtain ⟨aS_, cS_, rfl⟩ := hOS_.shape
      have hS_ := hOS_.row (by decide)
      rw [byt_length] at hS_ hF
      clear hOS_
      refine WL_nil ⟨hS'.ext, ?_⟩
      replace hb := (hb.st hS').mono hS'.ext.size
      replace hf := hf.st hS'
      replace hx := (hx.st hS').mono hS'.ext.size
      replace hy := (hy.st hS').mono hS'.ext.size
      replace hS := hS.trans hS'
      clear hS'
      refine a_v (i := 7) rfl (by kernel_rfl) hF (fun w2 hx => v_move rfl) rfl ?_; clear hF a; intro a hF
      refine a_v (i := 8) rfl (by kernel_rfl) hF (fun w2 hx => v_ext rfl rfl) rfl ?_; clear hF a; intro a hF
      refine a_v (i := 9) rfl (by kernel_rfl) hF (fun w2 hx => v_ext rfl rfl) rfl ?_; clear hF a; intro a hF
      refine a_v (i := 10) rfl (by kernel_rfl) hF (fun w2 hx => v_assign rfl) rfl ?_; clear hF a; intro a hF
      refine a_v (i := 11) rfl (by kernel_rfl) hF (fun w2 hx => v_assign rfl) rfl ?_; clear hF a; intro a hF
      refine a_done (by kernel_rfl) (hK _ _ ?_)
      clear hK K
      replace hF := hF.sub _ (c_ 14 rfl (c_ 13 rfl (c_ 12 rfl (c_ 11 rfl (c_ 8 rfl (c_ 7 rfl (c_ 6 rfl (c_ 2 rfl (n_)))))))))
      refine W_sr rfl (fun K hK => ?_)
      refine sv hF (v_move rfl) rfl ?_; clear hF a; intro a hF
      refine sv hF (v_move rfl) rfl ?_; clear hF a; intro a hF
      refine sv hF (v_move rfl) rfl ?_; clear hF a; intro a hF
      refine sc hF rfl rfl rfl en26 rfl (Mul_reg B _ (some (wb, p)) _ (m : Int) _ _ (xorB x y) _ hf hS.inv hS_ (Nat.le_refl _) (xorB_lt hx8 hy8) (by omega)) ?_; clear hF a; intro v w' a hv hF
      obtain ⟨sX2, obX2, rfl, hOX2, hS'⟩ := hv
      rw [eX] at hOX2 hF
      try simp only [Option.getD_some, Option.getD_none] at hOX2
      obtain ⟨aX2, cX2, rfl⟩ := hOX2.shape
      have hX2 := hOX2.row (by decide)
      rw [byt_length] at hX2 hF
      clear hOX2
      replace hb := (hb.st hS').mono hS'.ext.size
      replace hf := hf.st hS'
      replace hx := (hx.st hS').mono hS'.ext.size
      replace hy := (hy.st hS').mono hS'.ext.size
      replace hS_ := (hS_.st hS').mono hS'.ext.size
      replace hS := hS.trans hS'
      clear hS'
      refine sv hF (v_move rfl) rfl ?_; clear hF a; intro a hF
      refine sv hF (v_ext rfl rfl) rfl ?_; clear hF a; intro a hF
      refine sv hF (v_ext rfl rfl) rfl ?_; clear hF a; intro a hF
      refine sv hF (v_assign rfl) rfl ?_; clear hF a; intro a hF
      refine sv hF (v_assign rfl) rfl ?_; clear hF a; intro a hF
      refine WL_nil (hK _ _ ?_)
      clear hK K
      replace hF := hF.sub _ (c_ 17 rfl (c_ 16 rfl (c_ 13 rfl (c_ 12 rfl (c_ 11 rfl (c_ 8 rfl (c_ 7 rfl (c_ 6 rfl (c_ 2 rfl (n_))))))))))
      refine W_sr rfl (fun K hK => ?_)
      refine sv hF (v_move rfl) rfl ?_; clear hF a; intro a hF
      refine sv hF (v_move rfl) rfl ?_; clear hF a; intro a hF
      refine sv hF (v_move rfl) rfl ?_; clear hF a; intro a hF
      refine sv hF (v_move rfl) rfl ?_; clear hF a; intro a hF
      refine sv hF (v_slHi sl22 rfl rfl (by omega) (by omega)) rfl ?_; clear hF a; intro a hF
      refine sc hF rfl rfl rfl en26 rfl (Mul_reg B _ (some (wb, p)) _ (m : Int) _ _ x _ hf hS.inv hx (Nat.le_refl _) hx8 (by omega)) ?_; clear hF a; intro v w' a hv hF
      obtain ⟨sP_, obP_, rfl, hOP_, hS'⟩ := hv
      rw [eP] at hOP_ hF
      try simp only [Option.getD_some, Option.getD_none] at hOP_
      obtain ⟨aP_, cP_, rfl⟩ := hOP_.shape
      have hP_ := hOP_.row (by decide)
      rw [byt_length] at hP_ hF
      clear hOP_
      replace hb := (hb.st hS').mono hS'.ext.size
      replace hf := hf.st hS'
      replace hx := (hx.st hS').mono hS'.ext.size
      replace hy := (hy.st hS').mono hS'.ext.size
      replace hS_ := (hS_.st hS').mono hS'.ext.size
      replace hX2 := (hX2.st hS').mono hS'.ext.size
      replace hS := hS.trans hS'
      clear hS'
      refine sv hF (v_move rfl) rfl ?_; clear hF a; intro a hF
      refine sv hF (v_ext rfl rfl) rfl ?_; clear hF a; intro a hF
      refine sv hF (v_ext rfl rfl) rfl ?_; clear hF a; intro a hF
      refine sv hF (v_assign rfl) rfl ?_; clear hF a; intro a hF
      refine sv hF (v_assign rfl) rfl ?_; clear hF a; intro a hF
      refine WL_nil (hK _ _ ?_)
      clear hK K
      replace hF := hF.sub _ (c_ 18 rfl (c_ 17 rfl (c_ 16 rfl (c_ 13 rfl (c_ 12 rfl (c_ 11 rfl (c_ 8 rfl (c_ 7 rfl (c_ 6 rfl (c_ 2 rfl (n_)))))))))))
      refine W_sr rfl (fun K hK => ?_)
      refine sv hF (v_move rfl) rfl ?_; clear hF a; intro a hF
      refine sv hF (v_move rfl) rfl ?_; clear hF a; intro a hF
      refine sv hF (v_move rfl) rfl ?_; clear hF a; intro a hF
      refine sv hF (v_move rfl) rfl ?_; clear hF a; intro a hF
      refine sv hF (v_slLo sl22 rfl rfl (by omega) (by omega)) rfl ?_; clear hF a; intro a hF
      rw [← hyl] at hF
      refine sc hF rfl rfl rfl en26 rfl (Mul_reg B _ (some (wb, p)) _ (m : Int) _ _ y _ hf hS.inv hy (Nat.le_refl _) hy8 (by omega)) ?_; clear hF a; intro v w' a hv hF
      obtain ⟨sQ_, obQ_, rfl, hOQ_, hS'⟩ := hv
      rw [eQ] at hOQ_ hF
      try simp only [Option.getD_some, Option.getD_none] at hOQ_
      obtain ⟨aQ_, cQ_, rfl⟩ := hOQ_.shape
      have hQ_ := hOQ_.row (by decide)
      rw [byt_length] at hQ_ hF
      clear hOQ_
      replace hb := (hb.st hS').mono hS'.ext.size
      replace hf := hf.st hS'
      replace hx := (hx.st hS').mono hS'.ext.size
      replace hy := (hy.st hS').mono hS'.ext.size
      replace hS_ := (hS_.st hS').mono hS'.ext.size
      replace hX2 := (hX2.st hS').mono hS'.ext.size
      replace hP_ := (hP_.st hS').mono hS'.ext.size
      replace hS := hS.trans hS'
      clear hS'
      refine sv hF (v_move rfl) rfl ?_; clear hF a; intro a hF
      refine sv hF (v_ext rfl rfl) rfl ?_; clear hF a; intro a hF
      refine sv hF (v_ext rfl rfl) rfl ?_; clear hF a; intro a hF
      refine sv hF (v_assign rfl) rfl ?_; clear hF a; intro a hF
      refine sv hF (v_assign rfl) rfl ?_; clear hF a; intro a hF
      refine WL_nil (hK _ _ ?_)
      clear hK K
      replace hF := hF.sub _ (c_ 20 rfl (c_ 18 rfl (c_ 17 rfl (c_ 16 rfl (c_ 13 rfl (c_ 12 rfl (c_ 11 rfl (c_ 8 rfl (c_ 7 rfl (c_ 6 rfl (c_ 2 rfl (n_))))))))))))
      refine W_sr rfl (fun K hK => ?_)
      refine sv hF (v_move rfl) rfl ?_; clear hF a; intro a hF
      refine sv hF (v_move rfl) rfl ?_; clear hF a; intro a hF
      refine sc hF rfl rfl rfl en25 rfl (Add_reg B _ _ _ _ _ P Q _ hS.inv hP_ hQ_ (Nat.le_refl _) hP8 hQ8 (by omega) (by omega)) ?_; clear hF a; intro v w' a hv hF
      obtain ⟨sY_, obY_, rfl, hOY_, hS'⟩ := hv
      rw [rsum_two hPQ] at hOY_ hF
      try simp only [Option.getD_some, Option.getD_none] at hOY_
      obtain ⟨aY_, cY_, rfl⟩ := hOY_.shape
      have hY_ := hOY_.row (by decide)
      rw [byt_length] at hY_ hF
      clear hOY_
      replace hb := (hb.st hS').mono hS'.ext.size
      replace hf := hf.st hS'
      replace hx := (hx.st hS').mono hS'.ext.size
      replace hy := (hy.st hS').mono hS'.ext.size
      replace hS_ := (hS_.st hS').mono hS'.ext.size
      replace hX2 := (hX2.st hS').mono hS'.ext.size
      replace hP_ := (hP_.st hS').mono hS'.ext.size
      replace hQ_ := (hQ_.st hS').mono hS'.ext.size
      replace hS := hS.trans hS'
      clear hS'
      refine sv hF (v_move rfl) rfl ?_; clear hF a; intro a hF
      refine sv hF (v_ext rfl rfl) rfl ?_; clear hF a; intro a hF
      refine sv hF (v_ext rfl rfl) rfl ?_; clear hF a; intro a hF
      refine sv hF (v_assign rfl) rfl ?_; clear hF a; intro a hF
      refine sv hF (v_assign rfl) rfl ?_; clear hF a; intro a hF
      refine WL_nil (hK _ _ ?_)
      clear hK K
      replace hF := hF.sub _ (c_ 23 rfl (c_ 22 rfl (c_ 18 rfl (c_ 17 rfl (c_ 16 rfl (c_ 13 rfl (c_ 12 rfl (c_ 11 rfl (c_ 8 rfl (c_ 7 rfl (c_ 6 rfl (c_ 2 rfl (n_)))))))))))))
      refine W_sr rfl (fun K hK => ?_)
      refine sv hF (v_move rfl) rfl ?_; clear hF a; intro a hF
      refine sv hF (v_move rfl) rfl ?_; clear hF a; intro a hF
      refine sv hF (v_move rfl) rfl ?_; clear hF a; intro a hF
      refine sc hF rfl rfl rfl en26 rfl (Mul_reg B _ (some (wb, p)) _ (n : Int) _ _ P _ hf hS.inv hP_ (Nat.le_refl _) hP8 (by omega)) ?_; clear hF a; intro v w' a hv hF
      obtain ⟨sT_, obT_, rfl, hOT_, hS'⟩ := hv
      rw [hbe] at hOT_ hF
      try simp only [Option.getD_some, Option.getD_none] at hOT_
      obtain ⟨aT_, cT_, rfl⟩ := hOT_.shape
      have hT_ := hOT_.row (by decide)
      rw [byt_length] at hT_ hF
      clear hOT_
      replace hb := (hb.st hS').mono hS'.ext.size
      replace hf := hf.st hS'
      replace hx := (hx.st hS').mono hS'.ext.size
      replace hy := (hy.st hS').mono hS'.ext.size
      replace hS_ := (hS_.st hS').mono hS'.ext.size
      replace hX2 := (hX2.st hS').mono hS'.ext.size
      replace hP_ := (hP_.st hS').mono hS'.ext.size
      replace hQ_ := (hQ_.st hS').mono hS'.ext.size
      replace hY_ := (hY_.st hS').mono hS'.ext.size
      replace hS := hS.trans hS'
      clear hS'
      refine sv hF (v_move rfl) rfl ?_; clear hF a; intro a hF
      refine sv hF (v_ext rfl rfl) rfl ?_; clear hF a; intro a hF
      refine sv hF (v_ext rfl rfl) rfl ?_; clear hF a; intro a hF
      refine sv hF (v_assign rfl) rfl ?_; clear hF a; intro a hF
      refine sv hF (v_assign rfl) rfl ?_; clear hF a; intro a hF
      refine WL_nil (hK _ _ ?_)
      clear hK K
      replace hF := hF.sub _ (c_ 24 rfl (c_ 23 rfl (c_ 22 rfl (c_ 17 rfl (c_ 16 rfl (c_ 13 rfl (c_ 12 rfl (c_ 11 rfl (c_ 8 rfl (c_ 7 rfl (c_ 6 rfl (c_ 2 rfl (n_)))))))))))))
      refine W_sd (m := 14) rfl hmix hS.inv (fun K hK w1 hS' hh => ?_)
      replace hb := (hb.st hS').mono hS'.ext.size
      replace hf := hf.st hS'
      replace hx := (hx.st hS').mono hS'.ext.size
      replace hy := (hy.st hS').mono hS'.ext.size
      replace hS_ := (hS_.st hS').mono hS'.ext.size
      replace hX2 := (hX2.st hS').mono hS'.ext.size
      replace hP_ := (hP_.st hS').mono hS'.ext.size
      replace hQ_ := (hQ_.st hS').mono hS'.ext.size
      replace hY_ := (hY_.st hS').mono hS'.ext.size
      replace hT_ := (hT_.st hS').mono hS'.ext.size
      replace hS := hS.trans hS'
      clear hS'
      clear hh
      refine a_v (i := 0) rfl (by kernel_rfl) hF (fun w2 hx => v_move rfl) rfl ?_; clear hF a; intro a hF
      refine a_v (i := 1) rfl (by kernel_rfl) hF (fun w2 hx => v_move rfl) rfl ?_; clear hF a; intro a hF
      refine a_v (i := 2) rfl (by kernel_rfl) hF (fun w2 hx => v_move rfl) rfl ?_; clear hF a; intro a hF
      refine a_v (i := 3) rfl (by kernel_rfl) hF (fun w2 hx => v_move rfl) rfl ?_; clear hF a; intro a hF
      refine a_v (i := 5) rfl (by kernel_rfl) hF (fun w2 hx => v_move rfl) rfl ?_; clear hF a; intro a hF
      refine a_v (i := 6) rfl (by kernel_rfl) hF (fun w2 hx => v_move rfl) rfl ?_; clear hF a; intro a hF
      refine a_v (i := 7) rfl (by kernel_rfl) hF (fun w2 hx => v_slHi sl22 rfl rfl (by omega) (by omega)) rfl ?_; clear hF a; intro a hF
      refine a_e (i := 4) rfl (by kernel_rfl) ?_
      refine sc hF rfl rfl rfl en27 rfl (Mul_gf B (some (wb, p)) _ (m : Int) (n : Int) _ hS.inv hf) ?_; clear hF a; intro v w' a hv hF
      obtain ⟨rfl, hS'⟩ := hv
      refine WL_nil ⟨hS'.ext, ?_⟩
      replace hb := (hb.st hS').mono hS'.ext.size
      replace hf := hf.st hS'
      replace hx := (hx.st hS').mono hS'.ext.size
      replace hy := (hy.st hS').mono hS'.ext.size
      replace hS_ := (hS_.st hS').mono hS'.ext.size
      replace hX2 := (hX2.st hS').mono hS'.ext.size
      replace hP_ := (hP_.st hS').mono hS'.ext.size
      replace hQ_ := (hQ_.st hS').mono hS'.ext.size
      replace hY_ := (hY_.st hS').mono hS'.ext.size
      replace hT_ := (hT_.st hS').mono hS'.ext.size
      replace hS := hS.trans hS'
      clear hS'
      refine a_e (i := 8) rfl (by kernel_rfl) ?_
      refine sc hF rfl rfl rfl en26 rfl (Mul_reg B _ (some (wb, p)) _ (gmul (some (wb, p)) (m : Int) (n : Int)) _ _ x _ hf hS.inv hx (Nat.le_refl _) hx8 (by omega)) ?_; clear hF a; intro v w' a hv hF
      obtain ⟨sU_, obU_, rfl, hOU_, hS'⟩ := hv
      obtain ⟨aU_, cU_, rfl⟩ := hOU_.shape
      have hU_ := hOU_.row (by decide)
      rw [byt_length] at hU_ hF
      clear hOU_
      refine WL_nil ⟨hS'.ext, ?_⟩
      replace hb := (hb.st hS').mono hS'.ext.size
      replace hf := hf.st hS'
      replace hx := (hx.st hS').mono hS'.ext.size
      replace hy := (hy.st hS').mono hS'.ext.size
      replace hS_ := (hS_.st hS').mono hS'.ext.size
      replace hX2 := (hX2.st hS').mono hS'.ext.size
      replace hP_ := (hP_.st hS').mono hS'.ext.size
      replace hQ_ := (hQ_.st hS').mono hS'.ext.size
      replace hY_ := (hY_.st hS').mono hS'.ext.size
      replace hT_ := (hT_.st hS').mono hS'.ext.size
      replace hS := hS.trans hS'
      clear hS'
      refine a_v (i := 9) rfl (by kernel_rfl) hF (fun w2 hx => v_move rfl) rfl ?_; clear hF a; intro a hF
      refine a_v (i := 10) rfl (by kernel_rfl) hF (fun w2 hx => v_ext rfl rfl) rfl ?_; clear hF a; intro a hF
      refine a_v (i := 11) rfl (by kernel_rfl) hF (fun w2 hx => v_ext rfl rfl) rfl ?_; clear hF a; intro a hF
      refine a_v (i := 12) rfl (by kernel_rfl) hF (fun w2 hx => v_assign rfl) rfl ?_; clear hF a; intro a hF
      refine a_v (i := 13) rfl (by kernel_rfl) hF (fun w2 hx => v_assign rfl) rfl ?_; clear hF a; intro a hF
      refine a_done (by kernel_rfl) (hK _ _ ?_)
      clear hK K
      replace hF := hF.sub _ (c_ 27 rfl (c_ 26 rfl (c_ 24 rfl (c_ 23 rfl (c_ 22 rfl (c_ 17 rfl (c_ 16 rfl (c_ 8 rfl (c_ 7 rfl (c_ 6 rfl (c_ 2 rfl (n_))))))))))))
      refine W_sr rfl (fun K hK => ?_)
      refine sv hF (v_move rfl) rfl ?_; clear hF a; intro a hF
      refine sv hF (v_move rfl) rfl ?_; clear hF a; intro a hF
      refine sc hF rfl rfl rfl en26 rfl (Mul_reg B _ (some (wb, p)) _ 1 _ _ b _ hf hS.inv hb (Nat.le_refl _) hb8 (by omega)) ?_; clear hF a; intro v w' a hv hF
      obtain ⟨sO_, obO_, rfl, hOO_, hS'⟩ := hv
      rw [by_one hp hbm hb8] at hOO_ hF
      try simp only [Option.getD_some, Option.getD_none] at hOO_
      obtain ⟨aO_, cO_, rfl⟩ := hOO_.shape
      have hO_ := hOO_.row (by decide)
      rw [byt_length] at hO_ hF
      clear hOO_
      replace hb := (hb.st hS').mono hS'.ext.size
      replace hf := hf.st hS'
      replace hx := (hx.st hS').mono hS'.ext.size
      replace hy := (hy.st hS').mono hS'.ext.size
      replace hS_ := (hS_.st hS').mono hS'.ext.size
      replace hX2 := (hX2.st hS').mono hS'.ext.size
      replace hP_ := (hP_.st hS').mono hS'.ext.size
      replace hQ_ := (hQ_.st hS').mono hS'.ext.size
      replace hY_ := (hY_.st hS').mono hS'.ext.size
      replace hT_ := (hT_.st hS').mono hS'.ext.size
      replace hU_ := (hU_.st hS').mono hS'.ext.size
      replace hS := hS.trans hS'
      clear hS'
      refine sv hF (v_move rfl) rfl ?_; clear hF a; intro a hF
      refine sv hF (v_ext rfl rfl) rfl ?_; clear hF a; intro a hF
      refine sv hF (v_ext rfl rfl) rfl ?_; clear hF a; intro a hF
      refine sv hF (v_assign rfl) rfl ?_; clear hF a; intro a hF
      refine sv hF (v_assign rfl) rfl ?_; clear hF a; intro a hF
      refine WL_nil (hK _ _ ?_)
      clear hK K
      replace hF := hF.sub _ (c_ 29 rfl (c_ 28 rfl (c_ 27 rfl (c_ 26 rfl (c_ 24 rfl (c_ 23 rfl (c_ 22 rfl (c_ 17 rfl (c_ 16 rfl (c_ 7 rfl (c_ 6 rfl (c_ 2 rfl (n_)))))))))))))
      have hU8 := rmul_lt hp (gmul (some (wb, p)) (m : Int) (n : Int)) x
      subst hX
      refine W_sr rfl (fun K hK => ?_)
      refine sv hF (v_move rfl) rfl ?_; clear hF a; intro a hF
      refine sv hF (v_move rfl) rfl ?_; clear hF a; intro a hF
      refine svg hF rfl ?_
      refine sv hF (v_move rfl) rfl ?_; clear hF a; intro a hF
      refine svg hF rfl ?_
      refine sv hF ((v_eql rfl rfl).as (congrArg Value.bool (decide_eq_true (rfl)))) rfl ?_; clear hF a; intro a hF
      refine sv hF (v_pickT rfl rfl) rfl ?_; clear hF a; intro a hF
      refine sv hF (v_move rfl) rfl ?_; clear hF a; intro a hF
      refine svg hF rfl ?_
      refine sv hF (v_move rfl) rfl ?_; clear hF a; intro a hF
      refine svg hF rfl ?_
      refine sv hF ((v_eql rfl rfl).as (congrArg Value.bool (decide_eq_true (rfl)))) rfl ?_; clear hF a; intro a hF
      refine sv hF (v_pickT rfl rfl) rfl ?_; clear hF a; intro a hF
      refine sv hF (v_move rfl) rfl ?_; clear hF a; intro a hF
      refine svg hF rfl ?_
      refine sv hF (v_move rfl) rfl ?_; clear hF a; intro a hF
      refine svg hF rfl ?_
      refine sv hF ((v_eql rfl rfl).as (congrArg Value.bool (decide_eq_true (by rw [hbe] at hbs; unfold errV; rw [hbs]; rfl)))) rfl ?_; clear hF a; intro a hF
      refine sv hF (v_pickT rfl rfl) rfl ?_; clear hF a; intro a hF
      refine sv hF (v_move rfl) rfl ?_; clear hF a; intro a hF
      refine svg hF rfl ?_
      refine sv hF (v_move rfl) rfl ?_; clear hF a; intro a hF
      refine svg hF rfl ?_
      refine sv hF ((v_eql rfl rfl).as (congrArg Value.bool (decide_eq_true (rfl)))) rfl ?_; clear hF a; intro a hF
      refine sv hF (v_pickT rfl rfl) rfl ?_; clear hF a; intro a hF
      refine sv hF (v_move rfl) rfl ?_; clear hF a; intro a hF
      refine svg hF rfl ?_
      refine sv hF (v_move rfl) rfl ?_; clear hF a; intro a hF
      refine svg hF rfl ?_
      refine sv hF (v_move rfl) rfl ?_; clear hF a; intro a hF
      refine svg hF rfl ?_
      refine sc hF rfl rfl rfl en23 rfl (Same_t B _ _ _ _ _ (xorB P Q) (xorB P Q) _ hX2 hY_ (xorB_lt hP8 hQ8) (xorB_lt hP8 hQ8) rfl) ?_; clear hF a; intro v w' a hv hF
      obtain ⟨rfl, hw⟩ := hv
      obtain rfl := hw.symm
      have hS' := St.refl hS.inv
      replace hb := (hb.st hS').mono hS'.ext.size
      replace hf := hf.st hS'
      replace hx := (hx.st hS').mono hS'.ext.size
      replace hy := (hy.st hS').mono hS'.ext.size
      replace hS_ := (hS_.st hS').mono hS'.ext.size
      replace hX2 := (hX2.st hS').mono hS'.ext.size
      replace hP_ := (hP_.st hS').mono hS'.ext.size
      replace hQ_ := (hQ_.st hS').mono hS'.ext.size
      replace hY_ := (hY_.st hS').mono hS'.ext.size
      replace hT_ := (hT_.st hS').mono hS'.ext.size
      replace hU_ := (hU_.st hS').mono hS'.ext.size
      replace hO_ := (hO_.st hS').mono hS'.ext.size
      replace hS := hS.trans hS'
      clear hS'
      refine sv hF (v_pickT rfl rfl) rfl ?_; clear hF a; intro a hF
      refine sv hF (v_move rfl) rfl ?_; clear hF a; intro a hF
      refine svg hF rfl ?_
      refine sv hF (v_move rfl) rfl ?_; clear hF a; intro a hF
      refine svg hF rfl ?_
      refine sv hF (v_move rfl) rfl ?_; clear hF a; intro a hF
      refine svg hF rfl ?_
      refine sc hF rfl rfl rfl en23 rfl (Same_t B _ _ _ _ _ _ _ _ hT_ hU_ hU8 hU8 rfl) ?_; clear hF a; intro v w' a hv hF
      obtain ⟨rfl, hw⟩ := hv
      obtain rfl := hw.symm
      have hS' := St.refl hS.inv
      replace hb := (hb.st hS').mono hS'.ext.size
      replace hf := hf.st hS'
      replace hx := (hx.st hS').mono hS'.ext.size
      replace hy := (hy.st hS').mono hS'.ext.size
      replace hS_ := (hS_.st hS').mono hS'.ext.size
      replace hX2 := (hX2.st hS').mono hS'.ext.size
      replace hP_ := (hP_.st hS').mono hS'.ext.size
      replace hQ_ := (hQ_.st hS').mono hS'.ext.size
      replace hY_ := (hY_.st hS').mono hS'.ext.size
      replace hT_ := (hT_.st hS').mono hS'.ext.size
      replace hU_ := (hU_.st hS').mono hS'.ext.size
      replace hO_ := (hO_.st hS').mono hS'.ext.size
      replace hS := hS.trans hS'
      clear hS'
      refine sv hF (v_pickT rfl rfl) rfl ?_; clear hF a; intro a hF
      refine sv hF (v_move rfl) rfl ?_; clear hF a; intro a hF
      refine svg hF rfl ?_
      refine sv hF (v_move rfl) rfl ?_; clear hF a; intro a hF
      refine svg hF rfl ?_
      refine sv hF (v_move rfl) rfl ?_; clear hF a; intro a hF
      refine svg hF rfl ?_
      refine sc hF rfl rfl rfl en23 rfl (Same_t B _ _ _ _ _ b b _ hO_ hb hb8 hb8 rfl) ?_; clear hF a; intro v w' a hv hF
      obtain ⟨rfl, hw⟩ := hv
      obtain rfl := hw.symm
      have hS' := St.refl hS.inv
      replace hb := (hb.st hS').mono hS'.ext.size
      replace hf := hf.st hS'
      replace hx := (hx.st hS').mono hS'.ext.size
      replace hy := (hy.st hS').mono hS'.ext.size
      replace hS_ := (hS_.st hS').mono hS'.ext.size
      replace hX2 := (hX2.st hS').mono hS'.ext.size
      replace hP_ := (hP_.st hS').mono hS'.ext.size
      replace hQ_ := (hQ_.st hS').mono hS'.ext.size
      replace hY_ := (hY_.st hS').mono hS'.ext.size
      replace hT_ := (hT_.st hS').mono hS'.ext.size
      replace hU_ := (hU_.st hS').mono hS'.ext.size
      replace hO_ := (hO_.st hS').mono hS'.ext.size
      replace hS := hS.trans hS'
      clear hS'
      refine sv hF (v_pickT rfl rfl) rfl ?_; clear hF a; intro a hF
      refine sv hF (v_assign rfl) rfl ?_; clear hF a; intro a hF
      refine WL_nil (hK _ _ ?_)
      clear hK K
      replace hF := hF.sub _ (c_ 6 rfl (n_))
      refine W_ret ?_
      refine ⟨_, _, hF, rfl, ?_⟩
      exact ⟨rfl, hS⟩

end Go.Proofs.Ytlkifpmlpnaaoaa
