/- The statement RegionTells, walked: it returns true. -/
import Derived.Test.YtlkifpmlpnaaoaaFAw03
set_option linter.unusedVariables false
set_option linter.unusedSimpArgs false
namespace Go.Proofs.Ytlkifpmlpnaaoaa
open Go Go.Gam


namespace FxFRegionTells
theorem en15 : Ent Try.prog 15 := ent Try.func15 (by kernel_rfl) (by kernel_rfl)
theorem en16 : Ent Try.prog 16 := ent Try.func16 (by kernel_rfl) (by kernel_rfl)
theorem en21 : Ent Try.prog 21 := ent Try.func21 (by kernel_rfl) (by kernel_rfl)
theorem en23 : Ent Try.prog 23 := ent Try.func23 (by kernel_rfl) (by kernel_rfl)
theorem en25 : Ent Try.prog 25 := ent Try.func25 (by kernel_rfl) (by kernel_rfl)
theorem en26 : Ent Try.prog 26 := ent Try.func26 (by kernel_rfl) (by kernel_rfl)
theorem en34 : Ent Try.prog 34 := ent Try.func34 (by kernel_rfl) (by kernel_rfl)
theorem en35 : Ent Try.prog 35 := ent Try.func35 (by kernel_rfl) (by kernel_rfl)
theorem en36 : Ent Try.prog 36 := ent Try.func36 (by kernel_rfl) (by kernel_rfl)
theorem en37 : Ent Try.prog 37 := ent Try.func37 (by kernel_rfl) (by kernel_rfl)
theorem en38 : Ent Try.prog 38 := ent Try.func38 (by kernel_rfl) (by kernel_rfl)
theorem hmix : Try.prog.follows .mixedOrders = true := by kernel_rfl
theorem sc22 : Scalar Try.prog 22 := ⟨_, Try.underlying22, by simp, by simp⟩
theorem sc3 : Scalar Try.prog 3 := ⟨_, Try.underlying3, by simp, by simp⟩
theorem sl22 : Sl Try.prog 22 5 (.int .u8 0) 1 := sl_of Try.underlying22 rfl (by kernel_rfl)
theorem sl23 : Sl Try.prog 23 3 (.int .i64 0) 8 := sl_of Try.underlying23 rfl (by kernel_rfl)
theorem sl59 : Sl Try.prog 59 22 (.slice none 0 0) 24 := sl_of Try.underlying59 rfl (by kernel_rfl)
end FxFRegionTells
open FxFRegionTells

set_option maxRecDepth 100000 in
set_option maxHeartbeats 1000000 in
theorem RegionTells_ok (B M : Nat) (lg : Bool) (pc : Option Addr) (cc : Nat) (cs : List Int) (pv : Option Addr) (cv : Nat) (vals : List Value) (bss : List (List Nat)) (w : World) (hI : Inv FDx B w) (hM : M ≤ w.heap.size) (hC : Row FDx B M w (.slice pc cs.length cc) (zints cs)) (hcb : ∀ z ∈ cs, (Lit.int .i64 z).wf = true) (hcl : cs.length ≤ maxLen) (hR : Row FDx B M w (.slice pv vals.length cv) vals) (hR2 : Rows2 FDx B M w vals bss) (h8 : ∀ b ∈ bss, ∀ x ∈ b, x < 256) (hbl : ∀ b ∈ bss, b.length ≤ maxLen) (hvl : vals.length ≤ maxLen) : Ret Try.prog 7 [.bool lg, .slice pc cs.length cc, .slice pv vals.length cv] w fun v w' => v = .bool true ∧ St FDx B w w' := by
  refine enter 149 [(0, .bool lg), (1, .slice pc cs.length cc), (2, .slice pv vals.length cv)] 6 Try.func7 rfl rfl rfl rfl rfl ?_; intro a hF
  have hS := St.refl hI
  replace hC := hC.mono hM
  replace hR := hR.mono hM
  replace hR2 := hR2.mono hM
  simp only [maxLen] at hcl hbl hvl
  have hvb := hR2.1
  refine W_sr rfl (fun K hK => ?_)
  refine sv hF (v_assign rfl) rfl ?_; clear hF a; intro a hF
  refine WL_nil (hK _ _ ?_)
  clear hK K
  refine W_sr rfl (fun K hK => ?_)
  refine sc hF rfl rfl rfl en15 rfl (aw03_ok B _ hS.inv) ?_; clear hF a; intro v w' a hv hF
  obtain ⟨rfl, hS'⟩ := hv
  replace hC := (hC.st hS').mono hS'.ext.size
  replace hR := (hR.st hS').mono hS'.ext.size
  replace hR2 := (hR2.st hS').mono hS'.ext.size
  replace hS := hS.trans hS'
  clear hS'
  refine sv hF (v_assign rfl) rfl ?_; clear hF a; intro a hF
  refine WL_nil (hK _ _ ?_)
  clear hK K
  replace hF := hF.sub _ (c_ 7 rfl (c_ 6 rfl (c_ 0 rfl (c_ 1 rfl (c_ 2 rfl (n_))))))
  refine W_seq ?_
  refine W_sr rfl (fun K hK => ?_)
  refine sv hF (v_move rfl) rfl ?_; clear hF a; intro a hF
  refine sc hF rfl rfl rfl en34 rfl (Few03_ok B _ pv cv vals bss _ hR hR2 (by omega) (fun b hb => by have := hbl b hb; omega)) ?_; clear hF a; intro v w' a hv hF
  obtain ⟨rfl, hw⟩ := hv
  obtain rfl := hw.symm
  have hS' := St.refl hS.inv
  replace hC := (hC.st hS').mono hS'.ext.size
  replace hR := (hR.st hS').mono hS'.ext.size
  replace hR2 := (hR2.st hS').mono hS'.ext.size
  replace hS := hS.trans hS'
  clear hS'
  refine sb hF (v_not rfl) rfl ?_ ?_
  · clear hF a; intro hc1 a hF
    try simp only [decide_eq_true_eq, decide_eq_false_iff_not, Bool.not_eq_true', Bool.not_eq_false', Bool.not_true, Bool.not_false] at hc1
    refine sv hF (v_move rfl) rfl ?_; clear hF a; intro a hF
    refine svn hF rfl rfl rfl ?_; clear hF a; intro a hF
    refine svn hF rfl rfl rfl ?_; clear hF a; intro a hF
    refine svn hF rfl rfl rfl ?_; clear hF a; intro a hF
    refine sv hF (v_pickT rfl rfl) rfl ?_; clear hF a; intro a hF
    refine WL_nil (hK _ _ ?_)
    clear hK K
    replace hF := hF.sub _ (c_ 32 rfl (c_ 7 rfl (c_ 6 rfl (c_ 0 rfl (c_ 1 rfl (c_ 2 rfl (n_)))))))
    refine W_ifT hF rfl ?_
    refine W_sr rfl (fun K hK => ?_)
    refine sv hF (v_move rfl) rfl ?_; clear hF a; intro a hF
    refine sv hF (v_assign rfl) rfl ?_; clear hF a; intro a hF
    refine WL_nil (hK _ _ ?_)
    clear hK K
    replace hF := hF.sub _ (c_ 6 rfl (c_ 7 rfl (c_ 0 rfl (c_ 1 rfl (c_ 2 rfl (n_))))))
    refine W_ret ?_
    refine ⟨_, _, hF, rfl, ?_⟩
    exact ⟨rfl, hS⟩
  · clear hF a; intro hc1 a hF
    try simp only [decide_eq_true_eq, decide_eq_false_iff_not, Bool.not_eq_true', Bool.not_eq_false', Bool.not_true, Bool.not_false] at hc1
    refine sv hF (v_move rfl) rfl ?_; clear hF a; intro a hF
    refine svg hF rfl ?_
    refine sv hF (v_move rfl) rfl ?_; clear hF a; intro a hF
    refine svg hF rfl ?_
    refine sv hF (v_lenS rfl sl23 rfl) rfl ?_; clear hF a; intro a hF
    refine svg hF rfl ?_
    refine sv hF (v_gtr rfl rfl) rfl ?_; clear hF a; intro a hF
    refine sv hF (v_pickF rfl rfl) rfl ?_; clear hF a; intro a hF
    refine WL_nil (hK _ _ ?_)
    clear hK K
    replace hF := hF.sub _ (c_ 32 rfl (c_ 7 rfl (c_ 6 rfl (c_ 0 rfl (c_ 1 rfl (c_ 2 rfl (n_)))))))
    refine W_if hF rfl (fun hc2 => ?_) (fun hc2 => ?_)
    · skip
      try simp only [decide_eq_true_eq, decide_eq_false_iff_not, Bool.not_eq_true', Bool.not_eq_false', Bool.not_true, Bool.not_false] at hc2
      refine W_sr rfl (fun K hK => ?_)
      refine sv hF (v_move rfl) rfl ?_; clear hF a; intro a hF
      refine sv hF (v_assign rfl) rfl ?_; clear hF a; intro a hF
      refine WL_nil (hK _ _ ?_)
      clear hK K
      replace hF := hF.sub _ (c_ 6 rfl (c_ 7 rfl (c_ 0 rfl (c_ 1 rfl (c_ 2 rfl (n_))))))
      refine W_ret ?_
      refine ⟨_, _, hF, rfl, ?_⟩
      exact ⟨rfl, hS⟩
    · skip
      try simp only [decide_eq_true_eq, decide_eq_false_iff_not, Bool.not_eq_true', Bool.not_eq_false', Bool.not_true, Bool.not_false] at hc2
      refine W_skip ?_
      have hfew : (∀ b ∈ bss, b.length ≤ 200) ∧ bss.length ≤ 10 := by have h := hc1; unfold few at h; simpa using h
      refine W_sr rfl (fun K hK => ?_)
      refine sv hF (v_move rfl) rfl ?_; clear hF a; intro a hF
      refine sc hF rfl rfl rfl en16 rfl (field3_ok B lg _ hS.inv) ?_; clear hF a; intro v w' a hv hF
      obtain ⟨fv, rfl, hf, hS'⟩ := hv
      obtain ⟨⟨wb, p⟩, hq⟩ : ∃ q, fq lg = q := ⟨_, rfl⟩
      have hq1 : (fq lg).1 = wb := by rw [hq]
      have hq2 : (fq lg).2 = p := by rw [hq]
      rw [hq] at hf
      rw [hq1, hq2] at hF
      clear hq1 hq2
      have hp : Prm wb p := hf.1
      replace hC := (hC.st hS').mono hS'.ext.size
      replace hR := (hR.st hS').mono hS'.ext.size
      replace hR2 := (hR2.st hS').mono hS'.ext.size
      replace hS := hS.trans hS'
      clear hS'
      refine sv hF (v_move rfl) rfl ?_; clear hF a; intro a hF
      refine sv hF (v_ext rfl rfl) rfl ?_; clear hF a; intro a hF
      refine sv hF (v_ext rfl rfl) rfl ?_; clear hF a; intro a hF
      refine sv hF (v_ext rfl rfl) rfl ?_; clear hF a; intro a hF
      refine sv hF (v_assign rfl) rfl ?_; clear hF a; intro a hF
      refine sv hF (v_assign rfl) rfl ?_; clear hF a; intro a hF
      refine sv hF (v_assign rfl) rfl ?_; clear hF a; intro a hF
      refine WL_nil (hK _ _ ?_)
      clear hK K
      replace hF := hF.sub _ (c_ 10 rfl (c_ 9 rfl (c_ 8 rfl (c_ 7 rfl (c_ 6 rfl (c_ 1 rfl (c_ 2 rfl (n_))))))))
      refine W_sr rfl (fun K hK => ?_)
      refine sv hF (v_move rfl) rfl ?_; clear hF a; intro a hF
      refine sv hF (v_move rfl) rfl ?_; clear hF a; intro a hF
      refine sv hF (v_move rfl) rfl ?_; clear hF a; intro a hF
      refine sc hF rfl rfl rfl en35 rfl (Dot_reg B _ (some (wb, p)) fv _ _ _ _ cs vals bss _ hf hS.inv hC hR hR2 (Nat.le_refl _) h8 (by omega) (fun b hb => by have := hfew.1 b hb; omega)) ?_; clear hF a; intro v w' a hv hF
      obtain ⟨sX, obX, rfl, hOX, hS'⟩ := hv
      obtain ⟨aX, cX, rfl⟩ := hOX.shape
      have hX := hOX.row (by decide)
      rw [byt_length] at hX hF
      clear hOX
      replace hC := (hC.st hS').mono hS'.ext.size
      replace hR := (hR.st hS').mono hS'.ext.size
      replace hR2 := (hR2.st hS').mono hS'.ext.size
      replace hf := hf.st hS'
      replace hS := hS.trans hS'
      clear hS'
      refine sv hF (v_move rfl) rfl ?_; clear hF a; intro a hF
      refine sv hF (v_ext rfl rfl) rfl ?_; clear hF a; intro a hF
      refine sv hF (v_ext rfl rfl) rfl ?_; clear hF a; intro a hF
      refine sv hF (v_assign rfl) rfl ?_; clear hF a; intro a hF
      refine sv hF (v_assign rfl) rfl ?_; clear hF a; intro a hF
      refine WL_nil (hK _ _ ?_)
      clear hK K
      replace hF := hF.sub _ (c_ 12 rfl (c_ 11 rfl (c_ 10 rfl (c_ 9 rfl (c_ 8 rfl (c_ 7 rfl (c_ 6 rfl (c_ 1 rfl (c_ 2 rfl (n_))))))))))
      refine W_sr rfl (fun K hK => ?_)
      refine sv hF (v_move rfl) rfl ?_; clear hF a; intro a hF
      refine sv hF (v_move rfl) rfl ?_; clear hF a; intro a hF
      refine sv hF (v_move rfl) rfl ?_; clear hF a; intro a hF
      refine sv hF (v_move rfl) rfl ?_; clear hF a; intro a hF
      refine sc hF rfl rfl rfl en36 rfl (rDot_ok B _ wb p hp _ _ _ _ cs vals bss _ hS.inv hC hR hR2 (Nat.le_refl _) h8 (by omega) (fun b hb => by have := hfew.1 b hb; omega)) ?_; clear hF a; intro v w' a hv hF
      obtain ⟨sY, obY, rfl, hOY, hS'⟩ := hv
      obtain ⟨aY, cY, rfl⟩ := hOY.shape
      have hY := hOY.row (by decide)
      rw [byt_length] at hY hF
      clear hOY
      replace hC := (hC.st hS').mono hS'.ext.size
      replace hR := (hR.st hS').mono hS'.ext.size
      replace hR2 := (hR2.st hS').mono hS'.ext.size
      replace hf := hf.st hS'
      replace hX := (hX.st hS').mono hS'.ext.size
      replace hS := hS.trans hS'
      clear hS'
      refine sv hF (v_move rfl) rfl ?_; clear hF a; intro a hF
      refine sv hF (v_ext rfl rfl) rfl ?_; clear hF a; intro a hF
      refine sv hF (v_ext rfl rfl) rfl ?_; clear hF a; intro a hF
      refine sv hF (v_assign rfl) rfl ?_; clear hF a; intro a hF
      refine sv hF (v_assign rfl) rfl ?_; clear hF a; intro a hF
      refine WL_nil (hK _ _ ?_)
      clear hK K
      replace hF := hF.sub _ (c_ 14 rfl (c_ 13 rfl (c_ 12 rfl (c_ 11 rfl (c_ 10 rfl (c_ 9 rfl (c_ 8 rfl (c_ 7 rfl (c_ 6 rfl (c_ 1 rfl (c_ 2 rfl (n_))))))))))))
      refine W_seq ?_
      refine W_sr rfl (fun K hK => ?_)
      refine sv hF (v_move rfl) rfl ?_; clear hF a; intro a hF
      refine sv hF (v_move rfl) rfl ?_; clear hF a; intro a hF
      refine sc hF rfl rfl rfl en21 rfl (was3_ok (rdot (some (wb, p)) cs bss) _ _ rfl) ?_; clear hF a; intro v w' a hv hF
      obtain ⟨rfl, hw⟩ := hv
      obtain rfl := hw.symm
      have hS' := St.refl hS.inv
      replace hC := (hC.st hS').mono hS'.ext.size
      replace hR := (hR.st hS').mono hS'.ext.size
      replace hR2 := (hR2.st hS').mono hS'.ext.size
      replace hf := hf.st hS'
      replace hX := (hX.st hS').mono hS'.ext.size
      replace hY := (hY.st hS').mono hS'.ext.size
      replace hS := hS.trans hS'
      clear hS'
      refine sv hF (v_not rfl) rfl ?_; clear hF a; intro a hF
      refine sv hF (v_move rfl) rfl ?_; clear hF a; intro a hF
      refine svg hF rfl ?_
      refine sv hF (v_move rfl) rfl ?_; clear hF a; intro a hF
      refine svg hF rfl ?_
      refine sv hF (v_move rfl) rfl ?_; clear hF a; intro a hF
      refine svg hF rfl ?_
      refine sc hF rfl rfl rfl en23 rfl (Same_t B _ _ _ _ _ _ _ _ hX hY (rdot_lt hp cs bss) (rdot_lt hp cs bss) rfl) ?_; clear hF a; intro v w' a hv hF
      obtain ⟨rfl, hw⟩ := hv
      obtain rfl := hw.symm
      have hS' := St.refl hS.inv
      replace hC := (hC.st hS').mono hS'.ext.size
      replace hR := (hR.st hS').mono hS'.ext.size
      replace hR2 := (hR2.st hS').mono hS'.ext.size
      replace hf := hf.st hS'
      replace hX := (hX.st hS').mono hS'.ext.size
      replace hY := (hY.st hS').mono hS'.ext.size
      replace hS := hS.trans hS'
      clear hS'
      refine svg hF rfl ?_
      refine sv hF (v_not rfl) rfl ?_; clear hF a; intro a hF
      refine sv hF (v_pickF rfl rfl) rfl ?_; clear hF a; intro a hF
      refine WL_nil (hK _ _ ?_)
      clear hK K
      replace hF := hF.sub _ (c_ 64 rfl (c_ 10 rfl (c_ 9 rfl (c_ 8 rfl (c_ 7 rfl (c_ 6 rfl (c_ 1 rfl (c_ 2 rfl (n_)))))))))
      refine W_ifF hF rfl ?_
      refine W_skip ?_
      refine W_seq ?_
      clear hX hY
      refine W_sr rfl (fun K hK => ?_)
      refine sv hF (v_assign rfl) rfl ?_; clear hF a; intro a hF
      refine WL_nil (hK _ _ ?_)
      clear hK K
      replace hF := hF.sub _ (c_ 15 rfl (c_ 10 rfl (c_ 9 rfl (c_ 8 rfl (c_ 7 rfl (c_ 6 rfl (c_ 1 rfl (c_ 2 rfl (n_)))))))))
      refine W_block ?_
      refine W_loop (fun m a w1 => ∃ (i : Nat), Fr 149 [(1, .slice pc cs.length cc), (2, .slice pv vals.length cv), (7, .bool true), (8, fv), (9, .int .i64 (wb : Int)), (10, .int .u32 (p : Int)), (15, .int .i64 (i : Int))] a ∧ (St FDx B w w1) ∧ (Row FDx B w1.heap.size w1 (.slice pc cs.length cc) (zints cs)) ∧ (Row FDx B w1.heap.size w1 (.slice pv vals.length cv) vals) ∧ (Rows2 FDx B w1.heap.size w1 vals bss) ∧ (Fo FDx B w1 fv (some (wb, p))) ∧ (i ≤ vals.length) ∧ (m + i = vals.length)) (vals.length) ?_ ?_
      · skip
        exact ⟨0, hF.sub _ (c_ 1 rfl (c_ 2 rfl (c_ 7 rfl (c_ 8 rfl (c_ 9 rfl (c_ 10 rfl (c_ 15 rfl (n_)))))))), hS, hC, hR, hR2, hf, by omega, by omega⟩
      · skip
        clear hF
        clear hS hC hR hR2 hf
        rintro m a w1 ⟨i, hF, hS, hC, hR, hR2, hf, hi, hm⟩
        refine W_seq ?_
        refine W_sr rfl (fun K hK => ?_)
        refine sv hF (v_move rfl) rfl ?_; clear hF a; intro a hF
        refine sv hF (v_move rfl) rfl ?_; clear hF a; intro a hF
        refine sv hF (v_lenS rfl sl59 rfl) rfl ?_; clear hF a; intro a hF
        refine sb hF (v_lss rfl rfl) rfl ?_ ?_
        · clear hF a; intro hc3 a hF
          try simp only [decide_eq_true_eq, decide_eq_false_iff_not, Bool.not_eq_true', Bool.not_eq_false', Bool.not_true, Bool.not_false] at hc3
          refine sv hF (v_move rfl) rfl ?_; clear hF a; intro a hF
          refine svg hF rfl ?_
          refine sv hF (v_move rfl) rfl ?_; clear hF a; intro a hF
          refine svg hF rfl ?_
          refine sv hF (v_move rfl) rfl ?_; clear hF a; intro a hF
          refine svg hF rfl ?_
          refine sv hF (v_lenS rfl sl23 rfl) rfl ?_; clear hF a; intro a hF
          refine svg hF rfl ?_
          refine sv hF (v_lss rfl rfl) rfl ?_; clear hF a; intro a hF
          refine sv hF (v_pickT rfl rfl) rfl ?_; clear hF a; intro a hF
          refine WL_nil (hK _ _ ?_)
          clear hK K
          replace hF := hF.sub _ (c_ 74 rfl (c_ 1 rfl (c_ 2 rfl (c_ 7 rfl (c_ 8 rfl (c_ 9 rfl (c_ 10 rfl (c_ 15 rfl (n_)))))))))
          refine W_if hF rfl (fun hc4 => ?_) (fun hc4 => ?_)
          · skip
            try simp only [decide_eq_true_eq, decide_eq_false_iff_not, Bool.not_eq_true', Bool.not_eq_false', Bool.not_true, Bool.not_false] at hc4
            have hlt : i < bss.length := by omega
            obtain ⟨ci, hci0⟩ : ∃ c, cs[i]? = some c := ⟨_, List.getElem?_eq_getElem (by omega)⟩
            obtain ⟨b, hb⟩ : ∃ b, bss[i]? = some b := ⟨_, List.getElem?_eq_getElem hlt⟩
            obtain ⟨b0, hb0⟩ : ∃ b, bss[0]? = some b := ⟨_, List.getElem?_eq_getElem (by omega)⟩
            obtain ⟨vr, hvr⟩ : ∃ v, vals[i]? = some v := ⟨_, List.getElem?_eq_getElem (by omega)⟩
            obtain ⟨v0, hv0⟩ : ∃ v, vals[0]? = some v := ⟨_, List.getElem?_eq_getElem (by omega)⟩
            have hci := zints_at hci0
            have hB_ := hR2.2 i vr b hvr hb
            have hB0 := hR2.2 0 v0 b0 hv0 hb0
            obtain ⟨pb, cb, rfl⟩ := hB_.sl
            obtain ⟨p0, c0, rfl⟩ := hB0.sl
            rw [byt_length] at hB_ hvr hB0 hv0
            obtain ⟨-, gr, or_, hgr, -⟩ := hR.at hvr
            obtain ⟨-, gc, oc, hgc, -⟩ := hC.at hci
            subst hgr hgc
            have hb8 := h8 b (List.mem_of_getElem? hb)
            have hb08 := h8 b0 (List.mem_of_getElem? hb0)
            have hbl2 := hfew.1 b (List.mem_of_getElem? hb)
            have hb0l := hfew.1 b0 (List.mem_of_getElem? hb0)
            refine W_skip ?_
            refine W_seq ?_
            refine W_block ?_
            refine W_sd (m := 15) rfl hmix hS.inv (fun K hK w1 hS' hh => ?_)
            replace hC := (hC.st hS').mono hS'.ext.size
            replace hR := (hR.st hS').mono hS'.ext.size
            replace hR2 := (hR2.st hS').mono hS'.ext.size
            replace hf := hf.st hS'
            replace hB_ := (hB_.st hS').mono hS'.ext.size
            replace hB0 := (hB0.st hS').mono hS'.ext.size
            replace hS := hS.trans hS'
            clear hS'
            clear hh
            refine a_v (i := 0) rfl (by kernel_rfl) hF (fun w2 hx => v_move rfl) rfl ?_; clear hF a; intro a hF
            refine a_v (i := 1) rfl (by kernel_rfl) hF (fun w2 hx => v_move rfl) rfl ?_; clear hF a; intro a hF
            refine a_v (i := 2) rfl (by kernel_rfl) hF (fun w2 hx => v_move rfl) rfl ?_; clear hF a; intro a hF
            refine a_v (i := 3) rfl (by kernel_rfl) hF (fun w2 hx => v_ixS sl23 rfl rfl (by omega) (by omega)) rfl ?_; clear hF a; intro a hF
            refine a_v (i := 4) rfl (by kernel_rfl) hF (fun w2 hx => v_load sc3 rfl (by rw [toNat_c]; exact hC.ldx hx hci)) rfl ?_; clear hF a; intro a hF
            refine a_v (i := 5) rfl (by kernel_rfl) hF (fun w2 hx => v_move rfl) rfl ?_; clear hF a; intro a hF
            refine a_v (i := 6) rfl (by kernel_rfl) hF (fun w2 hx => v_move rfl) rfl ?_; clear hF a; intro a hF
            refine a_v (i := 7) rfl (by kernel_rfl) hF (fun w2 hx => v_ixS sl59 rfl rfl (by omega) (by omega)) rfl ?_; clear hF a; intro a hF
            refine a_v (i := 8) rfl (by kernel_rfl) hF (fun w2 hx => v_load sc22 rfl (by rw [toNat_c]; exact hR.ldx hx hvr)) rfl ?_; clear hF a; intro a hF
            refine a_e (i := 9) rfl (by kernel_rfl) ?_
            refine sc hF rfl rfl rfl en26 rfl (Mul_reg B _ (some (wb, p)) fv ci _ _ b _ hf hS.inv hB_ (Nat.le_refl _) hb8 (by omega)) ?_; clear hF a; intro v w' a hv hF
            obtain ⟨sX, obX, rfl, hOX, hS'⟩ := hv
            obtain ⟨aX, cX, rfl⟩ := hOX.shape
            have hX := hOX.row (by decide)
            rw [byt_length] at hX hF
            clear hOX
            refine WL_nil ⟨hS'.ext, ?_⟩
            replace hC := (hC.st hS').mono hS'.ext.size
            replace hR := (hR.st hS').mono hS'.ext.size
            replace hR2 := (hR2.st hS').mono hS'.ext.size
            replace hf := hf.st hS'
            replace hB_ := (hB_.st hS').mono hS'.ext.size
            replace hB0 := (hB0.st hS').mono hS'.ext.size
            replace hS := hS.trans hS'
            clear hS'
            refine a_v (i := 10) rfl (by kernel_rfl) hF (fun w2 hx => v_move rfl) rfl ?_; clear hF a; intro a hF
            refine a_v (i := 11) rfl (by kernel_rfl) hF (fun w2 hx => v_ext rfl rfl) rfl ?_; clear hF a; intro a hF
            refine a_v (i := 12) rfl (by kernel_rfl) hF (fun w2 hx => v_ext rfl rfl) rfl ?_; clear hF a; intro a hF
            refine a_v (i := 13) rfl (by kernel_rfl) hF (fun w2 hx => v_assign rfl) rfl ?_; clear hF a; intro a hF
            refine a_v (i := 14) rfl (by kernel_rfl) hF (fun w2 hx => v_assign rfl) rfl ?_; clear hF a; intro a hF
            refine a_done (by kernel_rfl) (hK _ _ ?_)
            clear hK K
            replace hF := hF.sub _ (c_ 17 rfl (c_ 16 rfl (c_ 1 rfl (c_ 2 rfl (c_ 7 rfl (c_ 8 rfl (c_ 9 rfl (c_ 10 rfl (c_ 15 rfl (n_))))))))))
            refine W_sd (m := 16) rfl hmix hS.inv (fun K hK w1 hS' hh => ?_)
            replace hC := (hC.st hS').mono hS'.ext.size
            replace hR := (hR.st hS').mono hS'.ext.size
            replace hR2 := (hR2.st hS').mono hS'.ext.size
            replace hf := hf.st hS'
            replace hB_ := (hB_.st hS').mono hS'.ext.size
            replace hB0 := (hB0.st hS').mono hS'.ext.size
            replace hX := (hX.st hS').mono hS'.ext.size
            replace hS := hS.trans hS'
            clear hS'
            clear hh
            refine a_v (i := 0) rfl (by kernel_rfl) hF (fun w2 hx => v_move rfl) rfl ?_; clear hF a; intro a hF
            refine a_v (i := 1) rfl (by kernel_rfl) hF (fun w2 hx => v_move rfl) rfl ?_; clear hF a; intro a hF
            refine a_v (i := 2) rfl (by kernel_rfl) hF (fun w2 hx => v_move rfl) rfl ?_; clear hF a; intro a hF
            refine a_v (i := 3) rfl (by kernel_rfl) hF (fun w2 hx => v_move rfl) rfl ?_; clear hF a; intro a hF
            refine a_v (i := 4) rfl (by kernel_rfl) hF (fun w2 hx => v_ixS sl23 rfl rfl (by omega) (by omega)) rfl ?_; clear hF a; intro a hF
            refine a_v (i := 5) rfl (by kernel_rfl) hF (fun w2 hx => v_load sc3 rfl (by rw [toNat_c]; exact hC.ldx hx hci)) rfl ?_; clear hF a; intro a hF
            refine a_v (i := 6) rfl (by kernel_rfl) hF (fun w2 hx => v_move rfl) rfl ?_; clear hF a; intro a hF
            refine a_v (i := 7) rfl (by kernel_rfl) hF (fun w2 hx => v_move rfl) rfl ?_; clear hF a; intro a hF
            refine a_v (i := 8) rfl (by kernel_rfl) hF (fun w2 hx => v_ixS sl59 rfl rfl (by omega) (by omega)) rfl ?_; clear hF a; intro a hF
            refine a_v (i := 9) rfl (by kernel_rfl) hF (fun w2 hx => v_load sc22 rfl (by rw [toNat_c]; exact hR.ldx hx hvr)) rfl ?_; clear hF a; intro a hF
            refine a_e (i := 10) rfl (by kernel_rfl) ?_
            refine sc hF rfl rfl rfl en37 rfl (rMul3_ok B _ wb p hp ci _ _ b _ hS.inv hB_ (Nat.le_refl _) hb8 (by omega)) ?_; clear hF a; intro v w' a hv hF
            obtain ⟨sY, obY, rfl, hOY, hS'⟩ := hv
            obtain ⟨aY, cY, rfl⟩ := hOY.shape
            have hY := hOY.row (by decide)
            rw [byt_length] at hY hF
            clear hOY
            refine WL_nil ⟨hS'.ext, ?_⟩
            replace hC := (hC.st hS').mono hS'.ext.size
            replace hR := (hR.st hS').mono hS'.ext.size
            replace hR2 := (hR2.st hS').mono hS'.ext.size
            replace hf := hf.st hS'
            replace hB_ := (hB_.st hS').mono hS'.ext.size
            replace hB0 := (hB0.st hS').mono hS'.ext.size
            replace hX := (hX.st hS').mono hS'.ext.size
            replace hS := hS.trans hS'
            clear hS'
            refine a_v (i := 11) rfl (by kernel_rfl) hF (fun w2 hx => v_move rfl) rfl ?_; clear hF a; intro a hF
            refine a_v (i := 12) rfl (by kernel_rfl) hF (fun w2 hx => v_ext rfl rfl) rfl ?_; clear hF a; intro a hF
            refine a_v (i := 13) rfl (by kernel_rfl) hF (fun w2 hx => v_ext rfl rfl) rfl ?_; clear hF a; intro a hF
            refine a_v (i := 14) rfl (by kernel_rfl) hF (fun w2 hx => v_assign rfl) rfl ?_; clear hF a; intro a hF
            refine a_v (i := 15) rfl (by kernel_rfl) hF (fun w2 hx => v_assign rfl) rfl ?_; clear hF a; intro a hF
            refine a_done (by kernel_rfl) (hK _ _ ?_)
            clear hK K
            replace hF := hF.sub _ (c_ 19 rfl (c_ 18 rfl (c_ 17 rfl (c_ 16 rfl (c_ 1 rfl (c_ 2 rfl (c_ 7 rfl (c_ 8 rfl (c_ 9 rfl (c_ 10 rfl (c_ 15 rfl (n_))))))))))))
            refine W_sd (m := 13) rfl hmix hS.inv (fun K hK w1 hS' hh => ?_)
            replace hC := (hC.st hS').mono hS'.ext.size
            replace hR := (hR.st hS').mono hS'.ext.size
            replace hR2 := (hR2.st hS').mono hS'.ext.size
            replace hf := hf.st hS'
            replace hB_ := (hB_.st hS').mono hS'.ext.size
            replace hB0 := (hB0.st hS').mono hS'.ext.size
            replace hX := (hX.st hS').mono hS'.ext.size
            replace hY := (hY.st hS').mono hS'.ext.size
            replace hS := hS.trans hS'
            clear hS'
            clear hh
            refine a_v (i := 0) rfl (by kernel_rfl) hF (fun w2 hx => v_move rfl) rfl ?_; clear hF a; intro a hF
            refine a_v (i := 1) rfl (by kernel_rfl) hF (fun w2 hx => v_move rfl) rfl ?_; clear hF a; intro a hF
            refine a_v (i := 2) rfl (by kernel_rfl) hF (fun w2 hx => v_ixS sl59 rfl rfl (by omega) (by omega)) rfl ?_; clear hF a; intro a hF
            refine a_v (i := 3) rfl (by kernel_rfl) hF (fun w2 hx => v_load sc22 rfl (by rw [toNat_c]; exact hR.ldx hx hvr)) rfl ?_; clear hF a; intro a hF
            refine a_v (i := 4) rfl (by kernel_rfl) hF (fun w2 hx => v_move rfl) rfl ?_; clear hF a; intro a hF
            refine a_v (i := 5) rfl (by kernel_rfl) hF (fun w2 hx => v_ixS sl59 rfl rfl (by decide) (by omega)) rfl ?_; clear hF a; intro a hF
            refine a_v (i := 6) rfl (by kernel_rfl) hF (fun w2 hx => v_load sc22 rfl (hR.ldx hx hv0)) rfl ?_; clear hF a; intro a hF
            refine a_e (i := 7) rfl (by kernel_rfl) ?_
            refine sc hF rfl rfl rfl en25 rfl (Add_reg B _ _ _ _ _ b b0 _ hS.inv hB_ hB0 (Nat.le_refl _) hb8 hb08 (by omega) (by omega)) ?_; clear hF a; intro v w' a hv hF
            obtain ⟨sS_, obS_, rfl, hOS_, hS'⟩ := hv
            obtain ⟨aS_, cS_, rfl⟩ := hOS_.shape
            have hS_ := hOS_.row (by decide)
            rw [byt_length] at hS_ hF
            clear hOS_
            refine WL_nil ⟨hS'.ext, ?_⟩
            replace hC := (hC.st hS').mono hS'.ext.size
            replace hR := (hR.st hS').mono hS'.ext.size
            replace hR2 := (hR2.st hS').mono hS'.ext.size
            replace hf := hf.st hS'
            replace hB_ := (hB_.st hS').mono hS'.ext.size
            replace hB0 := (hB0.st hS').mono hS'.ext.size
            replace hX := (hX.st hS').mono hS'.ext.size
            replace hY := (hY.st hS').mono hS'.ext.size
            replace hS := hS.trans hS'
            clear hS'
            refine a_v (i := 8) rfl (by kernel_rfl) hF (fun w2 hx => v_move rfl) rfl ?_; clear hF a; intro a hF
            refine a_v (i := 9) rfl (by kernel_rfl) hF (fun w2 hx => v_ext rfl rfl) rfl ?_; clear hF a; intro a hF
            refine a_v (i := 10) rfl (by kernel_rfl) hF (fun w2 hx => v_ext rfl rfl) rfl ?_; clear hF a; intro a hF
            refine a_v (i := 11) rfl (by kernel_rfl) hF (fun w2 hx => v_assign rfl) rfl ?_; clear hF a; intro a hF
            refine a_v (i := 12) rfl (by kernel_rfl) hF (fun w2 hx => v_assign rfl) rfl ?_; clear hF a; intro a hF
            refine a_done (by kernel_rfl) (hK _ _ ?_)
            clear hK K
            replace hF := hF.sub _ (c_ 21 rfl (c_ 20 rfl (c_ 19 rfl (c_ 18 rfl (c_ 17 rfl (c_ 16 rfl (c_ 1 rfl (c_ 2 rfl (c_ 7 rfl (c_ 8 rfl (c_ 9 rfl (c_ 10 rfl (c_ 15 rfl (n_))))))))))))))
            refine W_sd (m := 13) rfl hmix hS.inv (fun K hK w1 hS' hh => ?_)
            replace hC := (hC.st hS').mono hS'.ext.size
            replace hR := (hR.st hS').mono hS'.ext.size
            replace hR2 := (hR2.st hS').mono hS'.ext.size
            replace hf := hf.st hS'
            replace hB_ := (hB_.st hS').mono hS'.ext.size
            replace hB0 := (hB0.st hS').mono hS'.ext.size
            replace hX := (hX.st hS').mono hS'.ext.size
            replace hY := (hY.st hS').mono hS'.ext.size
            replace hS_ := (hS_.st hS').mono hS'.ext.size
            replace hS := hS.trans hS'
            clear hS'
            clear hh
            refine a_v (i := 0) rfl (by kernel_rfl) hF (fun w2 hx => v_move rfl) rfl ?_; clear hF a; intro a hF
            refine a_v (i := 1) rfl (by kernel_rfl) hF (fun w2 hx => v_move rfl) rfl ?_; clear hF a; intro a hF
            refine a_v (i := 2) rfl (by kernel_rfl) hF (fun w2 hx => v_ixS sl59 rfl rfl (by omega) (by omega)) rfl ?_; clear hF a; intro a hF
            refine a_v (i := 3) rfl (by kernel_rfl) hF (fun w2 hx => v_load sc22 rfl (by rw [toNat_c]; exact hR.ldx hx hvr)) rfl ?_; clear hF a; intro a hF
            refine a_v (i := 4) rfl (by kernel_rfl) hF (fun w2 hx => v_move rfl) rfl ?_; clear hF a; intro a hF
            refine a_v (i := 5) rfl (by kernel_rfl) hF (fun w2 hx => v_ixS sl59 rfl rfl (by decide) (by omega)) rfl ?_; clear hF a; intro a hF
            refine a_v (i := 6) rfl (by kernel_rfl) hF (fun w2 hx => v_load sc22 rfl (hR.ldx hx hv0)) rfl ?_; clear hF a; intro a hF
            refine a_e (i := 7) rfl (by kernel_rfl) ?_
            refine sc hF rfl rfl rfl en38 rfl (rAdd_ok B _ _ _ _ _ b b0 _ hS.inv hB_ hB0 (Nat.le_refl _) hb8 hb08 (by omega)) ?_; clear hF a; intro v w' a hv hF
            obtain ⟨sT_, obT_, rfl, hOT_, hS'⟩ := hv
            obtain ⟨aT_, cT_, rfl⟩ := hOT_.shape
            have hT_ := hOT_.row (by decide)
            rw [byt_length] at hT_ hF
            clear hOT_
            refine WL_nil ⟨hS'.ext, ?_⟩
            replace hC := (hC.st hS').mono hS'.ext.size
            replace hR := (hR.st hS').mono hS'.ext.size
            replace hR2 := (hR2.st hS').mono hS'.ext.size
            replace hf := hf.st hS'
            replace hB_ := (hB_.st hS').mono hS'.ext.size
            replace hB0 := (hB0.st hS').mono hS'.ext.size
            replace hX := (hX.st hS').mono hS'.ext.size
            replace hY := (hY.st hS').mono hS'.ext.size
            replace hS_ := (hS_.st hS').mono hS'.ext.size
            replace hS := hS.trans hS'
            clear hS'
            refine a_v (i := 8) rfl (by kernel_rfl) hF (fun w2 hx => v_move rfl) rfl ?_; clear hF a; intro a hF
            refine a_v (i := 9) rfl (by kernel_rfl) hF (fun w2 hx => v_ext rfl rfl) rfl ?_; clear hF a; intro a hF
            refine a_v (i := 10) rfl (by kernel_rfl) hF (fun w2 hx => v_ext rfl rfl) rfl ?_; clear hF a; intro a hF
            refine a_v (i := 11) rfl (by kernel_rfl) hF (fun w2 hx => v_assign rfl) rfl ?_; clear hF a; intro a hF
            refine a_v (i := 12) rfl (by kernel_rfl) hF (fun w2 hx => v_assign rfl) rfl ?_; clear hF a; intro a hF
            refine a_done (by kernel_rfl) (hK _ _ ?_)
            clear hK K
            replace hF := hF.sub _ (c_ 23 rfl (c_ 22 rfl (c_ 21 rfl (c_ 20 rfl (c_ 19 rfl (c_ 18 rfl (c_ 17 rfl (c_ 16 rfl (c_ 1 rfl (c_ 2 rfl (c_ 7 rfl (c_ 8 rfl (c_ 9 rfl (c_ 10 rfl (c_ 15 rfl (n_))))))))))))))))
            have h1 := rmul_lt hp ci b
            have h2 : (rsum [b, b0]).getD [] = if b.length = b0.length then xorB b b0 else [] := by rw [rsum2]; split <;> rfl
            have h3 : decide (b.length = b0.length) = (rsum [b, b0]).isSome := by rw [rsum2]; split <;> simp_all
            have h4 : ∀ x ∈ (rsum [b, b0]).getD [], x < 256 := by rw [h2]; split; exact xorB_lt hb8 hb08; simp
            refine W_sr rfl (fun K hK => ?_)
            refine sv hF (v_move rfl) rfl ?_; clear hF a; intro a hF
            refine sv hF (v_move rfl) rfl ?_; clear hF a; intro a hF
            refine sc hF rfl rfl rfl en21 rfl (was3_ok (rmul (some (wb, p)) ci b) _ _ rfl) ?_; clear hF a; intro v w' a hv hF
            obtain ⟨rfl, hw⟩ := hv
            obtain rfl := hw.symm
            have hS' := St.refl hS.inv
            replace hC := (hC.st hS').mono hS'.ext.size
            replace hR := (hR.st hS').mono hS'.ext.size
            replace hR2 := (hR2.st hS').mono hS'.ext.size
            replace hf := hf.st hS'
            replace hB_ := (hB_.st hS').mono hS'.ext.size
            replace hB0 := (hB0.st hS').mono hS'.ext.size
            replace hX := (hX.st hS').mono hS'.ext.size
            replace hY := (hY.st hS').mono hS'.ext.size
            replace hS_ := (hS_.st hS').mono hS'.ext.size
            replace hT_ := (hT_.st hS').mono hS'.ext.size
            replace hS := hS.trans hS'
            clear hS'
            refine sv hF (v_not rfl) rfl ?_; clear hF a; intro a hF
            refine sv hF (v_move rfl) rfl ?_; clear hF a; intro a hF
            refine svg hF rfl ?_
            refine sv hF (v_move rfl) rfl ?_; clear hF a; intro a hF
            refine svg hF rfl ?_
            refine sv hF (v_move rfl) rfl ?_; clear hF a; intro a hF
            refine svg hF rfl ?_
            refine sc hF rfl rfl rfl en23 rfl (Same_t B _ _ _ _ _ _ _ _ hX hY h1 h1 rfl) ?_; clear hF a; intro v w' a hv hF
            obtain ⟨rfl, hw⟩ := hv
            obtain rfl := hw.symm
            have hS' := St.refl hS.inv
            replace hC := (hC.st hS').mono hS'.ext.size
            replace hR := (hR.st hS').mono hS'.ext.size
            replace hR2 := (hR2.st hS').mono hS'.ext.size
            replace hf := hf.st hS'
            replace hB_ := (hB_.st hS').mono hS'.ext.size
            replace hB0 := (hB0.st hS').mono hS'.ext.size
            replace hX := (hX.st hS').mono hS'.ext.size
            replace hY := (hY.st hS').mono hS'.ext.size
            replace hS_ := (hS_.st hS').mono hS'.ext.size
            replace hT_ := (hT_.st hS').mono hS'.ext.size
            replace hS := hS.trans hS'
            clear hS'
            refine svg hF rfl ?_
            refine sv hF (v_not rfl) rfl ?_; clear hF a; intro a hF
            refine sv hF (v_pickF rfl rfl) rfl ?_; clear hF a; intro a hF
            refine sv hF (v_move rfl) rfl ?_; clear hF a; intro a hF
            refine svg hF rfl ?_
            refine sv hF (v_move rfl) rfl ?_; clear hF a; intro a hF
            refine svg hF rfl ?_
            refine sv hF (v_move rfl) rfl ?_; clear hF a; intro a hF
            refine svg hF rfl ?_
            refine sc hF rfl rfl rfl en21 rfl (was3_ok (rsum [b, b0]) _ _ h3) ?_; clear hF a; intro v w' a hv hF
            obtain ⟨rfl, hw⟩ := hv
            obtain rfl := hw.symm
            have hS' := St.refl hS.inv
            replace hC := (hC.st hS').mono hS'.ext.size
            replace hR := (hR.st hS').mono hS'.ext.size
            replace hR2 := (hR2.st hS').mono hS'.ext.size
            replace hf := hf.st hS'
            replace hB_ := (hB_.st hS').mono hS'.ext.size
            replace hB0 := (hB0.st hS').mono hS'.ext.size
            replace hX := (hX.st hS').mono hS'.ext.size
            replace hY := (hY.st hS').mono hS'.ext.size
            replace hS_ := (hS_.st hS').mono hS'.ext.size
            replace hT_ := (hT_.st hS').mono hS'.ext.size
            replace hS := hS.trans hS'
            clear hS'
            refine svg hF rfl ?_
            refine sv hF (v_not rfl) rfl ?_; clear hF a; intro a hF
            refine sv hF (v_pickF rfl rfl) rfl ?_; clear hF a; intro a hF
            refine sv hF (v_move rfl) rfl ?_; clear hF a; intro a hF
            refine svg hF rfl ?_
            refine sv hF (v_move rfl) rfl ?_; clear hF a; intro a hF
            refine svg hF rfl ?_
            refine sv hF (v_move rfl) rfl ?_; clear hF a; intro a hF
            refine svg hF rfl ?_
            refine sc hF rfl rfl rfl en23 rfl (Same_t B _ _ _ _ _ _ _ _ hS_ hT_ h4 (by rw [← h2]; exact h4) h2) ?_; clear hF a; intro v w' a hv hF
            obtain ⟨rfl, hw⟩ := hv
            obtain rfl := hw.symm
            have hS' := St.refl hS.inv
            replace hC := (hC.st hS').mono hS'.ext.size
            replace hR := (hR.st hS').mono hS'.ext.size
            replace hR2 := (hR2.st hS').mono hS'.ext.size
            replace hf := hf.st hS'
            replace hB_ := (hB_.st hS').mono hS'.ext.size
            replace hB0 := (hB0.st hS').mono hS'.ext.size
            replace hX := (hX.st hS').mono hS'.ext.size
            replace hY := (hY.st hS').mono hS'.ext.size
            replace hS_ := (hS_.st hS').mono hS'.ext.size
            replace hT_ := (hT_.st hS').mono hS'.ext.size
            replace hS := hS.trans hS'
            clear hS'
            refine svg hF rfl ?_
            refine sv hF (v_not rfl) rfl ?_; clear hF a; intro a hF
            refine sv hF (v_pickF rfl rfl) rfl ?_; clear hF a; intro a hF
            refine WL_nil (hK _ _ ?_)
            clear hK K
            replace hF := hF.sub _ (c_ 147 rfl (c_ 1 rfl (c_ 2 rfl (c_ 7 rfl (c_ 8 rfl (c_ 9 rfl (c_ 10 rfl (c_ 15 rfl (n_)))))))))
            refine W_ifF hF rfl ?_
            refine W_skip ?_
            refine W_reg rfl (fun K hK => ?_)
            refine sv hF (v_move rfl) rfl ?_; clear hF a; intro a hF
            refine sv hF (v_addI rfl rfl (by omega)) rfl ?_; clear hF a; intro a hF
            refine sv hF (v_assign rfl) rfl ?_; clear hF a; intro a hF
            refine WL_nil (hK _ _ ?_)
            clear hK K
            replace hF := hF.sub _ (c_ 15 rfl (c_ 76 rfl (c_ 75 rfl (c_ 1 rfl (c_ 2 rfl (c_ 7 rfl (c_ 8 rfl (c_ 9 rfl (c_ 10 rfl (n_))))))))))
            exact ⟨m - 1, by omega, i + 1, hF.sub _ (c_ 1 rfl (c_ 2 rfl (c_ 7 rfl (c_ 8 rfl (c_ 9 rfl (c_ 10 rfl (c_ 15 rfl (n_)))))))), hS, hC, hR, hR2, hf, by omega, by omega⟩
          · skip
            try simp only [decide_eq_true_eq, decide_eq_false_iff_not, Bool.not_eq_true', Bool.not_eq_false', Bool.not_true, Bool.not_false] at hc4
            refine W_exit rfl ?_
            refine W_sr rfl (fun K hK => ?_)
            refine sv hF (v_move rfl) rfl ?_; clear hF a; intro a hF
            refine sv hF (v_assign rfl) rfl ?_; clear hF a; intro a hF
            refine WL_nil (hK _ _ ?_)
            clear hK K
            replace hF := hF.sub _ (c_ 6 rfl (c_ 148 rfl (c_ 1 rfl (c_ 2 rfl (c_ 7 rfl (c_ 8 rfl (c_ 9 rfl (c_ 10 rfl (c_ 15 rfl (n_))))))))))
            refine W_ret ?_
            refine ⟨_, _, hF, rfl, ?_⟩
            exact ⟨rfl, hS⟩
        · clear hF a; intro hc3 a hF
          try simp only [decide_eq_true_eq, decide_eq_false_iff_not, Bool.not_eq_true', Bool.not_eq_false', Bool.not_true, Bool.not_false] at hc3
          refine sv hF (v_move rfl) rfl ?_; clear hF a; intro a hF
          refine svn hF rfl rfl rfl ?_; clear hF a; intro a hF
          refine svn hF rfl rfl rfl ?_; clear hF a; intro a hF
          refine svn hF rfl rfl rfl ?_; clear hF a; intro a hF
          refine svn hF rfl rfl rfl ?_; clear hF a; intro a hF
          refine sv hF (v_pickF rfl rfl) rfl ?_; clear hF a; intro a hF
          refine WL_nil (hK _ _ ?_)
          clear hK K
          replace hF := hF.sub _ (c_ 74 rfl (c_ 1 rfl (c_ 2 rfl (c_ 7 rfl (c_ 8 rfl (c_ 9 rfl (c_ 10 rfl (c_ 15 rfl (n_)))))))))
          refine W_ifF hF rfl ?_
          refine W_exit rfl ?_
          refine W_sr rfl (fun K hK => ?_)
          refine sv hF (v_move rfl) rfl ?_; clear hF a; intro a hF
          refine sv hF (v_assign rfl) rfl ?_; clear hF a; intro a hF
          refine WL_nil (hK _ _ ?_)
          clear hK K
          replace hF := hF.sub _ (c_ 6 rfl (c_ 148 rfl (c_ 1 rfl (c_ 2 rfl (c_ 7 rfl (c_ 8 rfl (c_ 9 rfl (c_ 10 rfl (c_ 15 rfl (n_))))))))))
          refine W_ret ?_
          refine ⟨_, _, hF, rfl, ?_⟩
          exact ⟨rfl, hS⟩

end Go.Proofs.Ytlkifpmlpnaaoaa
