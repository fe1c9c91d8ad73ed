/- The statement RegionBack, walked: it returns true. -/
import Derived.Test.YtlkifpmlpnaaoaaFAw03
set_option linter.unusedVariables false
set_option linter.unusedSimpArgs false
namespace Go.Proofs.Ytlkifpmlpnaaoaa
open Go Go.Gam


namespace FxFRegionBack
theorem en15 : Ent Try.prog 15 := ent Try.func15 (by kernel_rfl) (by kernel_rfl)
theorem en16 : Ent Try.prog 16 := ent Try.func16 (by kernel_rfl) (by kernel_rfl)
theorem en17 : Ent Try.prog 17 := ent Try.func17 (by kernel_rfl) (by kernel_rfl)
theorem en19 : Ent Try.prog 19 := ent Try.func19 (by kernel_rfl) (by kernel_rfl)
theorem en22 : Ent Try.prog 22 := ent Try.func22 (by kernel_rfl) (by kernel_rfl)
theorem en23 : Ent Try.prog 23 := ent Try.func23 (by kernel_rfl) (by kernel_rfl)
theorem sc43 : Scalar Try.prog 43 := ⟨_, Try.underlying43, by simp, by simp⟩
theorem sl22 : Sl Try.prog 22 5 (.int .u8 0) 1 := sl_of Try.underlying22 rfl (by kernel_rfl)
theorem sl23 : Sl Try.prog 23 3 (.int .i64 0) 8 := sl_of Try.underlying23 rfl (by kernel_rfl)
theorem sl42 : Sl Try.prog 42 43 (.int .u16 0) 2 := sl_of Try.underlying42 rfl (by kernel_rfl)
end FxFRegionBack
open FxFRegionBack

set_option maxRecDepth 100000 in
set_option maxHeartbeats 1000000 in
theorem RegionBack_ok (B M : Nat) (lg : Bool) (pb : Option Addr) (cb : Nat) (b : List Nat) (pl : Option Addr) (cl : Nat) (l : List Nat) (w : World) (hI : Inv FDx B w) (hM : M ≤ w.heap.size) (hb : Row FDx B M w (.slice pb b.length cb) (byt b)) (hb8 : ∀ x ∈ b, x < 256) (hbl : b.length ≤ maxLen) (hl : Row FDx B M w (.slice pl l.length cl) (u16s l)) (hl16 : ∀ x ∈ l, x < 65536) (hll : l.length ≤ maxLen) : Ret Try.prog 4 [.bool lg, .slice pb b.length cb, .slice pl l.length cl] w fun v w' => v = .bool true ∧ St FDx B w w' := by
  refine enter 117 [(0, .bool lg), (1, .slice pb b.length cb), (2, .slice pl l.length cl)] 6 Try.func4 rfl rfl rfl rfl rfl ?_; intro a hF
  have hS := St.refl hI
  simp only [maxLen] at hbl hll
  refine W_sr rfl (fun K hK => ?_)
  refine sv hF (v_assign rfl) rfl ?_; clear hF a; intro a hF
  refine WL_nil (hK _ _ ?_)
  clear hK K
  refine W_sr rfl (fun K hK => ?_)
  refine sc hF rfl rfl rfl en15 rfl (aw03_ok B _ hS.inv) ?_; clear hF a; intro v w' a hv hF
  obtain ⟨rfl, hS'⟩ := hv
  replace hb := hb.st hS'
  replace hl := hl.st hS'
  replace hS := hS.trans hS'
  clear hS'
  refine sv hF (v_assign rfl) rfl ?_; clear hF a; intro a hF
  refine WL_nil (hK _ _ ?_)
  clear hK K
  replace hF := hF.sub _ (c_ 7 rfl (c_ 6 rfl (c_ 0 rfl (c_ 1 rfl (c_ 2 rfl (n_))))))
  refine W_seq ?_
  refine W_sr rfl (fun K hK => ?_)
  refine sv hF (v_move rfl) rfl ?_; clear hF a; intro a hF
  refine sv hF (v_lenS rfl sl22 rfl) rfl ?_; clear hF a; intro a hF
  refine sb hF (v_gtr rfl rfl) rfl ?_ ?_
  · clear hF a; intro hc1 a hF
    try simp only [decide_eq_true_eq, decide_eq_false_iff_not, Bool.not_eq_true', Bool.not_eq_false', Bool.not_true, Bool.not_false] at hc1
    refine sv hF (v_move rfl) rfl ?_; clear hF a; intro a hF
    refine svn hF rfl rfl rfl ?_; clear hF a; intro a hF
    refine svn hF rfl rfl rfl ?_; clear hF a; intro a hF
    refine svn hF rfl rfl rfl ?_; clear hF a; intro a hF
    refine sv hF (v_pickT rfl rfl) rfl ?_; clear hF a; intro a hF
    refine WL_nil (hK _ _ ?_)
    clear hK K
    replace hF := hF.sub _ (c_ 30 rfl (c_ 7 rfl (c_ 6 rfl (c_ 0 rfl (c_ 1 rfl (c_ 2 rfl (n_)))))))
    refine W_ifT hF rfl ?_
    refine W_sr rfl (fun K hK => ?_)
    refine sv hF (v_move rfl) rfl ?_; clear hF a; intro a hF
    refine sv hF (v_assign rfl) rfl ?_; clear hF a; intro a hF
    refine WL_nil (hK _ _ ?_)
    clear hK K
    replace hF := hF.sub _ (c_ 6 rfl (c_ 7 rfl (c_ 0 rfl (c_ 1 rfl (c_ 2 rfl (n_))))))
    refine W_ret ?_
    refine ⟨_, _, hF, rfl, ?_⟩
    exact ⟨rfl, hS⟩
  · clear hF a; intro hc1 a hF
    try simp only [decide_eq_true_eq, decide_eq_false_iff_not, Bool.not_eq_true', Bool.not_eq_false', Bool.not_true, Bool.not_false] at hc1
    refine sv hF (v_move rfl) rfl ?_; clear hF a; intro a hF
    refine svg hF rfl ?_
    refine sv hF (v_move rfl) rfl ?_; clear hF a; intro a hF
    refine svg hF rfl ?_
    refine sv hF (v_lenS rfl sl42 rfl) rfl ?_; clear hF a; intro a hF
    refine svg hF rfl ?_
    refine sv hF (v_gtr rfl rfl) rfl ?_; clear hF a; intro a hF
    refine sv hF (v_pickF rfl rfl) rfl ?_; clear hF a; intro a hF
    refine WL_nil (hK _ _ ?_)
    clear hK K
    replace hF := hF.sub _ (c_ 30 rfl (c_ 7 rfl (c_ 6 rfl (c_ 0 rfl (c_ 1 rfl (c_ 2 rfl (n_)))))))
    refine W_if hF rfl (fun hc2 => ?_) (fun hc2 => ?_)
    · skip
      try simp only [decide_eq_true_eq, decide_eq_false_iff_not, Bool.not_eq_true', Bool.not_eq_false', Bool.not_true, Bool.not_false] at hc2
      refine W_sr rfl (fun K hK => ?_)
      refine sv hF (v_move rfl) rfl ?_; clear hF a; intro a hF
      refine sv hF (v_assign rfl) rfl ?_; clear hF a; intro a hF
      refine WL_nil (hK _ _ ?_)
      clear hK K
      replace hF := hF.sub _ (c_ 6 rfl (c_ 7 rfl (c_ 0 rfl (c_ 1 rfl (c_ 2 rfl (n_))))))
      refine W_ret ?_
      refine ⟨_, _, hF, rfl, ?_⟩
      exact ⟨rfl, hS⟩
    · skip
      try simp only [decide_eq_true_eq, decide_eq_false_iff_not, Bool.not_eq_true', Bool.not_eq_false', Bool.not_true, Bool.not_false] at hc2
      refine W_skip ?_
      refine W_sr rfl (fun K hK => ?_)
      refine sv hF (v_move rfl) rfl ?_; clear hF a; intro a hF
      refine sc hF rfl rfl rfl en16 rfl (field3_ok B lg _ hS.inv) ?_; clear hF a; intro v w' a hv hF
      obtain ⟨fv, rfl, hf, hS'⟩ := hv
      obtain ⟨⟨wb, p⟩, hq⟩ : ∃ q, fq lg = q := ⟨_, rfl⟩
      have hq1 : (fq lg).1 = wb := by rw [hq]
      have hq2 : (fq lg).2 = p := by rw [hq]
      rw [hq] at hf
      rw [hq1, hq2] at hF
      clear hq1 hq2
      have hp : Prm wb p := hf.1
      replace hb := hb.st hS'
      replace hl := hl.st hS'
      replace hS := hS.trans hS'
      clear hS'
      refine sv hF (v_move rfl) rfl ?_; clear hF a; intro a hF
      refine sv hF (v_ext rfl rfl) rfl ?_; clear hF a; intro a hF
      refine sv hF (v_ext rfl rfl) rfl ?_; clear hF a; intro a hF
      refine sv hF (v_ext rfl rfl) rfl ?_; clear hF a; intro a hF
      refine sv hF (v_assign rfl) rfl ?_; clear hF a; intro a hF
      refine sv hF (v_assign rfl) rfl ?_; clear hF a; intro a hF
      refine sv hF (v_assign rfl) rfl ?_; clear hF a; intro a hF
      refine WL_nil (hK _ _ ?_)
      clear hK K
      replace hF := hF.sub _ (c_ 9 rfl (c_ 8 rfl (c_ 7 rfl (c_ 6 rfl (c_ 1 rfl (c_ 2 rfl (n_)))))))
      refine W_sr rfl (fun K hK => ?_)
      refine sv hF (v_move rfl) rfl ?_; clear hF a; intro a hF
      refine sv hF (v_move rfl) rfl ?_; clear hF a; intro a hF
      refine sc hF rfl rfl rfl en17 rfl (Words_ok B _ (some (wb, p)) fv pb cb b _ hf hS.inv hb (Nat.le_trans hM hS.ext.size) hb8 (by omega)) ?_; clear hF a; intro v w' a hv hF
      obtain ⟨sX, obX, rfl, hOX, hS'⟩ := hv
      obtain ⟨aX, cX, rfl⟩ := hOX.shape
      have hX := hOX.row (by decide)
      rw [ints_length] at hX hF
      clear hOX
      replace hb := hb.st hS'
      replace hl := hl.st hS'
      replace hf := hf.st hS'
      replace hS := hS.trans hS'
      clear hS'
      refine sv hF (v_move rfl) rfl ?_; clear hF a; intro a hF
      refine sv hF (v_ext rfl rfl) rfl ?_; clear hF a; intro a hF
      refine sv hF (v_ext rfl rfl) rfl ?_; clear hF a; intro a hF
      refine sv hF (v_assign rfl) rfl ?_; clear hF a; intro a hF
      refine sv hF (v_assign rfl) rfl ?_; clear hF a; intro a hF
      refine WL_nil (hK _ _ ?_)
      clear hK K
      replace hF := hF.sub _ (c_ 12 rfl (c_ 11 rfl (c_ 9 rfl (c_ 8 rfl (c_ 7 rfl (c_ 6 rfl (c_ 1 rfl (c_ 2 rfl (n_)))))))))
      have hxz := rwords_sz b hp
      rw [ints_zints] at hX
      obtain ⟨z, hze⟩ : ∃ z, z = (((rwords (some (wb, p)) b).getD []).map fun (n : Nat) => (n : Int)) := ⟨_, rfl⟩
      rw [← hze] at hX
      have hzl : z.length = ((rwords (some (wb, p)) b).getD []).length := by rw [hze]; simp
      rw [← hzl] at hX hF
      refine W_sr rfl (fun K hK => ?_)
      refine sv hF (v_move rfl) rfl ?_; clear hF a; intro a hF
      refine sv hF (v_move rfl) rfl ?_; clear hF a; intro a hF
      refine sc hF rfl rfl rfl en19 rfl (Bytes_ok B _ (some (wb, p)) fv _ _ z _ hf hS.inv hX (Nat.le_refl _) (by omega)) ?_; clear hF a; intro v w' a hv hF
      obtain ⟨sC, obC, rfl, hOC, hS'⟩ := hv
      obtain ⟨aC, cC, rfl⟩ := hOC.shape
      have hC := hOC.row (by decide)
      rw [byt_length] at hC hF
      clear hOC
      replace hb := hb.st hS'
      replace hl := hl.st hS'
      replace hf := hf.st hS'
      replace hX := (hX.st hS').mono hS'.ext.size
      replace hS := hS.trans hS'
      clear hS'
      refine sv hF (v_move rfl) rfl ?_; clear hF a; intro a hF
      refine sv hF (v_ext rfl rfl) rfl ?_; clear hF a; intro a hF
      refine sv hF (v_ext rfl rfl) rfl ?_; clear hF a; intro a hF
      refine sv hF (v_assign rfl) rfl ?_; clear hF a; intro a hF
      refine sv hF (v_assign rfl) rfl ?_; clear hF a; intro a hF
      refine WL_nil (hK _ _ ?_)
      clear hK K
      replace hF := hF.sub _ (c_ 14 rfl (c_ 13 rfl (c_ 12 rfl (c_ 9 rfl (c_ 8 rfl (c_ 7 rfl (c_ 6 rfl (c_ 1 rfl (c_ 2 rfl (n_))))))))))
      refine W_seq ?_
      refine W_cut (fun a w1 => Fr 117 [(61, .bool false), (2, .slice pl l.length cl), (7, .bool true), (8, fv), (9, .int .i64 (wb : Int))] a ∧ St FDx B w w1 ∧ Row FDx B M w1 (.slice pl l.length cl) (u16s l) ∧ Fo FDx B w1 fv (some (wb, p))) ?_ ?_
      · skip
        refine W_reg rfl (fun K hK => ?_)
        refine sv hF (v_move rfl) rfl ?_; clear hF a; intro a hF
        refine sb hF (v_eql rfl rfl) rfl ?_ ?_
        · clear hF a; intro hc3 a hF
          try simp only [decide_eq_true_eq, decide_eq_false_iff_not, Bool.not_eq_true', Bool.not_eq_false', Bool.not_true, Bool.not_false] at hc3
          obtain ⟨ws, hws⟩ := errV_eq (show errV (rwords (some (wb, p)) b) = 0 by omega)
          have hbk : rbytes (some (wb, p)) z = some b := by rw [hze, hws]; exact words_back hp hb8 hws
          rw [hbk] at hF hC
          simp only [Option.getD_some] at hF hC
          refine sv hF (v_move rfl) rfl ?_; clear hF a; intro a hF
          refine svg hF rfl ?_
          refine sv hF (v_move rfl) rfl ?_; clear hF a; intro a hF
          refine svg hF rfl ?_
          refine sv hF ((v_neq rfl rfl).as (congrArg Value.bool (decide_eq_false (by rw [show errV (some b) = 0 from rfl]; simp)))) rfl ?_; clear hF a; intro a hF
          refine svg hF rfl ?_
          refine sv hF (v_move rfl) rfl ?_; clear hF a; intro a hF
          refine svg hF rfl ?_
          refine sv hF (v_move rfl) rfl ?_; clear hF a; intro a hF
          refine svg hF rfl ?_
          refine sv hF (v_move rfl) rfl ?_; clear hF a; intro a hF
          refine svg hF rfl ?_
          refine sc hF rfl rfl rfl en23 rfl (Same_t B _ _ _ _ _ b b _ hC (hb.mono (Nat.le_trans hM hS.ext.size)) hb8 hb8 rfl) ?_; clear hF a; intro v w' a hv hF
          obtain ⟨rfl, hw⟩ := hv
          obtain rfl := hw.symm
          have hS' := St.refl hS.inv
          replace hb := hb.st hS'
          replace hl := hl.st hS'
          replace hf := hf.st hS'
          replace hX := (hX.st hS').mono hS'.ext.size
          replace hC := (hC.st hS').mono hS'.ext.size
          replace hS := hS.trans hS'
          clear hS'
          refine svg hF rfl ?_
          refine sv hF (v_not rfl) rfl ?_; clear hF a; intro a hF
          refine svg hF rfl ?_
          refine sv hF (v_pickF rfl rfl) rfl ?_; clear hF a; intro a hF
          refine sv hF (v_pickT rfl rfl) rfl ?_; clear hF a; intro a hF
          refine WL_nil (hK _ _ ?_)
          clear hK K
          replace hF := hF.sub _ (c_ 61 rfl (c_ 9 rfl (c_ 8 rfl (c_ 7 rfl (c_ 6 rfl (c_ 2 rfl (n_)))))))
          exact ⟨hF.sub _ (c_ 61 rfl (c_ 2 rfl (c_ 7 rfl (c_ 8 rfl (c_ 9 rfl n_))))), hS, hl, hf⟩
        · clear hF a; intro hc3 a hF
          try simp only [decide_eq_true_eq, decide_eq_false_iff_not, Bool.not_eq_true', Bool.not_eq_false', Bool.not_true, Bool.not_false] at hc3
          refine sv hF (v_move rfl) rfl ?_; clear hF a; intro a hF
          refine svn hF rfl rfl rfl ?_; clear hF a; intro a hF
          refine svn hF rfl rfl rfl ?_; clear hF a; intro a hF
          refine svn hF rfl rfl rfl ?_; clear hF a; intro a hF
          refine svu hF rfl rfl ?_; clear hF a; intro a hF
          refine svu hF rfl rfl ?_; clear hF a; intro a hF
          refine svu hF rfl rfl ?_; clear hF a; intro a hF
          refine svu hF rfl rfl ?_; clear hF a; intro a hF
          refine svn hF rfl rfl rfl ?_; clear hF a; intro a hF
          refine sv hF (v_pickF rfl rfl) rfl ?_; clear hF a; intro a hF
          refine WL_nil (hK _ _ ?_)
          clear hK K
          replace hF := hF.sub _ (c_ 61 rfl (c_ 9 rfl (c_ 8 rfl (c_ 7 rfl (c_ 6 rfl (c_ 2 rfl (n_)))))))
          exact ⟨hF.sub _ (c_ 61 rfl (c_ 2 rfl (c_ 7 rfl (c_ 8 rfl (c_ 9 rfl n_))))), hS, hl, hf⟩
      · skip
        clear hF
        clear hb hS hl hf hX hC hxz hzl
        clear hze z
        rintro a w1 ⟨hF, hS, hl, hf⟩
        refine W_ifF hF rfl ?_
        refine W_skip ?_
        refine W_sr rfl (fun K hK => ?_)
        refine sv hF (v_assign rfl) rfl ?_; clear hF a; intro a hF
        refine WL_nil (hK _ _ ?_)
        clear hK K
        replace hF := hF.sub _ (c_ 15 rfl (c_ 2 rfl (c_ 7 rfl (c_ 8 rfl (c_ 9 rfl (n_))))))
        refine W_seq ?_
        refine W_sr rfl (fun K hK => ?_)
        refine sv hF (v_assign rfl) rfl ?_; clear hF a; intro a hF
        refine WL_nil (hK _ _ ?_)
        clear hK K
        refine W_block ?_
        refine W_loop (fun m a w1 => ∃ (i : Nat) (v15 : Value) (b15 : Option Nat), Fr 117 [(2, .slice pl l.length cl), (7, .bool true), (8, fv), (9, .int .i64 (wb : Int)), (15, v15), (16, .int .i64 (i : Int))] a ∧ (St FDx B w w1) ∧ (Row FDx B M w1 (.slice pl l.length cl) (u16s l)) ∧ (Fo FDx B w1 fv (some (wb, p))) ∧ (Own FDx B w.heap.size w1 FDx.E v15 b15 (ints (kcut wb (l.take i)))) ∧ (i ≤ l.length) ∧ (m + i = l.length)) (l.length) ?_ ?_
        · skip
          exact ⟨0, _, none, hF.sub _ (c_ 2 rfl (c_ 7 rfl (c_ 8 rfl (c_ 9 rfl (c_ 15 rfl (c_ 16 rfl (n_))))))), hS, hl, hf, (Own.nil _ _ _ _ _).cast rfl, by omega, by omega⟩
        · skip
          clear hF
          clear hS hl hf
          rintro m a w1 ⟨i, v15, b15, hF, hS, hl, hf, hO, hi, hm⟩
          refine W_seq ?_
          refine W_sr rfl (fun K hK => ?_)
          refine sv hF (v_move rfl) rfl ?_; clear hF a; intro a hF
          refine sv hF (v_move rfl) rfl ?_; clear hF a; intro a hF
          refine sv hF (v_lenS rfl sl42 rfl) rfl ?_; clear hF a; intro a hF
          refine sv hF (v_lss rfl rfl) rfl ?_; clear hF a; intro a hF
          refine WL_nil (hK _ _ ?_)
          clear hK K
          replace hF := hF.sub _ (c_ 65 rfl (c_ 2 rfl (c_ 7 rfl (c_ 8 rfl (c_ 9 rfl (c_ 15 rfl (c_ 16 rfl (n_))))))))
          refine W_if hF rfl (fun hc4 => ?_) (fun hc4 => ?_)
          · skip
            try simp only [decide_eq_true_eq, decide_eq_false_iff_not, Bool.not_eq_true', Bool.not_eq_false', Bool.not_true, Bool.not_false] at hc4
            have hlt : i < l.length := by omega
            obtain ⟨n, hn⟩ : ∃ n, l[i]? = some n := ⟨_, List.getElem?_eq_getElem hlt⟩
            have hn16 := hl16 n (List.mem_of_getElem? hn)
            obtain ⟨-, gl, ol, hgl, hcl⟩ := hl.at (u16s_at hn)
            subst hgl
            refine W_skip ?_
            refine W_seq ?_
            refine W_block ?_
            refine W_sr rfl (fun K hK => ?_)
            refine sv hF (v_move rfl) rfl ?_; clear hF a; intro a hF
            refine sv hF (v_move rfl) rfl ?_; clear hF a; intro a hF
            refine sv hF (v_ixS sl42 rfl rfl (by omega) (by omega)) rfl ?_; clear hF a; intro a hF
            refine sv hF (v_load sc43 rfl (by first | assumption | (rw [toNat_c]; assumption))) rfl ?_; clear hF a; intro a hF
            refine sv hF (v_cv Try.underlying43 Try.underlying3 rfl (wrap_i64 _ (by omega))) rfl ?_; clear hF a; intro a hF
            refine sv hF (v_assign rfl) rfl ?_; clear hF a; intro a hF
            refine WL_nil (hK _ _ ?_)
            clear hK K
            replace hF := hF.sub _ (c_ 17 rfl (c_ 2 rfl (c_ 7 rfl (c_ 8 rfl (c_ 9 rfl (c_ 15 rfl (c_ 16 rfl (n_))))))))
            refine W_seq ?_
            refine W_sr rfl (fun K hK => ?_)
            refine sv hF (v_move rfl) rfl ?_; clear hF a; intro a hF
            refine sv hF (v_eql rfl rfl) rfl ?_; clear hF a; intro a hF
            refine WL_nil (hK _ _ ?_)
            clear hK K
            replace hF := hF.sub _ (c_ 74 rfl (c_ 17 rfl (c_ 2 rfl (c_ 7 rfl (c_ 8 rfl (c_ 9 rfl (c_ 15 rfl (c_ 16 rfl (n_)))))))))
            refine W_if hF rfl (fun hc5 => ?_) (fun hc5 => ?_)
            · skip
              try simp only [decide_eq_true_eq, decide_eq_false_iff_not, Bool.not_eq_true', Bool.not_eq_false', Bool.not_true, Bool.not_false] at hc5
              have hw8 : wb = 8 := by omega
              refine W_reg rfl (fun K hK => ?_)
              refine sv hF (v_move rfl) rfl ?_; clear hF a; intro a hF
              refine sv hF ((v_remI rfl rfl (by omega) (by omega)).as (congrArg _ (show (n : Int) % 256 = ((n % 256 : Nat) : Int) by omega))) rfl ?_; clear hF a; intro a hF
              refine sv hF (v_assign rfl) rfl ?_; clear hF a; intro a hF
              refine WL_nil (hK _ _ ?_)
              clear hK K
              replace hF := hF.sub _ (c_ 17 rfl (c_ 2 rfl (c_ 7 rfl (c_ 8 rfl (c_ 9 rfl (c_ 15 rfl (c_ 16 rfl (n_))))))))
              refine W_reg rfl (fun K hK => ?_)
              refine sv hF (v_move rfl) rfl ?_; clear hF a; intro a hF
              refine sv hF (v_move rfl) rfl ?_; clear hF a; intro a hF
              refine s_bs (D := FDx) (B := B) hF sl23 rfl rfl (by decide) (by simp [Value.cells]) (by decide) hS.inv rfl ?_; clear hF a; intro w' a hm hI' hb hF
              replace hl := hl.mb hm (fun _ h => by cases h)
              replace hf := hf.mb hm
              replace hO := hO.mb hm (fun _ _ => by simp)
              replace hS := hS.mb0 hm
              clear hm hI'
              refine s_app (D := FDx) (B := B) hF rfl sl23 rfl rfl hO (hb.row (by decide)) (by simp [Value.oneCell']) (by simp; omega) (by simp [maxLen]; omega) (hS.ext.size) (by decide) hS.inv rfl ?_; clear hF a; intro v' b' w' a ho' hm hI' hb' hF
              replace hl := hl.mb hm (fun k h => Nat.le_trans (by omega) (hO.lt k h).1)
              replace hf := hf.mb hm
              replace hS := hS.mb hm (fun k h => Nat.le_trans (Nat.le_refl _) (hO.lt k h).1)
              replace hO := ho'
              clear hm hI' ho' hb
              refine sv hF (v_assign rfl) rfl ?_; clear hF a; intro a hF
              refine WL_nil (hK _ _ ?_)
              clear hK K
              replace hF := hF.sub _ (c_ 15 rfl (c_ 2 rfl (c_ 7 rfl (c_ 8 rfl (c_ 9 rfl (c_ 16 rfl (n_)))))))
              refine W_reg rfl (fun K hK => ?_)
              refine sv hF (v_move rfl) rfl ?_; clear hF a; intro a hF
              refine sv hF (v_addI rfl rfl (by omega)) rfl ?_; clear hF a; intro a hF
              refine sv hF (v_assign rfl) rfl ?_; clear hF a; intro a hF
              refine WL_nil (hK _ _ ?_)
              clear hK K
              exact ⟨m - 1, by omega, i + 1, _, _, hF.sub _ (c_ 2 rfl (c_ 7 rfl (c_ 8 rfl (c_ 9 rfl (c_ 15 rfl (c_ 16 rfl (n_))))))), hS, hl, hf, hO.cast (by rw [kcut_snoc hn, ints_snoc]; simp [hw8]), by omega, by omega⟩
            · skip
              try simp only [decide_eq_true_eq, decide_eq_false_iff_not, Bool.not_eq_true', Bool.not_eq_false', Bool.not_true, Bool.not_false] at hc5
              have hw8 : ¬ wb = 8 := by omega
              refine W_skip ?_
              refine W_reg rfl (fun K hK => ?_)
              refine sv hF (v_move rfl) rfl ?_; clear hF a; intro a hF
              refine sv hF (v_move rfl) rfl ?_; clear hF a; intro a hF
              refine s_bs (D := FDx) (B := B) hF sl23 rfl rfl (by decide) (by simp [Value.cells]) (by decide) hS.inv rfl ?_; clear hF a; intro w' a hm hI' hb hF
              replace hl := hl.mb hm (fun _ h => by cases h)
              replace hf := hf.mb hm
              replace hO := hO.mb hm (fun _ _ => by simp)
              replace hS := hS.mb0 hm
              clear hm hI'
              refine s_app (D := FDx) (B := B) hF rfl sl23 rfl rfl hO (hb.row (by decide)) (by simp [Value.oneCell']) (by simp; omega) (by simp [maxLen]; omega) (hS.ext.size) (by decide) hS.inv rfl ?_; clear hF a; intro v' b' w' a ho' hm hI' hb' hF
              replace hl := hl.mb hm (fun k h => Nat.le_trans (by omega) (hO.lt k h).1)
              replace hf := hf.mb hm
              replace hS := hS.mb hm (fun k h => Nat.le_trans (Nat.le_refl _) (hO.lt k h).1)
              replace hO := ho'
              clear hm hI' ho' hb
              refine sv hF (v_assign rfl) rfl ?_; clear hF a; intro a hF
              refine WL_nil (hK _ _ ?_)
              clear hK K
              replace hF := hF.sub _ (c_ 15 rfl (c_ 2 rfl (c_ 7 rfl (c_ 8 rfl (c_ 9 rfl (c_ 16 rfl (n_)))))))
              refine W_reg rfl (fun K hK => ?_)
              refine sv hF (v_move rfl) rfl ?_; clear hF a; intro a hF
              refine sv hF (v_addI rfl rfl (by omega)) rfl ?_; clear hF a; intro a hF
              refine sv hF (v_assign rfl) rfl ?_; clear hF a; intro a hF
              refine WL_nil (hK _ _ ?_)
              clear hK K
              exact ⟨m - 1, by omega, i + 1, _, _, hF.sub _ (c_ 2 rfl (c_ 7 rfl (c_ 8 rfl (c_ 9 rfl (c_ 15 rfl (c_ 16 rfl (n_))))))), hS, hl, hf, hO.cast (by rw [kcut_snoc hn, ints_snoc]; simp [hw8]), by omega, by omega⟩
          · skip
            try simp only [decide_eq_true_eq, decide_eq_false_iff_not, Bool.not_eq_true', Bool.not_eq_false', Bool.not_true, Bool.not_false] at hc4
            refine W_exit rfl ?_
            obtain rfl : i = l.length := by omega
            rw [List.take_length] at hO
            obtain ⟨a15, c15, rfl⟩ := hO.shape
            have hk := kcut_lt hp hl16
            have hkl := kcut_length wb l
            rw [ints_length] at hF hO
            generalize kcut wb l = k at *
            have hL := hO.row (by decide)
            clear hO
            have hL2 := hL
            rw [ints_zints] at hL2
            obtain ⟨z, hze⟩ : ∃ z, z = k.map fun (n : Nat) => (n : Int) := ⟨_, rfl⟩
            rw [← hze] at hL2
            have hzl : z.length = k.length := by rw [hze]; simp
            have hbz : rbytes (some (wb, p)) z = some (bytesN (wb / 8) k) := by rw [hze]; exact rbytes_nat hk
            have hbl2 := bytesN_length hp k
            have hwk := rwords_bytes hp hk
            rw [← hzl] at hF hL2
            refine W_sr rfl (fun K hK => ?_)
            refine sv hF (v_move rfl) rfl ?_; clear hF a; intro a hF
            refine sv hF (v_move rfl) rfl ?_; clear hF a; intro a hF
            refine sc hF rfl rfl rfl en19 rfl (Bytes_ok B _ (some (wb, p)) fv _ _ z _ hf hS.inv hL2 (Nat.le_refl _) (by omega)) ?_; clear hF a; intro v w' a hv hF
            obtain ⟨sD, obD, rfl, hOD, hS'⟩ := hv
            rw [hbz] at hOD hF
            try simp only [Option.getD_some, Option.getD_none] at hOD
            obtain ⟨aD, cD, rfl⟩ := hOD.shape
            have hD := hOD.row (by decide)
            rw [byt_length] at hD hF
            clear hOD
            replace hL := (hL.st hS').mono hS'.ext.size
            replace hf := hf.st hS'
            replace hL2 := (hL2.st hS').mono hS'.ext.size
            replace hS := hS.trans hS'
            clear hS'
            refine sv hF (v_move rfl) rfl ?_; clear hF a; intro a hF
            refine sv hF (v_ext rfl rfl) rfl ?_; clear hF a; intro a hF
            refine sv hF (v_ext rfl rfl) rfl ?_; clear hF a; intro a hF
            refine sv hF (v_assign rfl) rfl ?_; clear hF a; intro a hF
            refine sv hF (v_assign rfl) rfl ?_; clear hF a; intro a hF
            refine WL_nil (hK _ _ ?_)
            clear hK K
            replace hF := hF.sub _ (c_ 19 rfl (c_ 18 rfl (c_ 86 rfl (c_ 85 rfl (c_ 81 rfl (c_ 84 rfl (c_ 83 rfl (c_ 82 rfl (c_ 2 rfl (c_ 7 rfl (c_ 8 rfl (c_ 9 rfl (c_ 15 rfl (c_ 16 rfl (n_)))))))))))))))
            have hD8 : ∀ x ∈ bytesN (wb / 8) k, x < 256 := by have := rbytes_lt hp z; rw [hbz] at this; exact this
            refine W_sr rfl (fun K hK => ?_)
            refine sv hF (v_move rfl) rfl ?_; clear hF a; intro a hF
            refine sv hF (v_move rfl) rfl ?_; clear hF a; intro a hF
            refine sc hF rfl rfl rfl en17 rfl (Words_ok B _ (some (wb, p)) fv _ _ (bytesN (wb / 8) k) _ hf hS.inv hD (Nat.le_refl _) hD8 (by rcases nn12 hp with ⟨_, e⟩ | ⟨_, e⟩ <;> rw [hbl2, e] <;> omega)) ?_; clear hF a; intro v w' a hv hF
            obtain ⟨sY, obY, rfl, hOY, hS'⟩ := hv
            rw [hwk] at hOY hF
            try simp only [Option.getD_some, Option.getD_none] at hOY
            obtain ⟨aY, cY, rfl⟩ := hOY.shape
            have hY := hOY.row (by decide)
            rw [ints_length] at hY hF
            clear hOY
            replace hL := (hL.st hS').mono hS'.ext.size
            replace hf := hf.st hS'
            replace hL2 := (hL2.st hS').mono hS'.ext.size
            replace hD := (hD.st hS').mono hS'.ext.size
            replace hS := hS.trans hS'
            clear hS'
            refine sv hF (v_move rfl) rfl ?_; clear hF a; intro a hF
            refine sv hF (v_ext rfl rfl) rfl ?_; clear hF a; intro a hF
            refine sv hF (v_ext rfl rfl) rfl ?_; clear hF a; intro a hF
            refine sv hF (v_assign rfl) rfl ?_; clear hF a; intro a hF
            refine sv hF (v_assign rfl) rfl ?_; clear hF a; intro a hF
            refine WL_nil (hK _ _ ?_)
            clear hK K
            rw [hzl] at hF
            refine W_sr rfl (fun K hK => ?_)
            refine sv hF (v_move rfl) rfl ?_; clear hF a; intro a hF
            refine sv hF (v_move rfl) rfl ?_; clear hF a; intro a hF
            refine svg hF rfl ?_
            refine sv hF (v_move rfl) rfl ?_; clear hF a; intro a hF
            refine svg hF rfl ?_
            refine sv hF ((v_eql rfl rfl).as (congrArg Value.bool (decide_eq_true (rfl)))) rfl ?_; clear hF a; intro a hF
            refine sv hF (v_pickT rfl rfl) rfl ?_; clear hF a; intro a hF
            refine sv hF (v_move rfl) rfl ?_; clear hF a; intro a hF
            refine svg hF rfl ?_
            refine sv hF (v_move rfl) rfl ?_; clear hF a; intro a hF
            refine svg hF rfl ?_
            refine sv hF ((v_eql rfl rfl).as (congrArg Value.bool (decide_eq_true (rfl)))) rfl ?_; clear hF a; intro a hF
            refine sv hF (v_pickT rfl rfl) rfl ?_; clear hF a; intro a hF
            refine sv hF (v_move rfl) rfl ?_; clear hF a; intro a hF
            refine svg hF rfl ?_
            refine sv hF (v_move rfl) rfl ?_; clear hF a; intro a hF
            refine svg hF rfl ?_
            refine sv hF (v_move rfl) rfl ?_; clear hF a; intro a hF
            refine svg hF rfl ?_
            refine sc hF rfl rfl rfl en22 rfl (Intsn_t B _ _ _ _ _ k k _ hS.inv hY hL (by omega) rfl) ?_; clear hF a; intro v w' a hv hF
            obtain ⟨rfl, hS'⟩ := hv
            replace hL := (hL.st hS').mono hS'.ext.size
            replace hf := hf.st hS'
            replace hL2 := (hL2.st hS').mono hS'.ext.size
            replace hD := (hD.st hS').mono hS'.ext.size
            replace hY := (hY.st hS').mono hS'.ext.size
            replace hS := hS.trans hS'
            clear hS'
            refine sv hF (v_pickT rfl rfl) rfl ?_; clear hF a; intro a hF
            refine sv hF (v_move rfl) rfl ?_; clear hF a; intro a hF
            refine svg hF rfl ?_
            refine sv hF (v_move rfl) rfl ?_; clear hF a; intro a hF
            refine svg hF rfl ?_
            refine sv hF (v_lenS rfl sl22 rfl) rfl ?_; clear hF a; intro a hF
            refine svg hF rfl ?_
            refine sv hF (v_move rfl) rfl ?_; clear hF a; intro a hF
            refine svg hF rfl ?_
            refine sv hF (v_lenS rfl sl23 rfl) rfl ?_; clear hF a; intro a hF
            refine svg hF rfl ?_
            refine sv hF (v_move rfl) rfl ?_; clear hF a; intro a hF
            refine svg hF rfl ?_
            refine sv hF (v_mulI rfl rfl (by have := hp.w; rcases this with rfl | rfl <;> omega)) rfl ?_; clear hF a; intro a hF
            refine svg hF rfl ?_
            refine sv hF (v_quoI rfl rfl (by have := hp.w; rcases this with rfl | rfl <;> omega) (by have := hp.w; rcases this with rfl | rfl <;> omega) (by omega)) rfl ?_; clear hF a; intro a hF
            refine svg hF rfl ?_
            refine sv hF ((v_eql rfl rfl).as (congrArg Value.bool (decide_eq_true (by rw [hbl2]; rcases hp.w with rfl | rfl <;> omega)))) rfl ?_; clear hF a; intro a hF
            refine sv hF (v_pickT rfl rfl) rfl ?_; clear hF a; intro a hF
            refine sv hF (v_assign rfl) rfl ?_; clear hF a; intro a hF
            refine WL_nil (hK _ _ ?_)
            clear hK K
            refine W_ret ?_
            refine ⟨_, _, hF, rfl, ?_⟩
            exact ⟨rfl, hS⟩

end Go.Proofs.Ytlkifpmlpnaaoaa
