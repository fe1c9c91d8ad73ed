/- The statement InvertVander, walked: it returns true. -/
import Derived.Test.YtcnlooajjnghaaaFAw05
set_option linter.unusedVariables false
set_option linter.unusedSimpArgs false
namespace Go.Proofs.Ytcnlooajjnghaaa
open Go Go.Gam


namespace FxFInvertVander
theorem en13 : Ent Try.prog 13 := ent Try.func13 (by kernel_rfl) (by kernel_rfl)
theorem en14 : Ent Try.prog 14 := ent Try.func14 (by kernel_rfl) (by kernel_rfl)
theorem en15 : Ent Try.prog 15 := ent Try.func15 (by kernel_rfl) (by kernel_rfl)
theorem en16 : Ent Try.prog 16 := ent Try.func16 (by kernel_rfl) (by kernel_rfl)
theorem en17 : Ent Try.prog 17 := ent Try.func17 (by kernel_rfl) (by kernel_rfl)
theorem sc28 : Scalar Try.prog 28 := ⟨_, Try.underlying28, by simp, by simp⟩
theorem sc5 : Scalar Try.prog 5 := ⟨_, Try.underlying5, by simp, by simp⟩
theorem sl22 : Sl Try.prog 22 5 (.int .u8 0) 1 := sl_of Try.underlying22 rfl (by kernel_rfl)
theorem sl28 : Sl Try.prog 28 3 (.int .i64 0) 8 := sl_of Try.underlying28 rfl (by kernel_rfl)
theorem sl29 : Sl Try.prog 29 28 (.slice none 0 0) 24 := sl_of Try.underlying29 rfl (by kernel_rfl)
theorem sl30 : Sl Try.prog 30 28 (.slice none 0 0) 24 := sl_of Try.underlying30 rfl (by kernel_rfl)
end FxFInvertVander
open FxFInvertVander

set_option maxRecDepth 100000 in
set_option maxHeartbeats 1000000 in
theorem InvertVander_ok (B M : Nat) (lg : Bool) (pv : Option Addr) (cv : Nat) (v : List Nat) (w : World) (hI : Inv FDx B w) (hM : M ≤ w.heap.size) (hvr : Row FDx B M w (.slice pv v.length cv) (byt v)) (hv8 : ∀ x ∈ v, x < 256) (hvl : v.length ≤ maxLen) : Ret Try.prog 3 [.bool lg, .slice pv v.length cv] w fun v w' => v = .bool true ∧ St FDx B w w' := by
  refine enter 89 [(0, .bool lg), (1, .slice pv v.length cv)] 4 Try.func3 rfl rfl rfl rfl rfl ?_; intro a hF
  have hS := St.refl hI
  simp only [maxLen] at hvl
  refine W_sr rfl (fun K hK => ?_)
  refine sv hF (v_assign rfl) rfl ?_; clear hF a; intro a hF
  refine WL_nil (hK _ _ ?_)
  clear hK K
  refine W_sr rfl (fun K hK => ?_)
  refine sc hF rfl rfl rfl en13 rfl (aw05_ok B _ hS.inv) ?_; clear hF a; intro v w' a hv hF
  obtain ⟨rfl, hS'⟩ := hv
  replace hvr := hvr.st hS'
  replace hS := hS.trans hS'
  clear hS'
  refine sv hF (v_assign rfl) rfl ?_; clear hF a; intro a hF
  refine WL_nil (hK _ _ ?_)
  clear hK K
  replace hF := hF.sub _ (c_ 5 rfl (c_ 4 rfl (c_ 0 rfl (c_ 1 rfl (n_)))))
  refine W_seq ?_
  refine W_sr rfl (fun K hK => ?_)
  refine sv hF (v_move rfl) rfl ?_; clear hF a; intro a hF
  refine sv hF (v_lenS rfl sl22 rfl) rfl ?_; clear hF a; intro a hF
  refine sb hF (v_eql rfl rfl) rfl ?_ ?_
  · clear hF a; intro hc1 a hF
    try simp only [decide_eq_true_eq, decide_eq_false_iff_not, Bool.not_eq_true', Bool.not_eq_false', Bool.not_true, Bool.not_false] at hc1
    refine sv hF (v_move rfl) rfl ?_; clear hF a; intro a hF
    refine svn hF rfl rfl rfl ?_; clear hF a; intro a hF
    refine svn hF rfl rfl rfl ?_; clear hF a; intro a hF
    refine svn hF rfl rfl rfl ?_; clear hF a; intro a hF
    refine sv hF (v_pickT rfl rfl) rfl ?_; clear hF a; intro a hF
    refine WL_nil (hK _ _ ?_)
    clear hK K
    replace hF := hF.sub _ (c_ 24 rfl (c_ 5 rfl (c_ 4 rfl (c_ 0 rfl (c_ 1 rfl (n_))))))
    refine W_ifT hF rfl ?_
    refine W_sr rfl (fun K hK => ?_)
    refine sv hF (v_move rfl) rfl ?_; clear hF a; intro a hF
    refine sv hF (v_assign rfl) rfl ?_; clear hF a; intro a hF
    refine WL_nil (hK _ _ ?_)
    clear hK K
    replace hF := hF.sub _ (c_ 4 rfl (c_ 5 rfl (c_ 0 rfl (c_ 1 rfl (n_)))))
    refine W_ret ?_
    refine ⟨_, _, hF, rfl, ?_⟩
    exact ⟨rfl, hS⟩
  · clear hF a; intro hc1 a hF
    try simp only [decide_eq_true_eq, decide_eq_false_iff_not, Bool.not_eq_true', Bool.not_eq_false', Bool.not_true, Bool.not_false] at hc1
    refine sv hF (v_move rfl) rfl ?_; clear hF a; intro a hF
    refine svg hF rfl ?_
    refine sv hF (v_move rfl) rfl ?_; clear hF a; intro a hF
    refine svg hF rfl ?_
    refine sv hF (v_lenS rfl sl22 rfl) rfl ?_; clear hF a; intro a hF
    refine svg hF rfl ?_
    refine sv hF (v_gtr rfl rfl) rfl ?_; clear hF a; intro a hF
    refine sv hF (v_pickF rfl rfl) rfl ?_; clear hF a; intro a hF
    refine WL_nil (hK _ _ ?_)
    clear hK K
    replace hF := hF.sub _ (c_ 24 rfl (c_ 5 rfl (c_ 4 rfl (c_ 0 rfl (c_ 1 rfl (n_))))))
    refine W_if hF rfl (fun hc2 => ?_) (fun hc2 => ?_)
    · skip
      try simp only [decide_eq_true_eq, decide_eq_false_iff_not, Bool.not_eq_true', Bool.not_eq_false', Bool.not_true, Bool.not_false] at hc2
      refine W_sr rfl (fun K hK => ?_)
      refine sv hF (v_move rfl) rfl ?_; clear hF a; intro a hF
      refine sv hF (v_assign rfl) rfl ?_; clear hF a; intro a hF
      refine WL_nil (hK _ _ ?_)
      clear hK K
      replace hF := hF.sub _ (c_ 4 rfl (c_ 5 rfl (c_ 0 rfl (c_ 1 rfl (n_)))))
      refine W_ret ?_
      refine ⟨_, _, hF, rfl, ?_⟩
      exact ⟨rfl, hS⟩
    · skip
      try simp only [decide_eq_true_eq, decide_eq_false_iff_not, Bool.not_eq_true', Bool.not_eq_false', Bool.not_true, Bool.not_false] at hc2
      refine W_skip ?_
      have hv10 : 1 ≤ v.length ∧ v.length ≤ 10 := by omega
      refine W_sr rfl (fun K hK => ?_)
      refine sv hF (v_move rfl) rfl ?_; clear hF a; intro a hF
      refine sc hF rfl rfl rfl en14 rfl (field5_ok B lg _ hS.inv) ?_; clear hF a; intro v w' a hv hF
      obtain ⟨fv, rfl, hf, hS'⟩ := hv
      obtain ⟨⟨wb, p⟩, hq⟩ : ∃ q, fq lg = q := ⟨_, rfl⟩
      have hq1 : (fq lg).1 = wb := by rw [hq]
      have hq2 : (fq lg).2 = p := by rw [hq]
      rw [hq] at hf
      rw [hq1, hq2] at hF
      clear hq1 hq2
      have hp : Prm wb p := hf.1
      replace hvr := hvr.st hS'
      replace hS := hS.trans hS'
      clear hS'
      refine sv hF (v_move rfl) rfl ?_; clear hF a; intro a hF
      refine sv hF (v_ext rfl rfl) rfl ?_; clear hF a; intro a hF
      refine sv hF (v_ext rfl rfl) rfl ?_; clear hF a; intro a hF
      refine sv hF (v_ext rfl rfl) rfl ?_; clear hF a; intro a hF
      refine sv hF (v_assign rfl) rfl ?_; clear hF a; intro a hF
      refine sv hF (v_assign rfl) rfl ?_; clear hF a; intro a hF
      refine sv hF (v_assign rfl) rfl ?_; clear hF a; intro a hF
      refine WL_nil (hK _ _ ?_)
      clear hK K
      replace hF := hF.sub _ (c_ 6 rfl (c_ 5 rfl (c_ 4 rfl (c_ 1 rfl (n_)))))
      refine W_sr rfl (fun K hK => ?_)
      refine sv hF (v_assign rfl) rfl ?_; clear hF a; intro a hF
      refine WL_nil (hK _ _ ?_)
      clear hK K
      refine W_sr rfl (fun K hK => ?_)
      refine sv hF (v_assign rfl) rfl ?_; clear hF a; intro a hF
      refine WL_nil (hK _ _ ?_)
      clear hK K
      refine W_seq ?_
      refine W_sr rfl (fun K hK => ?_)
      refine sv hF (v_assign rfl) rfl ?_; clear hF a; intro a hF
      refine WL_nil (hK _ _ ?_)
      clear hK K
      refine W_block ?_
      refine W_loop (fun m a w1 => ∃ (i : Nat) (v9 v10 : Value) (b9 b10 : Option Nat) (bs rc : Nat → Nat), Fr 89 [(1, .slice pv v.length cv), (5, .bool true), (6, fv), (9, v9), (10, v10), (11, .int .i64 (i : Int))] a ∧ (St FDx B w w1) ∧ (Row FDx B M w1 (.slice pv v.length cv) (byt v)) ∧ (Fo FDx B w1 fv (some (wb, p))) ∧ (Gam.Own FDx B w.heap.size w1 FDx.E v9 b9 (zints ((v.take i).map fun (x : Nat) => (x : Int)))) ∧ (Gam.Own FDx B w.heap.size w1 28 v10 b10 (vls i v.length bs rc)) ∧ (Wr FDx B w.heap.size w1.heap.size w1 i v.length bs rc (vtab hp v)) ∧ (∀ a, a < i → b9 ≠ some (bs a)) ∧ (i ≤ v.length) ∧ (m + i = v.length)) (v.length) ?_ ?_
      · skip
        exact ⟨0, _, _, none, none, id, id, hF.sub _ (c_ 1 rfl (c_ 5 rfl (c_ 6 rfl (c_ 9 rfl (c_ 10 rfl (c_ 11 rfl (n_))))))), hS, hvr, hf, Gam.Own.nil _ _ _ _ _, Gam.Own.nil _ _ _ _ _, Wr.nil, fun a h => by omega, by omega, by omega⟩
      · skip
        clear hF
        clear hS hvr hf
        rintro m a w1 ⟨i, v9, v10, b9, b10, bs, rc, hF, hS, hvr, hf, hP, hO, hW, hd, hi, hm⟩
        refine W_seq ?_
        obtain ⟨K1, hK1e⟩ : ∃ k, k = w1.heap.size := ⟨_, rfl⟩
        rw [← hK1e] at hW
        have hK1 : K1 ≤ w1.heap.size := by omega
        clear hK1e
        refine W_sr rfl (fun K hK => ?_)
        refine sv hF (v_move rfl) rfl ?_; clear hF a; intro a hF
        refine sv hF (v_move rfl) rfl ?_; clear hF a; intro a hF
        refine sv hF (v_lenS rfl sl22 rfl) rfl ?_; clear hF a; intro a hF
        refine sv hF (v_lss rfl rfl) rfl ?_; clear hF a; intro a hF
        refine WL_nil (hK _ _ ?_)
        clear hK K
        replace hF := hF.sub _ (c_ 35 rfl (c_ 1 rfl (c_ 5 rfl (c_ 6 rfl (c_ 9 rfl (c_ 10 rfl (c_ 11 rfl (n_))))))))
        refine W_if hF rfl (fun hc3 => ?_) (fun hc3 => ?_)
        · skip
          try simp only [decide_eq_true_eq, decide_eq_false_iff_not, Bool.not_eq_true', Bool.not_eq_false', Bool.not_true, Bool.not_false] at hc3
          have hlt : i < v.length := by omega
          obtain ⟨x, hx0⟩ : ∃ x, v[i]? = some x := ⟨_, List.getElem?_eq_getElem hlt⟩
          have hx8 := hv8 x (List.mem_of_getElem? hx0)
          have h16 := hp.size.1
          obtain ⟨-, gv, ov, hgv, -⟩ := hvr.at (byt_at hx0)
          subst hgv
          have hzl : (zints ((v.take i).map fun (x : Nat) => (x : Int))).length = i := by rw [zints_length]; simp; omega
          refine W_skip ?_
          refine W_seq ?_
          refine W_block ?_
          refine W_sr rfl (fun K hK => ?_)
          refine sv hF (v_move rfl) rfl ?_; clear hF a; intro a hF
          refine sv hF (v_move rfl) rfl ?_; clear hF a; intro a hF
          refine sv hF (v_move rfl) rfl ?_; clear hF a; intro a hF
          refine sv hF (v_ixS sl22 rfl rfl (by omega) (by omega)) rfl ?_; clear hF a; intro a hF
          refine sv hF (v_load sc5 rfl (by rw [toNat_c]; exact hvr.ldx (Ext.refl _ _ _) (byt_at hx0))) rfl ?_; clear hF a; intro a hF
          refine sv hF (v_cv Try.underlying5 Try.underlying3 rfl (wrap_i64 _ (by omega))) rfl ?_; clear hF a; intro a hF
          refine s_bs (D := FDx) (B := B) hF sl28 rfl rfl (by decide) (by simp [Value.cells]) (by decide) hS.inv rfl ?_; clear hF a; intro w' a hm hI' hb hF
          replace hvr := hvr.mb hm (fun _ h => by cases h)
          replace hf := hf.mb hm
          replace hP := hP.mb hm (fun _ _ => by simp)
          replace hO := hO.mb hm (fun _ _ => by simp)
          replace hW := hW.mb0 hm
          replace hK1 := Nat.le_trans hK1 hm.size
          replace hS := hS.mb0 hm
          clear hm hI'
          have hbK : ∀ a, a < i → bs a < _ := fun a ha => (hW.ge ha).2
          refine s_app (D := FDx) (B := B) hF rfl sl28 rfl rfl hP (hb.row (by decide)) (by simp [Value.oneCell']) (by rw [hzl]; simp; omega) (by rw [hzl]; simp [maxLen]; omega) (hS.ext.size) (by decide) hS.inv rfl ?_; clear hF a; intro v' b' w' a ho' hm hI' hb' hF
          replace hvr := hvr.mb hm (fun k h => Nat.le_trans (hM) (hP.lt k h).1)
          replace hf := hf.mb hm
          replace hO := hO.mb hm (hO.ne_type hP (by decide))
          replace hW := hW.mbd hm hd
          replace hK1 := Nat.le_trans hK1 hm.size
          replace hS := hS.mb hm (fun k h => Nat.le_trans (Nat.le_refl _) (hP.lt k h).1)
          replace hP := ho'
          clear hm hI' ho' hb
          replace hd : ∀ a, a < i → b' ≠ some (bs a) := fun a ha e => by
            rcases hb' with h | h
            · exact hd a ha (h ▸ e)
            · have h1 := hbK a ha
              rw [h] at e
              injection e with e
              omega
          clear hbK hb'
          replace hP : Gam.Own FDx B w.heap.size _ _ _ _ (zints ((v.take (i + 1)).map fun (x : Nat) => (x : Int))) := hP.cast (by rw [map_snoc hx0]; simp [zints])
          refine sv hF (v_assign rfl) rfl ?_; clear hF a; intro a hF
          refine WL_nil (hK _ _ ?_)
          clear hK K
          replace hF := hF.sub _ (c_ 9 rfl (c_ 1 rfl (c_ 5 rfl (c_ 6 rfl (c_ 10 rfl (c_ 11 rfl (n_)))))))
          obtain ⟨vP, rfl⟩ : ∃ x, x = v' := ⟨_, rfl⟩
          obtain ⟨bP, rfl⟩ : ∃ x, x = b' := ⟨_, rfl⟩
          obtain ⟨KM, hKe⟩ : ∃ k, k = w'.heap.size := ⟨_, rfl⟩
          replace hW := hW.up (K' := KM) (by omega)
          have hKs : KM ≤ w'.heap.size := by omega
          have hNK : w.heap.size ≤ KM := by have := hS.ext.size; omega
          have hPK : ∀ k, bP = some k → k < KM := fun k e => by have := (hP.lt k e).2; omega
          clear hKe hK1
          have hfx : ∀ k, hp.fld.pow x k = vtab hp v i k := fun k => by unfold vtab; rw [List.getD_eq_getElem?_getD, hx0]; rfl
          refine W_sr rfl (fun K hK => ?_)
          refine sv hF (v_assign rfl) rfl ?_; clear hF a; intro a hF
          refine WL_nil (hK _ _ ?_)
          clear hK K
          refine W_seq ?_
          refine W_sr rfl (fun K hK => ?_)
          refine sv hF (v_assign rfl) rfl ?_; clear hF a; intro a hF
          refine WL_nil (hK _ _ ?_)
          clear hK K
          refine W_block ?_
          refine W_loop (fun m2 a w2 => ∃ (k : Nat) (v12 : Value) (b12 : Option Nat), Fr 89 [(1, .slice (some ⟨gv, ov, none⟩) v.length cv), (5, .bool true), (6, fv), (9, vP), (10, v10), (11, .int .i64 (i : Int)), (12, v12), (13, .int .i64 (k : Int))] a ∧ (St FDx B w w2) ∧ (Row FDx B M w2 (.slice (some ⟨gv, ov, none⟩) v.length cv) (byt v)) ∧ (Fo FDx B w2 fv (some (wb, p))) ∧ (Gam.Own FDx B w.heap.size w2 FDx.E vP bP (zints ((v.take (i + 1)).map fun (x : Nat) => (x : Int)))) ∧ (Gam.Own FDx B w.heap.size w2 28 v10 b10 (vls i v.length bs rc)) ∧ (Wr FDx B w.heap.size KM w2 i v.length bs rc (vtab hp v)) ∧ (KM ≤ w2.heap.size) ∧ (Gam.Own FDx B KM w2 FDx.E v12 b12 (zints ((List.range k).map fun j => (((vtab hp v) i j : Nat) : Int)))) ∧ (k ≤ v.length) ∧ (m2 + k = v.length)) (v.length) ?_ ?_
          · skip
            exact ⟨0, _, none, hF.sub _ (c_ 1 rfl (c_ 5 rfl (c_ 6 rfl (c_ 9 rfl (c_ 10 rfl (c_ 11 rfl (c_ 12 rfl (c_ 13 rfl (n_))))))))), hS, hvr, hf, hP, hO, hW, hKs, Gam.Own.nil _ _ _ _ _, by omega, by omega⟩
          · skip
            clear hF
            clear hS hvr hf hP hO hW hKs
            rintro m2 a w2 ⟨k, v12, b12, hF, hS, hvr, hf, hP, hO, hW, hKs, hQ, hk, hm2⟩
            refine W_seq ?_
            refine W_sr rfl (fun K hK => ?_)
            refine sv hF (v_move rfl) rfl ?_; clear hF a; intro a hF
            refine sv hF (v_move rfl) rfl ?_; clear hF a; intro a hF
            refine sv hF (v_lenS rfl sl22 rfl) rfl ?_; clear hF a; intro a hF
            refine sv hF (v_lss rfl rfl) rfl ?_; clear hF a; intro a hF
            refine WL_nil (hK _ _ ?_)
            clear hK K
            replace hF := hF.sub _ (c_ 49 rfl (c_ 1 rfl (c_ 5 rfl (c_ 6 rfl (c_ 9 rfl (c_ 10 rfl (c_ 11 rfl (c_ 12 rfl (c_ 13 rfl (n_))))))))))
            refine W_if hF rfl (fun hc4 => ?_) (fun hc4 => ?_)
            · skip
              try simp only [decide_eq_true_eq, decide_eq_false_iff_not, Bool.not_eq_true', Bool.not_eq_false', Bool.not_true, Bool.not_false] at hc4
              refine W_skip ?_
              refine W_seq ?_
              refine W_block ?_
              refine W_reg rfl (fun K hK => ?_)
              refine sv hF (v_move rfl) rfl ?_; clear hF a; intro a hF
              refine sv hF (v_move rfl) rfl ?_; clear hF a; intro a hF
              refine sv hF (v_move rfl) rfl ?_; clear hF a; intro a hF
              refine sv hF (v_move rfl) rfl ?_; clear hF a; intro a hF
              refine sv hF (v_ixS sl22 rfl rfl (by omega) (by omega)) rfl ?_; clear hF a; intro a hF
              refine sv hF (v_load sc5 rfl (by rw [toNat_c]; exact hvr.ldx (Ext.refl _ _ _) (byt_at hx0))) rfl ?_; clear hF a; intro a hF
              refine sv hF (v_cv Try.underlying5 Try.underlying3 rfl (wrap_i64 _ (by omega))) rfl ?_; clear hF a; intro a hF
              refine sv hF (v_move rfl) rfl ?_; clear hF a; intro a hF
              refine sc hF rfl rfl rfl en15 rfl (Pow_gf B (some (wb, p)) fv (x : Int) (k : Int) _ hS.inv hf (by omega)) ?_; clear hF a; intro v w' a hv hF
              obtain ⟨rfl, hS'⟩ := hv
              replace hvr := hvr.st hS'
              replace hf := hf.st hS'
              replace hP := hP.st (by decide) hS'
              replace hO := hO.st (by decide) hS'
              replace hW := hW.st hS'
              replace hKs := Nat.le_trans hKs hS'.ext.size
              replace hQ := hQ.st (by decide) hS'
              replace hS := hS.trans hS'
              clear hS'
              rw [gpow_fld hp (show x < 2 ^ wb by omega), hfx] at hF
              refine s_bs (D := FDx) (B := B) hF sl28 rfl rfl (by decide) (by simp [Value.cells]) (by decide) hS.inv rfl ?_; clear hF a; intro w' a hm hI' hb hF
              replace hvr := hvr.mb hm (fun _ h => by cases h)
              replace hf := hf.mb hm
              replace hP := hP.mb hm (fun _ _ => by simp)
              replace hO := hO.mb hm (fun _ _ => by simp)
              replace hW := hW.mb0 hm
              replace hKs := Nat.le_trans hKs hm.size
              replace hQ := hQ.mb hm (fun _ _ => by simp)
              replace hS := hS.mb0 hm
              clear hm hI'
              refine s_app (D := FDx) (B := B) hF rfl sl28 rfl rfl hQ (hb.row (by decide)) (by simp [Value.oneCell']) (by simp; omega) (by simp [maxLen]; omega) (hKs) (by decide) hS.inv rfl ?_; clear hF a; intro v' b' w' a ho' hm hI' hb' hF
              replace hvr := hvr.mb hm (fun k h => Nat.le_trans (Nat.le_trans hM hNK) (hQ.lt k h).1)
              replace hf := hf.mb hm
              replace hP := hP.mb hm (fun k e e2 => by have h1 := hPK k e; have h2 := (hQ.lt k e2).1; omega)
              replace hO := hO.mb hm (hO.ne_type hQ (by decide))
              replace hW := hW.mbx hm (fun k e => (hQ.lt k e).1)
              replace hKs := Nat.le_trans hKs hm.size
              replace hS := hS.mb hm (fun k h => Nat.le_trans (hNK) (hQ.lt k h).1)
              replace hQ := ho'
              clear hm hI' ho' hb
              refine sv hF (v_assign rfl) rfl ?_; clear hF a; intro a hF
              refine WL_nil (hK _ _ ?_)
              clear hK K
              replace hF := hF.sub _ (c_ 12 rfl (c_ 1 rfl (c_ 5 rfl (c_ 6 rfl (c_ 9 rfl (c_ 10 rfl (c_ 11 rfl (c_ 13 rfl (n_)))))))))
              refine W_reg rfl (fun K hK => ?_)
              refine sv hF (v_move rfl) rfl ?_; clear hF a; intro a hF
              refine sv hF (v_addI rfl rfl (by omega)) rfl ?_; clear hF a; intro a hF
              refine sv hF (v_assign rfl) rfl ?_; clear hF a; intro a hF
              refine WL_nil (hK _ _ ?_)
              clear hK K
              exact ⟨m2 - 1, by omega, k + 1, _, _, hF.sub _ (c_ 1 rfl (c_ 5 rfl (c_ 6 rfl (c_ 9 rfl (c_ 10 rfl (c_ 11 rfl (c_ 12 rfl (c_ 13 rfl (n_))))))))), hS, hvr, hf, hP, hO, hW, hKs, hQ.cast (by rw [List.range_succ, List.map_append]; simp [zints]), by omega, by omega⟩
            · skip
              try simp only [decide_eq_true_eq, decide_eq_false_iff_not, Bool.not_eq_true', Bool.not_eq_false', Bool.not_true, Bool.not_false] at hc4
              obtain rfl : k = v.length := by omega
              obtain ⟨gx, cx, rfl, rfl⟩ := hQ.ptr (by simp; omega)
              have hQl : (zints ((List.range v.length).map fun j => (((vtab hp v) i j : Nat) : Int))).length = v.length := by simp
              rw [hQl] at hQ hF
              replace hd : ∀ a, a < i + 1 → bP ≠ some (if a = i then gx else bs a) := fun a ha e => by
                by_cases h : a = i
                · rw [if_pos h] at e; have h1 := hPK _ e; have h2 := (hQ.lt _ rfl).1; omega
                · rw [if_neg h] at e; exact hd a (by omega) e
              refine W_exit rfl ?_
              refine W_reg rfl (fun K hK => ?_)
              refine sv hF (v_move rfl) rfl ?_; clear hF a; intro a hF
              refine sv hF (v_move rfl) rfl ?_; clear hF a; intro a hF
              refine s_bs (D := FDx) (B := B) hF sl30 rfl rfl (by decide) (by simp [Value.cells]) (by decide) hS.inv rfl ?_; clear hF a; intro w' a hm hI' hL hF
              replace hvr := hvr.mb hm (fun _ h => by cases h)
              replace hf := hf.mb hm
              replace hP := hP.mb hm (fun _ _ => by simp)
              replace hO := hO.mb hm (fun _ _ => by simp)
              replace hW := hW.mb0 hm
              replace hKs := Nat.le_trans hKs hm.size
              replace hQ := hQ.mb hm (fun _ _ => by simp)
              replace hS := hS.mb0 hm
              clear hm hI'
              refine s_app (D := FDx) (B := B) hF rfl sl30 rfl rfl hO (hL.row (by decide)) (by simp [Value.oneCell']) (by simp; omega) (by simp [maxLen]; omega) (hS.ext.size) (by decide) hS.inv rfl ?_; clear hF a; intro v' b' w' a ho' hm hI' hb' hF
              replace hvr := hvr.mb hm (fun k h => Nat.le_trans (hM) (hO.lt k h).1)
              replace hf := hf.mb hm
              replace hP := hP.mb hm (hP.ne_type hO (by decide))
              replace hW := hW.mbo hm hO (by decide)
              replace hKs := Nat.le_trans hKs hm.size
              replace hQ := hQ.mb hm (hQ.ne_type hO (by decide))
              replace hS := hS.mb hm (fun k h => Nat.le_trans (Nat.le_refl _) (hO.lt k h).1)
              replace hO := ho'
              clear hm hI' ho'
              refine sv hF (v_assign rfl) rfl ?_; clear hF a; intro a hF
              refine WL_nil (hK _ _ ?_)
              clear hK K
              replace hF := hF.sub _ (c_ 10 rfl (c_ 66 rfl (c_ 65 rfl (c_ 64 rfl (c_ 63 rfl (c_ 1 rfl (c_ 5 rfl (c_ 6 rfl (c_ 9 rfl (c_ 11 rfl (c_ 12 rfl (c_ 13 rfl (n_)))))))))))))
              refine W_reg rfl (fun K hK => ?_)
              refine sv hF (v_move rfl) rfl ?_; clear hF a; intro a hF
              refine sv hF (v_addI rfl rfl (by omega)) rfl ?_; clear hF a; intro a hF
              refine sv hF (v_assign rfl) rfl ?_; clear hF a; intro a hF
              refine WL_nil (hK _ _ ?_)
              clear hK K
              exact ⟨m - 1, by omega, i + 1, _, _, _, _, _, _, hF.sub _ (c_ 1 rfl (c_ 5 rfl (c_ 6 rfl (c_ 9 rfl (c_ 10 rfl (c_ 11 rfl (n_))))))), hS, hvr, hf, hP, hO.cast vls_snoc.symm, hW.snoc (hQ.le hNK) ((hQ.lt _ rfl).1), hd, by omega, by omega⟩
        · skip
          try simp only [decide_eq_true_eq, decide_eq_false_iff_not, Bool.not_eq_true', Bool.not_eq_false', Bool.not_true, Bool.not_false] at hc3
          obtain rfl : i = v.length := by omega
          rw [List.take_length] at hP
          obtain ⟨ga, cap, rfl, rfl⟩ := hO.ptr (by simp; omega)
          have hvl3 : (vls v.length v.length bs rc).length = (vrows hp v).length := by rw [vls_length]; exact (tab_length _ _ _).symm
          have hvl4 : (vrows hp v).length = v.length := tab_length _ _ _
          have hMt : Mat FDx B _ _ (some ⟨ga, 0, none⟩) cap (vrows hp v) := hW.mat (gb := ga) (by rw [vls_length] at hO; exact hO) (by decide)
          have hvl5 : (vrows hp v).length ≤ 20 ∧ ∀ r ∈ vrows hp v, r.length ≤ 20 := ⟨by omega, fun r hr => by obtain ⟨j, _, rfl⟩ := List.mem_map.1 hr; simp; omega⟩
          rw [hvl3] at hF
          obtain ⟨s9, c9, rfl⟩ := hP.shape
          have hPr := hP.row (by decide)
          rw [zints_length] at hPr hF
          clear hO hW hP hvr
          obtain ⟨hvi1, hvi2⟩ := vrows_inv hp hv10.1 (by omega) hv8
          refine W_exit rfl ?_
          refine W_sr rfl (fun K hK => ?_)
          refine sv hF (v_move rfl) rfl ?_; clear hF a; intro a hF
          refine sv hF (v_move rfl) rfl ?_; clear hF a; intro a hF
          refine sc hF rfl rfl rfl en16 rfl (Inverse_ok B _ wb p hp fv _ _ (vrows hp v) _ hS.inv (Nat.le_refl _) hf hMt (len20 hvl5).1 (len20 hvl5).2) ?_; clear hF a; intro v w' a hv hF
          obtain ⟨obX, uX, rfl, hoX, hS'⟩ := hv
          obtain ⟨sX, cX, rfl, hX⟩ := hoX.mat (by decide) (Nat.zero_le _)
          clear hoX
          replace hPr := (hPr.st hS').mono hS'.ext.size
          replace hf := hf.st hS'
          replace hS := hS.trans hS'
          clear hS'
          refine sv hF (v_move rfl) rfl ?_; clear hF a; intro a hF
          refine sv hF (v_ext rfl rfl) rfl ?_; clear hF a; intro a hF
          refine sv hF (v_ext rfl rfl) rfl ?_; clear hF a; intro a hF
          refine sv hF (v_assign rfl) rfl ?_; clear hF a; intro a hF
          refine sv hF (v_assign rfl) rfl ?_; clear hF a; intro a hF
          refine WL_nil (hK _ _ ?_)
          clear hK K
          replace hF := hF.sub _ (c_ 15 rfl (c_ 72 rfl (c_ 71 rfl (c_ 67 rfl (c_ 70 rfl (c_ 69 rfl (c_ 68 rfl (c_ 1 rfl (c_ 5 rfl (c_ 6 rfl (c_ 9 rfl (c_ 10 rfl (c_ 11 rfl (n_))))))))))))))
          refine W_sr rfl (fun K hK => ?_)
          refine sv hF (v_move rfl) rfl ?_; clear hF a; intro a hF
          refine sv hF (v_move rfl) rfl ?_; clear hF a; intro a hF
          refine svg hF rfl ?_
          refine sv hF (v_move rfl) rfl ?_; clear hF a; intro a hF
          refine svg hF rfl ?_
          refine sv hF (v_eql rfl rfl) rfl ?_; clear hF a; intro a hF
          refine svg hF rfl ?_
          refine sv hF (v_move rfl) rfl ?_; clear hF a; intro a hF
          refine svg hF rfl ?_
          refine sc hF rfl rfl rfl en17 rfl (Unlike_ok B _ _ _ (v.map fun (x : Nat) => (x : Int)) 256 _ hS.inv hPr (by simp; omega)) ?_; clear hF a; intro v w' a hv hF
          obtain ⟨rfl, hS'⟩ := hv
          replace hPr := (hPr.st hS').mono hS'.ext.size
          replace hf := hf.st hS'
          replace hX := (hX.st hS').mono hS'.ext.size
          replace hS := hS.trans hS'
          clear hS'
          refine svg hF rfl ?_
          refine sv hF ((v_eqlB Try.underlying4 rfl rfl).as (congrArg Value.bool (decide_eq_true (by rw [Bool.eq_iff_iff, decide_eq_true_iff]; exact hvi1)))) rfl ?_; clear hF a; intro a hF
          refine sv hF (v_pickT rfl rfl) rfl ?_; clear hF a; intro a hF
          refine sv hF (v_move rfl) rfl ?_; clear hF a; intro a hF
          refine svg hF rfl ?_
          refine sv hF (v_move rfl) rfl ?_; clear hF a; intro a hF
          refine svg hF rfl ?_
          refine sb hF (v_eql rfl rfl) rfl ?_ ?_
          · clear hF a; intro hc5 a hF
            try simp only [decide_eq_true_eq, decide_eq_false_iff_not, Bool.not_eq_true', Bool.not_eq_false', Bool.not_true, Bool.not_false] at hc5
            refine svg hF rfl ?_
            refine sv hF (v_move rfl) rfl ?_; clear hF a; intro a hF
            refine svn hF rfl rfl rfl ?_; clear hF a; intro a hF
            refine svn hF rfl rfl rfl ?_; clear hF a; intro a hF
            refine svg hF rfl ?_
            refine sv hF (v_pickT rfl rfl) rfl ?_; clear hF a; intro a hF
            refine sv hF (v_pickT rfl rfl) rfl ?_; clear hF a; intro a hF
            refine sv hF (v_assign rfl) rfl ?_; clear hF a; intro a hF
            refine WL_nil (hK _ _ ?_)
            clear hK K
            refine W_ret ?_
            refine ⟨_, _, hF, rfl, ?_⟩
            exact ⟨rfl, hS⟩
          · clear hF a; intro hc5 a hF
            try simp only [decide_eq_true_eq, decide_eq_false_iff_not, Bool.not_eq_true', Bool.not_eq_false', Bool.not_true, Bool.not_false] at hc5
            refine svg hF rfl ?_
            refine sv hF (v_move rfl) rfl ?_; clear hF a; intro a hF
            refine svg hF rfl ?_
            refine sv hF (v_move rfl) rfl ?_; clear hF a; intro a hF
            refine svg hF rfl ?_
            refine sv hF ((v_eql rfl rfl).as (congrArg Value.bool (decide_eq_true (hvi2.resolve_left (by assumption))))) rfl ?_; clear hF a; intro a hF
            refine svg hF rfl ?_
            refine sv hF (v_pickF rfl rfl) rfl ?_; clear hF a; intro a hF
            refine sv hF (v_pickT rfl rfl) rfl ?_; clear hF a; intro a hF
            refine sv hF (v_assign rfl) rfl ?_; clear hF a; intro a hF
            refine WL_nil (hK _ _ ?_)
            clear hK K
            refine W_ret ?_
            refine ⟨_, _, hF, rfl, ?_⟩
            exact ⟨rfl, hS⟩

end Go.Proofs.Ytcnlooajjnghaaa
