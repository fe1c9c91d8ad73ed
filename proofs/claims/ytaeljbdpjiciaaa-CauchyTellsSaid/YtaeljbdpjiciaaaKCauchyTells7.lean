/- Texts of the claim CauchyTells (part 7), put together in the order of their imports. -/
import Derived.Test.YtaeljbdpjiciaaaKCauchyTells6
/- The walk of package cauchy: rows of inverses. -/
set_option linter.unusedVariables false
set_option linter.unusedSimpArgs false
namespace Go.Proofs.Ytaeljbdpjiciaaa
open Go Go.Gam


namespace FxFCau2
theorem en24 : Ent Try.prog 24 := ent Try.func24 (by kernel_rfl) (by kernel_rfl)
theorem en46 : Ent Try.prog 46 := ent Try.func46 (by kernel_rfl) (by kernel_rfl)
theorem en51 : Ent Try.prog 51 := ent Try.func51 (by kernel_rfl) (by kernel_rfl)
theorem en52 : Ent Try.prog 52 := ent Try.func52 (by kernel_rfl) (by kernel_rfl)
theorem en53 : Ent Try.prog 53 := ent Try.func53 (by kernel_rfl) (by kernel_rfl)
theorem en69 : Ent Try.prog 69 := ent Try.func69 (by kernel_rfl) (by kernel_rfl)
theorem mt75 : MapT Try.prog 75 := mapT_of Try.underlying75 Try.underlying3 (by kernel_rfl)
theorem sc3 : Scalar Try.prog 3 := ⟨_, Try.underlying3, by simp, by simp⟩
theorem sl27 : Sl Try.prog 27 37 (.slice none 0 0) 24 := sl_of Try.underlying27 rfl (by kernel_rfl)
theorem sl28 : Sl Try.prog 28 37 (.slice none 0 0) 24 := sl_of Try.underlying28 rfl (by kernel_rfl)
theorem sl37 : Sl Try.prog 37 3 (.int .i64 0) 8 := sl_of Try.underlying37 rfl (by kernel_rfl)
end FxFCau2
open FxFCau2

set_option maxRecDepth 100000 in
set_option maxHeartbeats 1000000 in
theorem Of_ok (B M wb p : Nat) (hp : Prm wb p) (fv : Value) (px py : Option Addr) (cx cy : Nat) (x y : List Int) (w : World) (hI : Inv FDx B w) (hM : M ≤ w.heap.size) (hf : Fo FDx B w fv (some (wb, p))) (hx : Row FDx B M w (.slice px x.length cx) (zints x)) (hy : Row FDx B M w (.slice py y.length cy) (zints y)) (hl : x.length ≤ maxLen ∧ y.length ≤ maxLen) : Ret Try.prog 24 [fv, .slice px x.length cx, .slice py y.length cy] w fun v w' => ∃ ob u, v = .tuple #[u, .int .i64 (errV (ofM hp x y))] ∧ MOwn FDx B w.heap.size 0 w'.heap.size w' 37 u ob ((ofM hp x y).getD []) ∧ St FDx B w w' := by
 refine enter2 86 [(0, fv), (1, .slice px x.length cx), (2, .slice py y.length cy)] 6 7 Try.func24 rfl rfl rfl rfl rfl ?_; intro a hF
 have hS := St.refl hI
 have hl2 := hl
 simp only [maxLen] at hl2
 have h16 : 2 ^ wb ≤ 65536 := by rcases hp.w with h | h <;> rw [h] <;> decide
 refine W_sr rfl (fun K hK => ?_)
 refine sv2 hF (v_assign rfl) (v_assign rfl) rfl rfl ?_; clear hF a; intro a hF
 refine WL_nil (hK _ _ ?_)
 clear hK K
 refine W_seq ?_
 refine W_sr rfl (fun K hK => ?_)
 refine sv hF (v_move rfl) rfl ?_; clear hF a; intro a hF
 refine sv hF (v_lenS rfl sl37 rfl) rfl ?_; clear hF a; intro a hF
 refine sc hF rfl rfl rfl en51 rfl (cwithin_ok _ _) ?_; clear hF a; intro v w' a hv hF
 obtain ⟨rfl, hw⟩ := hv
 obtain rfl := hw.symm
 have hS' := St.refl hS.inv
 replace hf := hf.st hS'
 replace hx := hx.st hS'
 replace hy := hy.st hS'
 replace hS := hS.trans hS'
 clear hS'
 refine sb hF (v_not rfl) rfl ?_ ?_
 ·
  clear hF a; intro hc1 a hF
  try simp only [dcl] at hc1
  refine sv hF (v_move rfl) rfl ?_; clear hF a; intro a hF
  refine svn hF rfl rfl rfl ?_; clear hF a; intro a hF
  refine svn hF rfl rfl rfl ?_; clear hF a; intro a hF
  refine svn hF rfl rfl rfl ?_; clear hF a; intro a hF
  refine svn hF rfl rfl rfl ?_; clear hF a; intro a hF
  refine sv hF (v_pickT rfl rfl) rfl ?_; clear hF a; intro a hF
  refine WL_nil (hK _ _ ?_)
  clear hK K
  replace hF := hF.sub _ (c_ 28 rfl (c_ 7 rfl (c_ 6 rfl (c_ 0 rfl (c_ 1 rfl (c_ 2 rfl (n_)))))))
  refine W_ifT hF rfl ?_
  refine W_sr rfl (fun K hK => ?_)
  refine sv2 hF (v_assign rfl) (v_assign rfl) rfl rfl ?_; clear hF a; intro a hF
  refine WL_nil (hK _ _ ?_)
  clear hK K
  replace hF := hF.sub _ (c_ 7 rfl (c_ 6 rfl (c_ 0 rfl (c_ 1 rfl (c_ 2 rfl (n_))))))
  refine W_ret ?_
  refine ⟨_, _, _, hF, rfl, rfl, ?_⟩
  rw [ofM_no hp (ofB_len (by omega))]
  exact ⟨none, _, rfl, MOwn.nil _ _ _ _ _ _ _ (Nat.zero_le _), hS⟩
 ·
  clear hF a; intro hc1 a hF
  try simp only [dcl] at hc1
  refine sv hF (v_move rfl) rfl ?_; clear hF a; intro a hF
  refine svg hF rfl ?_
  refine sv hF (v_move rfl) rfl ?_; clear hF a; intro a hF
  refine svg hF rfl ?_
  refine sv hF (v_lenS rfl sl37 rfl) rfl ?_; clear hF a; intro a hF
  refine svg hF rfl ?_
  refine sc hF rfl rfl rfl en51 rfl (cwithin_ok _ _) ?_; clear hF a; intro v w' a hv hF
  obtain ⟨rfl, hw⟩ := hv
  obtain rfl := hw.symm
  have hS' := St.refl hS.inv
  replace hf := hf.st hS'
  replace hx := hx.st hS'
  replace hy := hy.st hS'
  replace hS := hS.trans hS'
  clear hS'
  refine svg hF rfl ?_
  refine sv hF (v_not rfl) rfl ?_; clear hF a; intro a hF
  refine sv hF (v_pickF rfl rfl) rfl ?_; clear hF a; intro a hF
  refine WL_nil (hK _ _ ?_)
  clear hK K
  replace hF := hF.sub _ (c_ 28 rfl (c_ 7 rfl (c_ 6 rfl (c_ 0 rfl (c_ 1 rfl (c_ 2 rfl (n_)))))))
  refine W_if hF rfl (fun hc2 => ?_) (fun hc2 => ?_)
  ·
   skip
   try simp only [dcl] at hc2
   refine W_sr rfl (fun K hK => ?_)
   refine sv2 hF (v_assign rfl) (v_assign rfl) rfl rfl ?_; clear hF a; intro a hF
   refine WL_nil (hK _ _ ?_)
   clear hK K
   replace hF := hF.sub _ (c_ 7 rfl (c_ 6 rfl (c_ 0 rfl (c_ 1 rfl (c_ 2 rfl (n_))))))
   refine W_ret ?_
   refine ⟨_, _, _, hF, rfl, rfl, ?_⟩
   rw [ofM_no hp (ofB_len (by omega))]
   exact ⟨none, _, rfl, MOwn.nil _ _ _ _ _ _ _ (Nat.zero_le _), hS⟩
  ·
   skip
   try simp only [dcl] at hc2
   refine W_skip ?_
   have hln : 1 ≤ x.length ∧ x.length ≤ 20 ∧ 1 ≤ y.length ∧ y.length ≤ 20 := by omega
   refine W_sr rfl (fun K hK => ?_)
   have hs0 := hS.ext.size
   refine s_mkmap (D := FDx) (B := B) hF hS.inv rfl ?_; clear hF a; intro gl w' a hm hI' hmp hF
   replace hf := hf.mb hm
   replace hx := hx.mb hm (fun _ h => by cases h)
   replace hy := hy.mb hm (fun _ h => by cases h)
   replace hS := hS.mb0 hm
   clear hm hI'
   replace hmp := hmp.le hs0
   clear hs0
   refine sv hF (v_assign rfl) rfl ?_; clear hF a; intro a hF
   refine WL_nil (hK _ _ ?_)
   clear hK K
   replace hF := hF.sub _ (c_ 8 rfl (c_ 7 rfl (c_ 6 rfl (c_ 0 rfl (c_ 1 rfl (c_ 2 rfl (n_)))))))
   refine W_seq ?_
   refine W_sr rfl (fun K hK => ?_)
   refine sv2 hF (v_move rfl) (v_move rfl) rfl rfl ?_; clear hF a; intro a hF
   refine s_bs (D := FDx) (B := B) hF sl27 rfl rfl (by decide) (by simp [Value.cells]) (by decide) hS.inv rfl ?_; clear hF a; intro w' a hm hI' hL hF
   replace hf := hf.mb hm
   replace hx := hx.mb hm (fun _ h => by cases h)
   replace hy := hy.mb hm (fun _ h => by cases h)
   replace hmp := hmp.mb hm (by simp)
   replace hS := hS.mb0 hm
   clear hm hI'
   refine sc hF rfl rfl rfl en52 rfl (Concat_ok B _ _ _ [x, y] _ hS.inv (Mat.two hL (by decide) (hx.mono (Nat.le_trans hM hS.ext.size)) (hy.mono (Nat.le_trans hM hS.ext.size))) (Nat.le_refl _) (by simp) (by intro r hr; simp at hr; rcases hr with rfl | rfl <;> omega)) ?_; clear hF a; intro v w' a hv hF
   obtain ⟨ob, hC, hS'⟩ := hv
   replace hC := (hC.le hS.ext.size).cast (congrArg zints (show ([x, y] : Mtx).flatten = x ++ y by simp))
   obtain ⟨gL, cL, rfl, rfl⟩ := hC.ptr (by simp; omega)
   rw [zints_length, List.length_append] at hC hF
   clear hL
   replace hf := hf.st hS'
   replace hx := hx.st hS'
   replace hy := hy.st hS'
   replace hmp := hmp.st hS'
   replace hS := hS.trans hS'
   clear hS'
   refine sv hF (v_lenS rfl sl37 rfl) rfl ?_; clear hF a; intro a hF
   refine sv hF (v_move rfl) rfl ?_; clear hF a; intro a hF
   refine WL_nil (hK _ _ ?_)
   clear hK K
   replace hF := hF.sub _ (c_ 35 rfl (c_ 34 rfl (c_ 33 rfl (c_ 8 rfl (c_ 7 rfl (c_ 6 rfl (c_ 0 rfl (c_ 1 rfl (c_ 2 rfl (n_))))))))))
   refine W_block ?_
   refine W_loop (fun q a w1 => ∃ (i : Nat), Fr 86 [(0, fv), (1, .slice px x.length cx), (2, .slice py y.length cy), (8, .map (some gl)), (33, .slice (some ⟨gL, 0, none⟩) (x.length + y.length) cL), (34, .int .i64 ((x.length + y.length : Nat) : Int)), (35, .int .i64 (i : Int))] a ∧ (St FDx B w w1) ∧ (Fo FDx B w1 fv (some (wb, p))) ∧ (Row FDx B M w1 (.slice px x.length cx) (zints x)) ∧ (Row FDx B M w1 (.slice py y.length cy) (zints y)) ∧ (Gam.Own FDx B w.heap.size w1 FDx.E (.slice (some ⟨gL, 0, none⟩) (x.length + y.length) cL) (some gL) (zints (x ++ y))) ∧ (MapB FDx B w.heap.size w1 gl ((x ++ y).take i)) ∧ (((x ++ y).take i).Nodup) ∧ (∀ z ∈ (x ++ y).take i, 0 ≤ z ∧ z < ((2 ^ wb : Nat) : Int)) ∧ (i ≤ x.length + y.length) ∧ (q + i = x.length + y.length)) (x.length + y.length) ?_ ?_
   ·
    skip
    exact ⟨0, hF.sub _ (c_ 0 rfl (c_ 1 rfl (c_ 2 rfl (c_ 8 rfl (c_ 33 rfl (c_ 34 rfl (c_ 35 rfl (n_)))))))), hS, hf, hx, hy, hC, hmp, List.nodup_nil, (fun z hz => by simp at hz), by omega, by omega⟩
   ·
    skip
    clear hF
    clear hS hf hx hy hC hmp
    rintro q a w1 ⟨i, hF, hS, hf, hx, hy, hC, hmp, hnd, hbd, hi, hq⟩
    refine W_sr rfl (fun K hK => ?_)
    refine sv hF (v_lss rfl rfl) rfl ?_; clear hF a; intro a hF
    refine WL_nil (hK _ _ ?_)
    clear hK K
    refine W_seq ?_
    refine W_if hF rfl (fun hc3 => ?_) (fun hc3 => ?_)
    ·
     skip
     try simp only [dcl] at hc3
     have hlt : i < (x ++ y).length := by rw [List.length_append]; omega
     obtain ⟨a_, ha⟩ : ∃ z, (x ++ y)[i]? = some z := ⟨_, List.getElem?_eq_getElem hlt⟩
     refine W_skip ?_
     refine W_seq ?_
     refine W_block ?_
     refine W_sr rfl (fun K hK => ?_)
     refine sv hF (v_ixS sl37 rfl rfl (by omega) (by omega)) rfl ?_; clear hF a; intro a hF
     refine sv hF (v_load sc3 rfl (by rw [toNat_c]; exact (hC.kc (by decide) (zints_at ha)).c)) rfl ?_; clear hF a; intro a hF
     refine sv hF (v_assign rfl) rfl ?_; clear hF a; intro a hF
     refine WL_nil (hK _ _ ?_)
     clear hK K
     replace hF := hF.sub _ (c_ 10 rfl (c_ 0 rfl (c_ 1 rfl (c_ 2 rfl (c_ 8 rfl (c_ 33 rfl (c_ 34 rfl (c_ 35 rfl (n_)))))))))
     refine W_seq ?_
     refine W_sr rfl (fun K hK => ?_)
     refine sv hF (v_move rfl) rfl ?_; clear hF a; intro a hF
     refine sb hF (v_lss rfl rfl) rfl ?_ ?_
     ·
      clear hF a; intro hc4 a hF
      try simp only [dcl] at hc4
      refine sv hF (v_move rfl) rfl ?_; clear hF a; intro a hF
      refine svn hF rfl rfl rfl ?_; clear hF a; intro a hF
      refine svn hF rfl rfl rfl ?_; clear hF a; intro a hF
      refine svn hF rfl rfl rfl ?_; clear hF a; intro a hF
      refine svn hF rfl rfl rfl ?_; clear hF a; intro a hF
      refine sv2 hF (v_pickT rfl rfl) (v_move rfl) rfl rfl ?_; clear hF a; intro a hF
      refine svn hF rfl rfl rfl ?_; clear hF a; intro a hF
      refine svn hF rfl rfl rfl ?_; clear hF a; intro a hF
      refine svn hF rfl rfl rfl ?_; clear hF a; intro a hF
      refine sv hF (v_pickT rfl rfl) rfl ?_; clear hF a; intro a hF
      refine WL_nil (hK _ _ ?_)
      clear hK K
      replace hF := hF.sub _ (c_ 51 rfl (c_ 10 rfl (c_ 0 rfl (c_ 1 rfl (c_ 2 rfl (c_ 8 rfl (c_ 33 rfl (c_ 34 rfl (c_ 35 rfl (n_))))))))))
      refine W_ifT hF rfl ?_
      refine W_sr rfl (fun K hK => ?_)
      refine sv2 hF (v_assign rfl) (v_assign rfl) rfl rfl ?_; clear hF a; intro a hF
      refine WL_nil (hK _ _ ?_)
      clear hK K
      replace hF := hF.sub _ (c_ 7 rfl (c_ 6 rfl (c_ 10 rfl (c_ 0 rfl (c_ 1 rfl (c_ 2 rfl (c_ 8 rfl (c_ 33 rfl (c_ 34 rfl (c_ 35 rfl (n_)))))))))))
      refine W_ret ?_
      refine ⟨_, _, _, hF, rfl, rfl, ?_⟩
      rw [ofM_no hp (ofB_bad ha (by first | (left; omega) | (right; left; omega) | (right; right; assumption)))]
      exact ⟨none, _, rfl, MOwn.nil _ _ _ _ _ _ _ (Nat.zero_le _), hS⟩
     ·
      clear hF a; intro hc4 a hF
      try simp only [dcl] at hc4
      refine sv hF (v_move rfl) rfl ?_; clear hF a; intro a hF
      refine svg hF rfl ?_
      refine sv hF (v_move rfl) rfl ?_; clear hF a; intro a hF
      refine svg hF rfl ?_
      refine sv hF (v_move rfl) rfl ?_; clear hF a; intro a hF
      refine svg hF rfl ?_
      refine sc hF rfl rfl rfl en53 rfl (Size_ok B (some (wb, p)) fv _ hf) ?_; clear hF a; intro v w' a hv hF
      obtain ⟨rfl, hw⟩ := hv
      obtain rfl := hw.symm
      have hS' := St.refl hS.inv
      replace hf := hf.st hS'
      replace hx := hx.st hS'
      replace hy := hy.st hS'
      replace hC := hC.st (by decide) hS'
      replace hmp := hmp.st hS'
      replace hS := hS.trans hS'
      clear hS'
      rw [show ((fsz (some (wb, p)) : Nat) : Int) = ((2 ^ wb : Nat) : Int) from rfl] at hF
      refine svg hF rfl ?_
      refine sb hF (v_geq rfl rfl) rfl ?_ ?_
      ·
       clear hF a; intro hc5 a hF
       try simp only [dcl] at hc5
       refine sv2 hF (v_pickF rfl rfl) (v_move rfl) rfl rfl ?_; clear hF a; intro a hF
       refine svn hF rfl rfl rfl ?_; clear hF a; intro a hF
       refine svn hF rfl rfl rfl ?_; clear hF a; intro a hF
       refine svn hF rfl rfl rfl ?_; clear hF a; intro a hF
       refine sv hF (v_pickT rfl rfl) rfl ?_; clear hF a; intro a hF
       refine WL_nil (hK _ _ ?_)
       clear hK K
       replace hF := hF.sub _ (c_ 51 rfl (c_ 10 rfl (c_ 0 rfl (c_ 1 rfl (c_ 2 rfl (c_ 8 rfl (c_ 33 rfl (c_ 34 rfl (c_ 35 rfl (n_))))))))))
       refine W_ifT hF rfl ?_
       refine W_sr rfl (fun K hK => ?_)
       refine sv2 hF (v_assign rfl) (v_assign rfl) rfl rfl ?_; clear hF a; intro a hF
       refine WL_nil (hK _ _ ?_)
       clear hK K
       replace hF := hF.sub _ (c_ 7 rfl (c_ 6 rfl (c_ 10 rfl (c_ 0 rfl (c_ 1 rfl (c_ 2 rfl (c_ 8 rfl (c_ 33 rfl (c_ 34 rfl (c_ 35 rfl (n_)))))))))))
       refine W_ret ?_
       refine ⟨_, _, _, hF, rfl, rfl, ?_⟩
       rw [ofM_no hp (ofB_bad ha (by first | (left; omega) | (right; left; omega) | (right; right; assumption)))]
       exact ⟨none, _, rfl, MOwn.nil _ _ _ _ _ _ _ (Nat.zero_le _), hS⟩
      ·
       clear hF a; intro hc5 a hF
       try simp only [dcl] at hc5
       refine sv2 hF (v_pickF rfl rfl) (v_move rfl) rfl rfl ?_; clear hF a; intro a hF
       refine svg hF rfl ?_
       refine sv hF (v_move rfl) rfl ?_; clear hF a; intro a hF
       refine svg hF rfl ?_
       refine sv hF (v_move rfl) rfl ?_; clear hF a; intro a hF
       refine svg hF rfl ?_
       refine sv hF (v_look mt75 rfl rfl hmp) rfl ?_; clear hF a; intro a hF
       refine sv hF (v_pickF rfl rfl) rfl ?_; clear hF a; intro a hF
       refine WL_nil (hK _ _ ?_)
       clear hK K
       replace hF := hF.sub _ (c_ 51 rfl (c_ 10 rfl (c_ 0 rfl (c_ 1 rfl (c_ 2 rfl (c_ 8 rfl (c_ 33 rfl (c_ 34 rfl (c_ 35 rfl (n_))))))))))
       refine W_if hF rfl (fun hc6 => ?_) (fun hc6 => ?_)
       ·
        skip
        try simp only [dcl] at hc6
        refine W_sr rfl (fun K hK => ?_)
        refine sv2 hF (v_assign rfl) (v_assign rfl) rfl rfl ?_; clear hF a; intro a hF
        refine WL_nil (hK _ _ ?_)
        clear hK K
        replace hF := hF.sub _ (c_ 7 rfl (c_ 6 rfl (c_ 10 rfl (c_ 0 rfl (c_ 1 rfl (c_ 2 rfl (c_ 8 rfl (c_ 33 rfl (c_ 34 rfl (c_ 35 rfl (n_)))))))))))
        refine W_ret ?_
        refine ⟨_, _, _, hF, rfl, rfl, ?_⟩
        rw [ofM_no hp (ofB_bad ha (by first | (left; omega) | (right; left; omega) | (right; right; assumption)))]
        exact ⟨none, _, rfl, MOwn.nil _ _ _ _ _ _ _ (Nat.zero_le _), hS⟩
       ·
        skip
        try simp only [dcl] at hc6
        have hnin : a_ ∉ (x ++ y).take i := by assumption
        refine W_skip ?_
        refine W_reg rfl (fun K hK => ?_)
        refine sv2 hF (v_move rfl) (v_move rfl) rfl rfl ?_; clear hF a; intro a hF
        refine s_mapput (D := FDx) (B := B) hF mt75 rfl rfl rfl hmp (hnin) hS.inv ?_; intro w' hm hI' hmp'
        replace hf := hf.mb hm
        replace hx := hx.mb hm (fun k h => by cases h; exact Nat.le_trans (hM) hmp.low)
        replace hy := hy.mb hm (fun k h => by cases h; exact Nat.le_trans (hM) hmp.low)
        replace hC := hC.mb hm ((fun k e e2 => hmp.ne_own hC (by decide) (e.trans e2.symm)))
        replace hS := hS.mb hm (fun k h => by cases h; exact hmp.low)
        replace hmp := hmp'
        clear hm hI' hmp'
        refine WL_nil (hK _ _ ?_)
        clear hK K
        replace hF := hF.sub _ (c_ 0 rfl (c_ 1 rfl (c_ 2 rfl (c_ 8 rfl (c_ 33 rfl (c_ 34 rfl (c_ 35 rfl (n_))))))))
        refine W_reg rfl (fun K hK => ?_)
        refine sv hF (v_addI rfl rfl (by omega)) rfl ?_; clear hF a; intro a hF
        refine sv hF (v_move rfl) rfl ?_; clear hF a; intro a hF
        refine WL_nil (hK _ _ ?_)
        clear hK K
        exact ⟨q - 1, by omega, i + 1, hF.sub _ (c_ 0 rfl (c_ 1 rfl (c_ 2 rfl (c_ 8 rfl (c_ 33 rfl (c_ 34 rfl (c_ 35 rfl (n_)))))))), hS, hf, hx, hy, hC, by rw [take_snoc ha]; exact hmp, nodup_snoc hnd ha (fun z hz e => hnin (e ▸ hz)), (fun z hz => by rw [take_snoc ha, List.mem_append, List.mem_singleton] at hz; rcases hz with hz | rfl; exact hbd _ hz; omega), by omega, by omega⟩
    ·
     skip
     try simp only [dcl] at hc3
     have hie : i = (x ++ y).length := by rw [List.length_append]; omega
     rw [hie, List.take_length] at hnd hbd
     clear hC hmp
     refine W_exit rfl ?_
     refine W_sr rfl (fun K hK => ?_)
     refine sv hF (v_assign rfl) rfl ?_; clear hF a; intro a hF
     refine WL_nil (hK _ _ ?_)
     clear hK K
     replace hF := hF.sub _ (c_ 11 rfl (c_ 0 rfl (c_ 1 rfl (c_ 2 rfl (c_ 8 rfl (c_ 33 rfl (c_ 34 rfl (c_ 35 rfl (n_)))))))))
     refine W_seq ?_
     refine W_sr rfl (fun K hK => ?_)
     refine sv hF (v_move rfl) rfl ?_; clear hF a; intro a hF
     refine sv hF (v_lenS rfl sl37 rfl) rfl ?_; clear hF a; intro a hF
     refine sv hF (v_move rfl) rfl ?_; clear hF a; intro a hF
     refine WL_nil (hK _ _ ?_)
     clear hK K
     refine W_block ?_
     refine W_loop (fun q2 a w2 => ∃ (i : Nat) (v11 : Value) (b11 : Option Nat), Fr 86 [(0, fv), (2, .slice py y.length cy), (11, v11), (55, .slice px x.length cx), (56, .int .i64 (x.length : Int)), (57, .int .i64 (i : Int))] a ∧ (St FDx B w w2) ∧ (Fo FDx B w2 fv (some (wb, p))) ∧ (Row FDx B M w2 (.slice px x.length cx) (zints x)) ∧ (Row FDx B M w2 (.slice py y.length cy) (zints y)) ∧ (MOwn FDx B w.heap.size 0 w2.heap.size w2 37 v11 b11 ((List.range i).map (trow y.length (ofT hp x y)))) ∧ (i ≤ x.length) ∧ (q2 + i = x.length)) (x.length) ?_ ?_
     ·
      skip
      exact ⟨0, _, none, hF.sub _ (c_ 0 rfl (c_ 2 rfl (c_ 11 rfl (c_ 55 rfl (c_ 56 rfl (c_ 57 rfl (n_))))))), hS, hf, hx, hy, MOwn.nil _ _ _ _ _ _ _ (Nat.zero_le _), by omega, by omega⟩
     ·
      skip
      clear hF
      clear hS hf hx hy
      rintro q2 a w2 ⟨i, v11, b11, hF, hS, hf, hx, hy, hMO, hi2, hq2⟩
      obtain ⟨KM, hKe⟩ : ∃ K, K = w2.heap.size := ⟨_, rfl⟩
      rw [← hKe] at hMO
      have hKs : KM ≤ w2.heap.size := by omega
      have hNK : w.heap.size ≤ KM := by have := hS.ext.size; omega
      clear hKe
      refine W_sr rfl (fun K hK => ?_)
      refine sv hF (v_lss rfl rfl) rfl ?_; clear hF a; intro a hF
      refine WL_nil (hK _ _ ?_)
      clear hK K
      refine W_seq ?_
      refine W_if hF rfl (fun hc7 => ?_) (fun hc7 => ?_)
      ·
       skip
       try simp only [dcl] at hc7
       have hlt : i < x.length := by omega
       obtain ⟨an, bn_, hxa, -, han, -⟩ := of_cell hnd hbd hlt (show 0 < y.length by omega)
       obtain ⟨ga, oa, hga, hka, -⟩ := hx.kat (zints_at hxa)
       cases hga
       refine W_skip ?_
       refine W_seq ?_
       refine W_block ?_
       refine W_sr rfl (fun K hK => ?_)
       refine sv hF (v_ixS sl37 rfl rfl (by omega) (by omega)) rfl ?_; clear hF a; intro a hF
       refine sv hF (v_load sc3 rfl (by rw [toNat_c]; exact hka.c)) rfl ?_; clear hF a; intro a hF
       refine sv hF (v_assign rfl) rfl ?_; clear hF a; intro a hF
       refine WL_nil (hK _ _ ?_)
       clear hK K
       refine W_sr rfl (fun K hK => ?_)
       refine sv hF (v_assign rfl) rfl ?_; clear hF a; intro a hF
       refine WL_nil (hK _ _ ?_)
       clear hK K
       refine W_seq ?_
       refine W_sr rfl (fun K hK => ?_)
       refine sv hF (v_move rfl) rfl ?_; clear hF a; intro a hF
       refine sv hF (v_lenS rfl sl37 rfl) rfl ?_; clear hF a; intro a hF
       refine sv hF (v_move rfl) rfl ?_; clear hF a; intro a hF
       refine WL_nil (hK _ _ ?_)
       clear hK K
       refine W_block ?_
       refine W_loop (fun q3 a w3 => ∃ (j : Nat) (v14 : Value) (b14 : Option Nat), Fr 86 [(0, fv), (2, .slice py y.length cy), (11, v11), (13, .int .i64 (an : Int)), (14, v14), (55, .slice (some ⟨ga, oa, none⟩) x.length cx), (56, .int .i64 (x.length : Int)), (57, .int .i64 (i : Int)), (61, .slice py y.length cy), (62, .int .i64 (y.length : Int)), (63, .int .i64 (j : Int))] a ∧ (St FDx B w w3) ∧ (Fo FDx B w3 fv (some (wb, p))) ∧ (Row FDx B M w3 (.slice (some ⟨ga, oa, none⟩) x.length cx) (zints x)) ∧ (Row FDx B M w3 (.slice py y.length cy) (zints y)) ∧ (MOwn FDx B w.heap.size 0 KM w3 37 v11 b11 ((List.range i).map (trow y.length (ofT hp x y)))) ∧ (KM ≤ w3.heap.size) ∧ (Gam.Own FDx B KM w3 FDx.E v14 b14 (zints ((List.range j).map fun j => (((ofT hp x y) i j : Nat) : Int)))) ∧ (j ≤ y.length) ∧ (q3 + j = y.length)) (y.length) ?_ ?_
       ·
        skip
        exact ⟨0, _, none, hF.sub _ (c_ 0 rfl (c_ 2 rfl (c_ 11 rfl (c_ 13 rfl (c_ 14 rfl (c_ 55 rfl (c_ 56 rfl (c_ 57 rfl (c_ 61 rfl (c_ 62 rfl (c_ 63 rfl (n_)))))))))))), hS, hf, hx, hy, hMO, hKs, Gam.Own.nil _ _ _ _ _, by omega, by omega⟩
       ·
        skip
        clear hF
        clear hS hf hx hy hMO hKs
        rintro q3 a w3 ⟨j, v14, b14, hF, hS, hf, hx, hy, hMO, hKs, hO, hj, hq3⟩
        refine W_sr rfl (fun K hK => ?_)
        refine sv hF (v_lss rfl rfl) rfl ?_; clear hF a; intro a hF
        refine WL_nil (hK _ _ ?_)
        clear hK K
        refine W_seq ?_
        refine W_if hF rfl (fun hc8 => ?_) (fun hc8 => ?_)
        ·
         skip
         try simp only [dcl] at hc8
         have hlt2 : j < y.length := by omega
         obtain ⟨an2, bn, hxa2, hyb, -, hbn, hxl, hx0⟩ := of_cell hnd hbd hlt hlt2
         obtain rfl : an = an2 := by have e := hxa.symm.trans hxa2; injection e with e; omega
         obtain ⟨gb, ob_, hgb, hkb, -⟩ := hy.kat (zints_at hyb)
         cases hgb
         have hcell := ofT_at hp hxa hyb
         refine W_skip ?_
         refine W_seq ?_
         refine W_block ?_
         refine W_sr rfl (fun K hK => ?_)
         refine sv hF (v_ixS sl37 rfl rfl (by omega) (by omega)) rfl ?_; clear hF a; intro a hF
         refine sv hF (v_load sc3 rfl (by rw [toNat_c]; exact hkb.c)) rfl ?_; clear hF a; intro a hF
         refine sv hF (v_assign rfl) rfl ?_; clear hF a; intro a hF
         refine WL_nil (hK _ _ ?_)
         clear hK K
         refine W_sr rfl (fun K hK => ?_)
         refine sv3 hF (v_move rfl) (v_move rfl) (v_move rfl) rfl rfl rfl ?_; clear hF a; intro a hF
         refine sv hF (v_xorN rfl rfl (fits_i64 (by omega)) (fits_i64 (by omega))) rfl ?_; clear hF a; intro a hF
         refine sc hF rfl rfl rfl en46 rfl (Inv_gf B (some (wb, p)) fv ((an ^^^ bn : Nat) : Int) _ hS.inv hf) ?_; clear hF a; intro v w' a hv hF
         obtain ⟨rfl, hS'⟩ := hv
         replace hf := hf.st hS'
         replace hx := hx.st hS'
         replace hy := hy.st hS'
         replace hMO := hMO.st (by decide) hS'
         replace hKs := Nat.le_trans hKs hS'.ext.size
         replace hO := hO.st (by decide) hS'
         replace hS := hS.trans hS'
         clear hS'
         rw [ginv_fld hp hxl hx0, ← hcell] at hF
         refine sv5 hF (v_move rfl) (v_ext rfl rfl) (v_ext rfl rfl) (v_assign rfl) (v_assign rfl) rfl rfl rfl rfl rfl ?_; clear hF a; intro a hF
         refine WL_nil (hK _ _ ?_)
         clear hK K
         replace hF := hF.sub _ (c_ 17 rfl (c_ 74 rfl (c_ 73 rfl (c_ 67 rfl (c_ 72 rfl (c_ 71 rfl (c_ 70 rfl (c_ 69 rfl (c_ 68 rfl (c_ 16 rfl (c_ 66 rfl (c_ 65 rfl (c_ 64 rfl (c_ 0 rfl (c_ 2 rfl (c_ 11 rfl (c_ 13 rfl (c_ 14 rfl (c_ 55 rfl (c_ 56 rfl (c_ 57 rfl (c_ 61 rfl (c_ 62 rfl (c_ 63 rfl (n_)))))))))))))))))))))))))
         refine W_reg rfl (fun K hK => ?_)
         refine sv2 hF (v_move rfl) (v_move rfl) rfl rfl ?_; clear hF a; intro a hF
         refine s_bs (D := FDx) (B := B) hF sl37 rfl rfl (by decide) (by simp [Value.cells]) (by decide) hS.inv rfl ?_; clear hF a; intro w' a hm hI' hL hF
         replace hf := hf.mb hm
         replace hx := hx.mb hm (fun _ h => by cases h)
         replace hy := hy.mb hm (fun _ h => by cases h)
         replace hMO := hMO.mb0 hm
         replace hKs := Nat.le_trans hKs hm.size
         replace hO := hO.mb hm (fun _ _ => by simp)
         replace hS := hS.mb0 hm
         clear hm hI'
         refine s_app (D := FDx) (B := B) hF rfl sl37 rfl rfl hO (hL.row (by decide)) (by simp [Value.oneCell']) (by simp; omega) (by simp [maxLen]; omega) (hKs) (by decide) hS.inv rfl ?_; clear hF a; intro v' b' w' a ho' hm hI' hb' hF
         replace hf := hf.mb hm
         replace hx := hx.mb hm (fun k h => Nat.le_trans (Nat.le_trans hM hNK) (hO.lt k h).1)
         replace hy := hy.mb hm (fun k h => Nat.le_trans (Nat.le_trans hM hNK) (hO.lt k h).1)
         replace hMO := hMO.mbo hm hO (by decide) (Nat.le_refl _) (Nat.zero_le _)
         replace hKs := Nat.le_trans hKs hm.size
         replace hS := hS.mb hm (fun k h => Nat.le_trans (hNK) (hO.lt k h).1)
         replace hO := ho'
         clear hm hI' ho'
         refine sv hF (v_assign rfl) rfl ?_; clear hF a; intro a hF
         refine WL_nil (hK _ _ ?_)
         clear hK K
         refine W_reg rfl (fun K hK => ?_)
         refine sv hF (v_addI rfl rfl (by omega)) rfl ?_; clear hF a; intro a hF
         refine sv hF (v_move rfl) rfl ?_; clear hF a; intro a hF
         refine WL_nil (hK _ _ ?_)
         clear hK K
         exact ⟨q3 - 1, by omega, j + 1, _, _, hF.sub _ (c_ 0 rfl (c_ 2 rfl (c_ 11 rfl (c_ 13 rfl (c_ 14 rfl (c_ 55 rfl (c_ 56 rfl (c_ 57 rfl (c_ 61 rfl (c_ 62 rfl (c_ 63 rfl (n_)))))))))))), hS, hf, hx, hy, hMO, hKs, hO.cast (by rw [List.range_succ, List.map_append]; simp [zints]), by omega, by omega⟩
        ·
         skip
         try simp only [dcl] at hc8
         have hje : j = y.length := by omega
         rw [hje] at hO
         refine W_exit rfl ?_
         refine W_reg rfl (fun K hK => ?_)
         refine sv2 hF (v_move rfl) (v_move rfl) rfl rfl ?_; clear hF a; intro a hF
         obtain ⟨a_, c_r, rfl⟩ := hO.shape
         refine s_bs (D := FDx) (B := B) hF sl28 rfl rfl (by decide) (by simp [Value.cells]) (by decide) hS.inv rfl ?_; clear hF a; intro w' a hm hI' hL hF
         replace hf := hf.mb hm
         replace hx := hx.mb hm (fun _ h => by cases h)
         replace hy := hy.mb hm (fun _ h => by cases h)
         replace hMO := hMO.mb0 hm
         replace hKs := Nat.le_trans hKs hm.size
         replace hO := hO.mb hm (fun _ _ => by simp)
         replace hS := hS.mb0 hm
         clear hm hI'
         replace hMO := hMO.up hKs
         clear hKs
         refine s_appM (D := FDx) (B := B) hF rfl sl28 rfl rfl hMO hL (.of (r := trow y.length (ofT hp x y) i) hO (Nat.zero_le _)) rfl rfl (by simp; omega) (hS.ext.size) (by decide) (by decide) hS.inv rfl ?_; clear hF a; intro v' b' w' a ho' hm hI' hF
         replace hf := hf.mb hm
         replace hx := hx.mb hm (fun k h => Nat.le_trans (hM) (hMO.lt k h).1)
         replace hy := hy.mb hm (fun k h => Nat.le_trans (hM) (hMO.lt k h).1)
         replace hS := hS.mb hm (fun k h => (hMO.lt k h).1)
         have hKm := hm.size
         replace hMO := ho'
         clear hm hI' ho' hL
         refine sv hF (v_assign rfl) rfl ?_; clear hF a; intro a hF
         refine WL_nil (hK _ _ ?_)
         clear hK K
         refine W_reg rfl (fun K hK => ?_)
         refine sv hF (v_addI rfl rfl (by omega)) rfl ?_; clear hF a; intro a hF
         refine sv hF (v_move rfl) rfl ?_; clear hF a; intro a hF
         refine WL_nil (hK _ _ ?_)
         clear hK K
         exact ⟨q2 - 1, by omega, i + 1, _, _, hF.sub _ (c_ 0 rfl (c_ 2 rfl (c_ 11 rfl (c_ 55 rfl (c_ 56 rfl (c_ 57 rfl (n_))))))), hS, hf, hx, hy, (hMO.up hKm).cast (by rw [List.range_succ, List.map_append]; rfl), by omega, by omega⟩
      ·
       skip
       try simp only [dcl] at hc7
       refine W_exit rfl ?_
       refine W_sr rfl (fun K hK => ?_)
       refine sv3 hF (v_move rfl) (v_assign rfl) (v_assign rfl) rfl rfl rfl ?_; clear hF a; intro a hF
       refine WL_nil (hK _ _ ?_)
       clear hK K
       refine W_ret ?_
       refine ⟨_, _, _, hF, rfl, rfl, ?_⟩
       obtain rfl : i = x.length := by omega
       rw [ofM_is hp (ofB_ok hln hnd hbd)]
       exact ⟨_, _, rfl, (hMO.up hKs).cast rfl, hS⟩

set_option maxRecDepth 100000 in
set_option maxHeartbeats 1000000 in
theorem Orig_ok (B wb p : Nat) (hp : Prm wb p) (fv : Value) (k m : Int) (w : World) (hI : Inv FDx B w) (hf : Fo FDx B w fv (some (wb, p))) : Ret Try.prog 33 [fv, .int .i64 k, .int .i64 m] w fun v w' => ∃ ob u, v = .tuple #[u, .int .i64 (errV (origM hp k m))] ∧ MOwn FDx B w.heap.size 0 w'.heap.size w' 37 u ob ((origM hp k m).getD []) ∧ St FDx B w w' := by
 refine enter2 32 [(0, fv), (1, .int .i64 k), (2, .int .i64 m)] 6 7 Try.func33 rfl rfl rfl rfl rfl ?_; intro a hF
 have hS := St.refl hI
 refine W_sr rfl (fun K hK => ?_)
 refine sv2 hF (v_assign rfl) (v_assign rfl) rfl rfl ?_; clear hF a; intro a hF
 refine WL_nil (hK _ _ ?_)
 clear hK K
 refine W_seq ?_
 refine W_sr rfl (fun K hK => ?_)
 refine sv hF (v_move rfl) rfl ?_; clear hF a; intro a hF
 refine sc hF rfl rfl rfl en51 rfl (cwithin_ok _ _) ?_; clear hF a; intro v w' a hv hF
 obtain ⟨rfl, hw⟩ := hv
 obtain rfl := hw.symm
 have hS' := St.refl hS.inv
 replace hf := hf.st hS'
 replace hS := hS.trans hS'
 clear hS'
 refine sb hF (v_not rfl) rfl ?_ ?_
 ·
  clear hF a; intro hc1 a hF
  try simp only [dcl] at hc1
  refine sv hF (v_move rfl) rfl ?_; clear hF a; intro a hF
  refine svn hF rfl rfl rfl ?_; clear hF a; intro a hF
  refine svn hF rfl rfl rfl ?_; clear hF a; intro a hF
  refine svn hF rfl rfl rfl ?_; clear hF a; intro a hF
  refine sv2 hF (v_pickT rfl rfl) (v_move rfl) rfl rfl ?_; clear hF a; intro a hF
  refine svn hF rfl rfl rfl ?_; clear hF a; intro a hF
  refine svn hF rfl rfl rfl ?_; clear hF a; intro a hF
  refine svn hF rfl rfl rfl ?_; clear hF a; intro a hF
  refine svn hF rfl rfl rfl ?_; clear hF a; intro a hF
  refine svn hF rfl rfl rfl ?_; clear hF a; intro a hF
  refine sv hF (v_pickT rfl rfl) rfl ?_; clear hF a; intro a hF
  refine WL_nil (hK _ _ ?_)
  clear hK K
  replace hF := hF.sub _ (c_ 22 rfl (c_ 7 rfl (c_ 6 rfl (c_ 0 rfl (c_ 1 rfl (c_ 2 rfl (n_)))))))
  refine W_ifT hF rfl ?_
  refine W_sr rfl (fun K hK => ?_)
  refine sv2 hF (v_assign rfl) (v_assign rfl) rfl rfl ?_; clear hF a; intro a hF
  refine WL_nil (hK _ _ ?_)
  clear hK K
  replace hF := hF.sub _ (c_ 7 rfl (c_ 6 rfl (c_ 0 rfl (c_ 1 rfl (c_ 2 rfl (n_))))))
  refine W_ret ?_
  refine ⟨_, _, _, hF, rfl, rfl, ?_⟩
  rw [origM_no hp (fitB_not (by omega))]
  exact ⟨none, _, rfl, MOwn.nil _ _ _ _ _ _ _ (Nat.zero_le _), hS⟩
 ·
  clear hF a; intro hc1 a hF
  try simp only [dcl] at hc1
  refine sv hF (v_move rfl) rfl ?_; clear hF a; intro a hF
  refine svg hF rfl ?_
  refine sv hF (v_move rfl) rfl ?_; clear hF a; intro a hF
  refine svg hF rfl ?_
  refine sc hF rfl rfl rfl en51 rfl (cwithin_ok _ _) ?_; clear hF a; intro v w' a hv hF
  obtain ⟨rfl, hw⟩ := hv
  obtain rfl := hw.symm
  have hS' := St.refl hS.inv
  replace hf := hf.st hS'
  replace hS := hS.trans hS'
  clear hS'
  refine svg hF rfl ?_
  refine sb hF (v_not rfl) rfl ?_ ?_
  ·
   clear hF a; intro hc2 a hF
   try simp only [dcl] at hc2
   refine sv2 hF (v_pickF rfl rfl) (v_move rfl) rfl rfl ?_; clear hF a; intro a hF
   refine svn hF rfl rfl rfl ?_; clear hF a; intro a hF
   refine svn hF rfl rfl rfl ?_; clear hF a; intro a hF
   refine svn hF rfl rfl rfl ?_; clear hF a; intro a hF
   refine svn hF rfl rfl rfl ?_; clear hF a; intro a hF
   refine svn hF rfl rfl rfl ?_; clear hF a; intro a hF
   refine sv hF (v_pickT rfl rfl) rfl ?_; clear hF a; intro a hF
   refine WL_nil (hK _ _ ?_)
   clear hK K
   replace hF := hF.sub _ (c_ 22 rfl (c_ 7 rfl (c_ 6 rfl (c_ 0 rfl (c_ 1 rfl (c_ 2 rfl (n_)))))))
   refine W_ifT hF rfl ?_
   refine W_sr rfl (fun K hK => ?_)
   refine sv2 hF (v_assign rfl) (v_assign rfl) rfl rfl ?_; clear hF a; intro a hF
   refine WL_nil (hK _ _ ?_)
   clear hK K
   replace hF := hF.sub _ (c_ 7 rfl (c_ 6 rfl (c_ 0 rfl (c_ 1 rfl (c_ 2 rfl (n_))))))
   refine W_ret ?_
   refine ⟨_, _, _, hF, rfl, rfl, ?_⟩
   rw [origM_no hp (fitB_not (by omega))]
   exact ⟨none, _, rfl, MOwn.nil _ _ _ _ _ _ _ (Nat.zero_le _), hS⟩
  ·
   clear hF a; intro hc2 a hF
   try simp only [dcl] at hc2
   refine sv2 hF (v_pickF rfl rfl) (v_move rfl) rfl rfl ?_; clear hF a; intro a hF
   refine svg hF rfl ?_
   refine sv hF (v_move rfl) rfl ?_; clear hF a; intro a hF
   refine svg hF rfl ?_
   refine sv hF (v_move rfl) rfl ?_; clear hF a; intro a hF
   refine svg hF rfl ?_
   refine sv hF (v_addI rfl rfl (by omega)) rfl ?_; clear hF a; intro a hF
   refine svg hF rfl ?_
   refine sc hF rfl rfl rfl en51 rfl (cwithin_ok _ _) ?_; clear hF a; intro v w' a hv hF
   obtain ⟨rfl, hw⟩ := hv
   obtain rfl := hw.symm
   have hS' := St.refl hS.inv
   replace hf := hf.st hS'
   replace hS := hS.trans hS'
   clear hS'
   refine svg hF rfl ?_
   refine sv hF (v_not rfl) rfl ?_; clear hF a; intro a hF
   refine sv hF (v_pickF rfl rfl) rfl ?_; clear hF a; intro a hF
   refine WL_nil (hK _ _ ?_)
   clear hK K
   replace hF := hF.sub _ (c_ 22 rfl (c_ 7 rfl (c_ 6 rfl (c_ 0 rfl (c_ 1 rfl (c_ 2 rfl (n_)))))))
   refine W_if hF rfl (fun hc3 => ?_) (fun hc3 => ?_)
   ·
    skip
    try simp only [dcl] at hc3
    refine W_sr rfl (fun K hK => ?_)
    refine sv2 hF (v_assign rfl) (v_assign rfl) rfl rfl ?_; clear hF a; intro a hF
    refine WL_nil (hK _ _ ?_)
    clear hK K
    replace hF := hF.sub _ (c_ 7 rfl (c_ 6 rfl (c_ 0 rfl (c_ 1 rfl (c_ 2 rfl (n_))))))
    refine W_ret ?_
    refine ⟨_, _, _, hF, rfl, rfl, ?_⟩
    rw [origM_no hp (fitB_not (by omega))]
    exact ⟨none, _, rfl, MOwn.nil _ _ _ _ _ _ _ (Nat.zero_le _), hS⟩
   ·
    skip
    try simp only [dcl] at hc3
    refine W_skip ?_
    have hb : fitB (some (wb, p)) k m = true := fitB_iff.2 ⟨rfl, by omega, by omega, by omega, by omega, by omega⟩
    obtain ⟨kn, rfl⟩ : ∃ n : Nat, k = (n : Int) := ⟨k.toNat, by omega⟩
    obtain ⟨mn, rfl⟩ : ∃ n : Nat, m = (n : Int) := ⟨m.toNat, by omega⟩
    refine W_sr rfl (fun K hK => ?_)
    refine sv2 hF (v_move rfl) (v_move rfl) rfl rfl ?_; clear hF a; intro a hF
    refine sc hF rfl rfl rfl en69 rfl (run_ok B 0 mn _ hS.inv (by omega)) ?_; clear hF a; intro v w' a hv hF
    obtain ⟨gX, rfl, hOX, hS'⟩ := hv
    have hX : Row FDx B _ _ _ (zints (rnL 0 mn)) := hOX.row (by decide)
    clear hOX
    replace hf := hf.st hS'
    replace hS := hS.trans hS'
    clear hS'
    refine sv2 hF (v_move rfl) (v_move rfl) rfl rfl ?_; clear hF a; intro a hF
    refine sc hF rfl rfl rfl en69 rfl (run_ok B mn kn _ hS.inv (by omega)) ?_; clear hF a; intro v w' a hv hF
    obtain ⟨gY, rfl, hOY, hS'⟩ := hv
    have hY : Row FDx B _ _ _ (zints (rnL mn kn)) := hOY.row (by decide)
    clear hOY
    replace hf := hf.st hS'
    replace hX := (hX.st hS').mono hS'.ext.size
    replace hS := hS.trans hS'
    clear hS'
    rw [show (Value.slice (some ⟨gX, 0, none⟩) mn mn) = .slice (some ⟨gX, 0, none⟩) (rnL 0 mn).length mn by rw [rnL_length], show (Value.slice (some ⟨gY, 0, none⟩) kn kn) = .slice (some ⟨gY, 0, none⟩) (rnL mn kn).length kn by rw [rnL_length]] at hF
    refine sc hF rfl rfl rfl en24 rfl (Of_ok B _ wb p hp fv _ _ mn kn (rnL 0 mn) (rnL mn kn) _ hS.inv (Nat.le_refl _) hf (by rw [rnL_length]; exact hX) (by rw [rnL_length]; exact hY) ⟨by rw [rnL_length]; simp only [maxLen]; omega, by rw [rnL_length]; simp only [maxLen]; omega⟩) ?_; clear hF a; intro v w' a hv hF
    obtain ⟨ob, u, rfl, hMO, hS'⟩ := hv
    replace hMO := hMO.le hS.ext.size (Nat.zero_le _)
    replace hS := hS.trans hS'
    clear hS'
    refine sv4 hF (v_ext rfl rfl) (v_ext rfl rfl) (v_assign rfl) (v_assign rfl) rfl rfl rfl rfl ?_; clear hF a; intro a hF
    refine WL_nil (hK _ _ ?_)
    clear hK K
    replace hF := hF.sub _ (c_ 7 rfl (c_ 6 rfl (n_)))
    refine W_ret ?_
    refine ⟨_, _, _, hF, rfl, rfl, ?_⟩
    rw [show origM hp (kn : Int) (mn : Int) = ofM hp (rnL 0 mn) (rnL mn kn) by unfold origM; rw [if_pos hb]; rfl]
    exact ⟨_, _, rfl, hMO, hS⟩

set_option maxRecDepth 100000 in
set_option maxHeartbeats 1000000 in
theorem CIsal_ok (B wb p : Nat) (hp : Prm wb p) (fv : Value) (k m : Int) (w : World) (hI : Inv FDx B w) (hf : Fo FDx B w fv (some (wb, p))) : Ret Try.prog 35 [fv, .int .i64 k, .int .i64 m] w fun v w' => ∃ ob u, v = .tuple #[u, .int .i64 (errV (cisaM hp k m))] ∧ MOwn FDx B w.heap.size 0 w'.heap.size w' 37 u ob ((cisaM hp k m).getD []) ∧ St FDx B w w' := by
 refine enter2 32 [(0, fv), (1, .int .i64 k), (2, .int .i64 m)] 6 7 Try.func35 rfl rfl rfl rfl rfl ?_; intro a hF
 have hS := St.refl hI
 refine W_sr rfl (fun K hK => ?_)
 refine sv2 hF (v_assign rfl) (v_assign rfl) rfl rfl ?_; clear hF a; intro a hF
 refine WL_nil (hK _ _ ?_)
 clear hK K
 refine W_seq ?_
 refine W_sr rfl (fun K hK => ?_)
 refine sv hF (v_move rfl) rfl ?_; clear hF a; intro a hF
 refine sc hF rfl rfl rfl en51 rfl (cwithin_ok _ _) ?_; clear hF a; intro v w' a hv hF
 obtain ⟨rfl, hw⟩ := hv
 obtain rfl := hw.symm
 have hS' := St.refl hS.inv
 replace hf := hf.st hS'
 replace hS := hS.trans hS'
 clear hS'
 refine sb hF (v_not rfl) rfl ?_ ?_
 ·
  clear hF a; intro hc1 a hF
  try simp only [dcl] at hc1
  refine sv hF (v_move rfl) rfl ?_; clear hF a; intro a hF
  refine svn hF rfl rfl rfl ?_; clear hF a; intro a hF
  refine svn hF rfl rfl rfl ?_; clear hF a; intro a hF
  refine svn hF rfl rfl rfl ?_; clear hF a; intro a hF
  refine sv2 hF (v_pickT rfl rfl) (v_move rfl) rfl rfl ?_; clear hF a; intro a hF
  refine svn hF rfl rfl rfl ?_; clear hF a; intro a hF
  refine svn hF rfl rfl rfl ?_; clear hF a; intro a hF
  refine svn hF rfl rfl rfl ?_; clear hF a; intro a hF
  refine svn hF rfl rfl rfl ?_; clear hF a; intro a hF
  refine svn hF rfl rfl rfl ?_; clear hF a; intro a hF
  refine sv hF (v_pickT rfl rfl) rfl ?_; clear hF a; intro a hF
  refine WL_nil (hK _ _ ?_)
  clear hK K
  replace hF := hF.sub _ (c_ 22 rfl (c_ 7 rfl (c_ 6 rfl (c_ 0 rfl (c_ 1 rfl (c_ 2 rfl (n_)))))))
  refine W_ifT hF rfl ?_
  refine W_sr rfl (fun K hK => ?_)
  refine sv2 hF (v_assign rfl) (v_assign rfl) rfl rfl ?_; clear hF a; intro a hF
  refine WL_nil (hK _ _ ?_)
  clear hK K
  replace hF := hF.sub _ (c_ 7 rfl (c_ 6 rfl (c_ 0 rfl (c_ 1 rfl (c_ 2 rfl (n_))))))
  refine W_ret ?_
  refine ⟨_, _, _, hF, rfl, rfl, ?_⟩
  rw [cisaM_no hp (fitB_not (by omega))]
  exact ⟨none, _, rfl, MOwn.nil _ _ _ _ _ _ _ (Nat.zero_le _), hS⟩
 ·
  clear hF a; intro hc1 a hF
  try simp only [dcl] at hc1
  refine sv hF (v_move rfl) rfl ?_; clear hF a; intro a hF
  refine svg hF rfl ?_
  refine sv hF (v_move rfl) rfl ?_; clear hF a; intro a hF
  refine svg hF rfl ?_
  refine sc hF rfl rfl rfl en51 rfl (cwithin_ok _ _) ?_; clear hF a; intro v w' a hv hF
  obtain ⟨rfl, hw⟩ := hv
  obtain rfl := hw.symm
  have hS' := St.refl hS.inv
  replace hf := hf.st hS'
  replace hS := hS.trans hS'
  clear hS'
  refine svg hF rfl ?_
  refine sb hF (v_not rfl) rfl ?_ ?_
  ·
   clear hF a; intro hc2 a hF
   try simp only [dcl] at hc2
   refine sv2 hF (v_pickF rfl rfl) (v_move rfl) rfl rfl ?_; clear hF a; intro a hF
   refine svn hF rfl rfl rfl ?_; clear hF a; intro a hF
   refine svn hF rfl rfl rfl ?_; clear hF a; intro a hF
   refine svn hF rfl rfl rfl ?_; clear hF a; intro a hF
   refine svn hF rfl rfl rfl ?_; clear hF a; intro a hF
   refine svn hF rfl rfl rfl ?_; clear hF a; intro a hF
   refine sv hF (v_pickT rfl rfl) rfl ?_; clear hF a; intro a hF
   refine WL_nil (hK _ _ ?_)
   clear hK K
   replace hF := hF.sub _ (c_ 22 rfl (c_ 7 rfl (c_ 6 rfl (c_ 0 rfl (c_ 1 rfl (c_ 2 rfl (n_)))))))
   refine W_ifT hF rfl ?_
   refine W_sr rfl (fun K hK => ?_)
   refine sv2 hF (v_assign rfl) (v_assign rfl) rfl rfl ?_; clear hF a; intro a hF
   refine WL_nil (hK _ _ ?_)
   clear hK K
   replace hF := hF.sub _ (c_ 7 rfl (c_ 6 rfl (c_ 0 rfl (c_ 1 rfl (c_ 2 rfl (n_))))))
   refine W_ret ?_
   refine ⟨_, _, _, hF, rfl, rfl, ?_⟩
   rw [cisaM_no hp (fitB_not (by omega))]
   exact ⟨none, _, rfl, MOwn.nil _ _ _ _ _ _ _ (Nat.zero_le _), hS⟩
  ·
   clear hF a; intro hc2 a hF
   try simp only [dcl] at hc2
   refine sv2 hF (v_pickF rfl rfl) (v_move rfl) rfl rfl ?_; clear hF a; intro a hF
   refine svg hF rfl ?_
   refine sv hF (v_move rfl) rfl ?_; clear hF a; intro a hF
   refine svg hF rfl ?_
   refine sv hF (v_move rfl) rfl ?_; clear hF a; intro a hF
   refine svg hF rfl ?_
   refine sv hF (v_addI rfl rfl (by omega)) rfl ?_; clear hF a; intro a hF
   refine svg hF rfl ?_
   refine sc hF rfl rfl rfl en51 rfl (cwithin_ok _ _) ?_; clear hF a; intro v w' a hv hF
   obtain ⟨rfl, hw⟩ := hv
   obtain rfl := hw.symm
   have hS' := St.refl hS.inv
   replace hf := hf.st hS'
   replace hS := hS.trans hS'
   clear hS'
   refine svg hF rfl ?_
   refine sv hF (v_not rfl) rfl ?_; clear hF a; intro a hF
   refine sv hF (v_pickF rfl rfl) rfl ?_; clear hF a; intro a hF
   refine WL_nil (hK _ _ ?_)
   clear hK K
   replace hF := hF.sub _ (c_ 22 rfl (c_ 7 rfl (c_ 6 rfl (c_ 0 rfl (c_ 1 rfl (c_ 2 rfl (n_)))))))
   refine W_if hF rfl (fun hc3 => ?_) (fun hc3 => ?_)
   ·
    skip
    try simp only [dcl] at hc3
    refine W_sr rfl (fun K hK => ?_)
    refine sv2 hF (v_assign rfl) (v_assign rfl) rfl rfl ?_; clear hF a; intro a hF
    refine WL_nil (hK _ _ ?_)
    clear hK K
    replace hF := hF.sub _ (c_ 7 rfl (c_ 6 rfl (c_ 0 rfl (c_ 1 rfl (c_ 2 rfl (n_))))))
    refine W_ret ?_
    refine ⟨_, _, _, hF, rfl, rfl, ?_⟩
    rw [cisaM_no hp (fitB_not (by omega))]
    exact ⟨none, _, rfl, MOwn.nil _ _ _ _ _ _ _ (Nat.zero_le _), hS⟩
   ·
    skip
    try simp only [dcl] at hc3
    refine W_skip ?_
    have hb : fitB (some (wb, p)) k m = true := fitB_iff.2 ⟨rfl, by omega, by omega, by omega, by omega, by omega⟩
    obtain ⟨kn, rfl⟩ : ∃ n : Nat, k = (n : Int) := ⟨k.toNat, by omega⟩
    obtain ⟨mn, rfl⟩ : ∃ n : Nat, m = (n : Int) := ⟨m.toNat, by omega⟩
    refine W_sr rfl (fun K hK => ?_)
    refine sv3 hF (v_move rfl) (v_move rfl) (v_move rfl) rfl rfl rfl ?_; clear hF a; intro a hF
    refine sc hF rfl rfl rfl en69 rfl (run_ok B kn mn _ hS.inv (by omega)) ?_; clear hF a; intro v w' a hv hF
    obtain ⟨gX, rfl, hOX, hS'⟩ := hv
    have hX : Row FDx B _ _ _ (zints (rnL kn mn)) := hOX.row (by decide)
    clear hOX
    replace hf := hf.st hS'
    replace hS := hS.trans hS'
    clear hS'
    refine sv hF (v_move rfl) rfl ?_; clear hF a; intro a hF
    refine sc hF rfl rfl rfl en69 rfl (run_ok B 0 kn _ hS.inv (by omega)) ?_; clear hF a; intro v w' a hv hF
    obtain ⟨gY, rfl, hOY, hS'⟩ := hv
    have hY : Row FDx B _ _ _ (zints (rnL 0 kn)) := hOY.row (by decide)
    clear hOY
    replace hf := hf.st hS'
    replace hX := (hX.st hS').mono hS'.ext.size
    replace hS := hS.trans hS'
    clear hS'
    rw [show (Value.slice (some ⟨gX, 0, none⟩) mn mn) = .slice (some ⟨gX, 0, none⟩) (rnL kn mn).length mn by rw [rnL_length], show (Value.slice (some ⟨gY, 0, none⟩) kn kn) = .slice (some ⟨gY, 0, none⟩) (rnL 0 kn).length kn by rw [rnL_length]] at hF
    refine sc hF rfl rfl rfl en24 rfl (Of_ok B _ wb p hp fv _ _ mn kn (rnL kn mn) (rnL 0 kn) _ hS.inv (Nat.le_refl _) hf (by rw [rnL_length]; exact hX) (by rw [rnL_length]; exact hY) ⟨by rw [rnL_length]; simp only [maxLen]; omega, by rw [rnL_length]; simp only [maxLen]; omega⟩) ?_; clear hF a; intro v w' a hv hF
    obtain ⟨ob, u, rfl, hMO, hS'⟩ := hv
    replace hMO := hMO.le hS.ext.size (Nat.zero_le _)
    replace hS := hS.trans hS'
    clear hS'
    refine sv4 hF (v_ext rfl rfl) (v_ext rfl rfl) (v_assign rfl) (v_assign rfl) rfl rfl rfl rfl ?_; clear hF a; intro a hF
    refine WL_nil (hK _ _ ?_)
    clear hK K
    replace hF := hF.sub _ (c_ 7 rfl (c_ 6 rfl (n_)))
    refine W_ret ?_
    refine ⟨_, _, _, hF, rfl, rfl, ?_⟩
    rw [show cisaM hp (kn : Int) (mn : Int) = ofM hp (rnL kn mn) (rnL 0 kn) by unfold cisaM; rw [if_pos hb]; rfl]
    exact ⟨_, _, rfl, hMO, hS⟩

end Go.Proofs.Ytaeljbdpjiciaaa

/- Ranges over functions whose rounds turn nothing that was there: an iterator's contract; the statement's rule, in no round's frame and in a round's; a round that is handed on within a region whose order is open; a function's end with marks, its results in cells. No program in sight. -/
set_option linter.unusedVariables false
set_option linter.unusedSimpArgs false
set_option linter.unusedSectionVars false
namespace Go.Gam
open Go

theorem Xt.mono {D : FD} {B n n' : Nat} {w w' : World} (h : Xt D B n w w') (hn : n' ≤ n) : Xt D B n' w w' :=
  ⟨h.os, h.tape, h.output, h.size, fun k hk hc => h.keep k hk (hc.imp (fun h => Nat.lt_of_lt_of_le h hn) id), h.fld, h.priv, h.made, h.inv⟩
/-- What is no row and lies below n stays. -/
theorem Xt.oth {D : FD} {B n : Nat} {w w' : World} (h : Xt D B n w w') {k : Nat} {o : Obj} (hk : w.heap[k]? = some o) (ho : o.isCells = false) (hn : k < n) : w'.heap[k]? = some o :=
  (h.keep k (heap_lt hk) (.inl hn) (.inr (notT_nc hk ho))).trans hk
/-- A whole round: the loop's record is as it was, and so is all else. -/
theorem St.round {D : FD} {B : Nat} {A A2 A' : World} {l : Nat} {o1 o2 : Obj} (h : St D B A A2) (h2 : St D B (A2.putObj l o1) A') (hl : A.heap[l]? = some o2) (ho2 : o2.isCells = false) (ho1 : o1.isCells = false) : St D B A (A'.putObj l o2) := by
  have hl2 : A2.heap[l]? = some o2 := (h.z (Z := fun _ => False)).ext.oth l o2 hl ho2
  have hs := sameC_put hl2 ho2 ho1
  have hl3 : (A2.putObj l o1).heap[l]? = some o1 := World.putObj_heap_same (heap_lt hl2)
  have hl4 : A'.heap[l]? = some o1 := (h2.z (Z := fun _ => False)).ext.oth l o1 hl3 ho1
  have hs4 := sameC_put hl4 ho1 ho2
  refine ⟨⟨h2.ext.os.trans h.ext.os, h2.ext.tape.trans h.ext.tape, h2.ext.output.trans h.ext.output, ?_, fun k hk hc => ?_, fun k wb p hf => hs4.fok (h2.ext.fld k wb p (hs.fok (h.ext.fld k wb p hf))),
    fun b hb hp => hs4.priv (h2.ext.priv b (by have := h.ext.size; simp; omega) (hs.priv (h.ext.priv b hb hp))), fun k wb p e g hf => hs4.made (h2.ext.made k wb p e g (hs.made (h.ext.made k wb p e g hf)))⟩, hs4.inv (by simp) h2.inv⟩
  · have h1 := h.ext.size; have h3 := h2.ext.size; simp at h3 ⊢; omega
  · by_cases hne : k = l
    · subst hne
      rw [hl]
      exact World.putObj_heap_same (heap_lt hl4)
    · have e1 := h.ext.keep k hk hc
      have e2 : (A2.putObj l o1).heap[k]? = A.heap[k]? := (World.putObj_heap_other hne).trans e1
      have e3 := h2.ext.keep k (by have := h.ext.size; simp; omega) (hc.imp id (notT_of e2))
      exact (World.putObj_heap_other hne).trans (e3.trans e2)
/-- What is no row, from m on, stays, whatever else turns. -/
structure StO (D : FD) (B m : Nat) (w w' : World) : Prop where
  os : w'.os = w.os
  tape : w'.tape = w.tape
  output : w'.output = w.output
  size : w.heap.size ≤ w'.heap.size
  oth : ∀ (k : Nat) (o : Obj), m ≤ k → w.heap[k]? = some o → o.isCells = false → w'.heap[k]? = some o
  fld : ∀ k wb p, FOK D B w k wb p → FOK D B w' k wb p
  priv : ∀ b, b < w.heap.size → Priv D B w b → Priv D B w' b
  made : ∀ k wb p ge gl, Made D B w k wb p ge gl → Made D B w' k wb p ge gl
  inv : Inv D B w'
theorem StZ.o {D : FD} {B m : Nat} {Z : Nat → Prop} {w w' : World} (h : StZ D B Z w w') : StO D B m w w' :=
  ⟨h.ext.os, h.ext.tape, h.ext.output, h.ext.size, fun k o _ => h.ext.oth k o, h.ext.fld, h.ext.priv, h.ext.made, h.inv⟩
theorem St.o {D : FD} {B m : Nat} {w w' : World} (h : St D B w w') : StO D B m w w' := (h.z (Z := fun _ => False)).o
theorem StO.mono {D : FD} {B m m' : Nat} {w w' : World} (h : StO D B m w w') (hm : m ≤ m') : StO D B m' w w' :=
  ⟨h.os, h.tape, h.output, h.size, fun k o hk => h.oth k o (Nat.le_trans hm hk), h.fld, h.priv, h.made, h.inv⟩
theorem StO.trans {D : FD} {B m : Nat} {a b c : World} (h : StO D B m a b) (k : StO D B m b c) : StO D B m a c :=
  ⟨k.os.trans h.os, k.tape.trans h.tape, k.output.trans h.output, Nat.le_trans h.size k.size, fun i o hi h1 h2 => k.oth i o hi (h.oth i o hi h1 h2) h2,
    fun i wb p hf => k.fld i wb p (h.fld i wb p hf), fun b hb hp => k.priv b (Nat.lt_of_lt_of_le hb h.size) (h.priv b hb hp), fun i wb p e l hf => k.made i wb p e l (h.made i wb p e l hf), k.inv⟩
theorem StO.xt {D : FD} {B m n : Nat} {a b c : World} (h : StO D B m a b) (k : Xt D B n b c) (hn : a.heap.size ≤ n) : StO D B m a c :=
  ⟨k.os.trans h.os, k.tape.trans h.tape, k.output.trans h.output, Nat.le_trans h.size k.size, fun i o hi h1 h2 => k.oth (h.oth i o hi h1 h2) h2 (by have := heap_lt h1; omega),
    fun i wb p hf => k.fld i wb p (h.fld i wb p hf), fun b hb hp => k.priv b (Nat.lt_of_lt_of_le hb h.size) (h.priv b hb hp), fun i wb p e l hf => k.made i wb p e l (h.made i wb p e l hf), k.inv⟩
theorem StO.put {D : FD} {B m : Nat} {w A : World} {l : Nat} {o o' : Obj} (h : StO D B m w A) (hl : A.heap[l]? = some o) (ho : o.isCells = false) (ho' : o'.isCells = false) (hn : l < m) : StO D B m w (A.putObj l o') := by
  have hs := sameC_put hl ho ho'
  exact ⟨h.os, h.tape, h.output, by simpa using h.size, fun k o1 hk h1 h2 => (World.putObj_heap_other (show k ≠ l by omega)).trans (h.oth k o1 hk h1 h2), fun k wb p hf => hs.fok (h.fld k wb p hf), fun b hb hp => hs.priv (h.priv b hb hp), fun k wb p e g hf => hs.made (h.made k wb p e g hf), hs.inv (by simp) h.inv⟩
/-- A step that changes a row. -/
theorem StO.mb {D : FD} {B m : Nat} {b : Option Nat} {w0 w w' : World} (hs : StO D B m w0 w) (h : Mb D B b w w') (hb : ∀ k, b = some k → ∃ c e fr, w.heap[k]? = some (.cells c e fr)) : StO D B m w0 w' :=
  hs.trans (StZ.o (Z := fun _ => True) (StZ.mb (StZ.refl hs.inv) h (fun k e => ⟨trivial, hb k e⟩)))
theorem Mk.o {D : FD} {B m n : Nat} {ds : List Nat} {w w' : World} (h : Mk n ds w) (hs : StO D B m w w') (hm : m ≤ n) : Mk n ds w' :=
  ⟨h.1, fun k hk => ⟨(h.2 k hk).1, hs.oth k _ (Nat.le_trans hm (h.2 k hk).1) (h.2 k hk).2 rfl⟩⟩
section
variable {P : Program}

/-- Function gf with lb captured, called with yield, hands over the elements xs, one behind the other, until a round has had enough. Rounds that go on turn nothing that was there. -/
def SeqS (P : Program) (D : FD) (B : Nat) {α : Type} (gf : FuncId) (lb : List Value) (enc : α → World → Value → Prop) (xs : List α) (w0 : World) : Prop :=
  ∀ (l : Nat) (J Jx : Nat → World → Prop) (W : World), St D B w0 W →
    (∀ i A C, J i A → Xt D B W.heap.size A C → J i C) → (∀ i A C, Jx i A → Xt D B W.heap.size A C → Jx i C) →
    (∀ i x v A, xs[i]? = some x → J i A → St D B W A → enc x A v → YieldOk P l v A fun b A' => (b = true ∧ J (i + 1) A' ∧ St D B A A') ∨ (b = false ∧ Jx (i + 1) A' ∧ StO D B W.heap.size A A')) →
    J 0 W → Calls P gf (#[.func (.yield l) #[] #[]] ++ lb.toArray) W fun e A' => ∃ v, e = .returned v ∧ ((J xs.length A' ∧ St D B W A') ∨ ∃ i, Jx i A')

variable {a : Act} {w : World} {N : Kont} {X : List (Nat × Kont)} {R : Kont}
/-- **A range over a function, in no round's frame.** -/
theorem W_rfS {D : FD} {B : Nat} {α : Type} {g : Operand} {p : Tmp} {assign body : Code} {n : NN} {F : Fs} {gf : FuncId} {lb : List Value} {enc : α → World → Value → Prop} {xs : List α}
    (J : Nat → World → Prop) (Jr : World → Prop) (G : Value → Act → World → Prop)
    (hF : Fr n F a) (hg : ev F g = some (.func (.func gf) #[] lb.toArray)) (hp : Nat.blt p n.n = true) (eg : Ent P gf) (hI : Inv D B w)
    (hseq : SeqS P D B gf lb enc xs w)
    (hJ : ∀ i A C, J i A → Xt D B w.heap.size A C → J i C) (hJr : ∀ A C, Jr A → Xt D B w.heap.size A C → Jr C) (hG : ∀ v a A C, G v a A → Xt D B w.heap.size A C → G v a C)
    (hE : ∀ x v A C, enc x A v → Xt D B w.heap.size A C → enc x C v) (h0 : J 0 w)
    (hassign : ∀ l i x v A a', xs[i]? = some x → J i A → St D B w A → enc x A v → Fr ⟨n.n, []⟩ ((p, v) :: F) a' → WI P (some l) assign (fun a2 A2 => St D B A A2 ∧ G v a2 A2) [] (fun _ _ => False) a' A)
    (hbody : ∀ l i x v A a2, (∃ r, A.heap[l]? = some (.loop r)) → xs[i]? = some x → J i A → St D B w A → enc x A v → G v a2 A → WI P (some l) body (fun _ A' => J (i + 1) A' ∧ St D B A A') [] (fun _ A' => Jr A' ∧ StO D B w.heap.size A A') a2 A)
    (hdone : ∀ a' W, Fr ⟨n.n, w.heap.size :: n.ds⟩ F a' → W.heap[w.heap.size]? = some (.deferred (some [])) → J xs.length W → St D B w W → N a' W)
    (hret : ∀ a' W, Fr ⟨n.n, w.heap.size :: n.ds⟩ F a' → W.heap[w.heap.size]? = some (.deferred (some [])) → Jr W → Inv D B W → R a' W) :
    W P (.rangeFunc g #[p] assign body) N X R a w := by
  refine W_of (wpIn_rangeFunc fun fn _ => ?_)
  obtain ⟨rec, hrec⟩ : ∃ rec : LoopState → Option Code → Loop, rec = fun st pe => { state := st, pending := pe, fn, tmps := a.tmps, params := #[p], assign, body, defers := w.heap.size } := ⟨_, rfl⟩
  obtain ⟨W1, hW1⟩ : ∃ W1, (w.alloc (.deferred (some []))).alloc (.loop (rec .ready none)) = W1 := ⟨_, rfl⟩
  have hs0 : St D B w (w.alloc (.deferred (some []))) := St.new hI rfl
  have hs1 : St D B w W1 := by rw [← hW1]; exact hs0.trans (St.new hs0.inv rfl)
  have hL1 : W1.heap[w.heap.size + 1]? = some (.loop (rec .ready none)) := by
    rw [← hW1]; have := World.alloc_heap_new (w.alloc (.deferred (some []))) (.loop (rec .ready none)); rwa [World.size_alloc] at this
  have hK1 : W1.heap[w.heap.size]? = some (.deferred (some [])) := by
    rw [← hW1]; exact (RowKit.Below.heap_alloc _ _ _ (by simp)).trans (World.alloc_heap_new w _)
  have hz1 : W1.heap.size = w.heap.size + 2 := by rw [← hW1]; simp
  refine ⟨(w.heap.size + 1), [{ target := .collected w.heap.size, args := #[] }], W1, { target := .fn (.func gf) lb.toArray, args := #[.func (.yield (w.heap.size + 1)) #[] #[]] }, W1, gf,
    #[.func (.yield (w.heap.size + 1)) #[] #[]] ++ lb.toArray, W1, ?_, ?_, fun _ _ => trivial, ?_, fun hd => by simp [FW, Fence.wide] at hd, ?_⟩
  · rw [← hW1, hrec]; exact run_enterLoop_outer _ _ _ _ _
  · have := hF.reads g _ hg
    simp [resolve, rangeCall, Deferred.ofValue, Act.eval] at this ⊢
    simp [this]
  · have := eg (#[.func (.yield (w.heap.size + 1)) #[] #[]] ++ lb.toArray) W1
    simp [invoke] at this ⊢
    exact this
  · refine callsIn_wide.2 ?_
    have key := hseq (w.heap.size + 1) (fun i A => J i A ∧ Inv D B A ∧ A.heap[(w.heap.size + 1)]? = some (.loop (rec .ready none)) ∧ A.heap[w.heap.size]? = some (.deferred (some [])))
      (fun i A => Jr A ∧ Inv D B A ∧ A.heap[(w.heap.size + 1)]? = some (.loop (rec .done (some .ret))) ∧ A.heap[w.heap.size]? = some (.deferred (some [])))
      W1 hs1
      (fun i A C ⟨h1, h2, h3, h4⟩ hs => ⟨hJ i A C h1 (hs.mono (by omega)), hs.inv, hs.oth h3 rfl (by omega), hs.oth h4 rfl (by omega)⟩)
      (fun i A C ⟨h1, h2, h3, h4⟩ hs => ⟨hJr A C h1 (hs.mono (by omega)), hs.inv, hs.oth h3 rfl (by omega), hs.oth h4 rfl (by omega)⟩) ?_ ⟨hJ 0 w W1 h0 hs1.xt, hs1.inv, hL1, hK1⟩
    · refine Calls.mono key ?_
      rintro e A' ⟨v, rfl, ⟨⟨h1, h2, h3, h4⟩, hz⟩ | ⟨i, h1, h2, h3, h4⟩⟩
      · refine ⟨none, _, by subst hrec; exact run_endLoop (P := P) h3 (by simp), ?_⟩
        have hx := Xt.put (n := w.heap.size) h2 (Nat.le_succ _) h3 rfl (o' := .loop { rec .ready none with state := .exhausted }) rfl
        refine hdone _ _ ⟨hF.size, by show _ :: a.defers = _; rw [hF.defers]; rfl, hF.val⟩ ?_ (hJ _ _ _ h1 (by subst hrec; exact hx)) ((hs1.trans hz).thenX (by subst hrec; exact hx) (Nat.le_refl _))
        exact (World.putObj_heap_other (by omega)).trans h4
      · refine ⟨some .ret, _, by subst hrec; exact run_endLoop (P := P) h3 (by simp), ?_⟩
        have hx := Xt.put (n := w.heap.size) h2 (Nat.le_succ _) h3 rfl (o' := .loop { rec .done (some .ret) with state := .exhausted }) rfl
        refine wpIn_ret (hret _ _ ⟨hF.size, by show _ :: a.defers = _; rw [hF.defers]; rfl, hF.val⟩ ?_ (hJr _ _ h1 (by subst hrec; exact hx)) (by subst hrec; exact hx.inv))
        exact (World.putObj_heap_other (by omega)).trans h4
    · rintro i x v A hx ⟨h1, h2, h3, h4⟩ hz he
      have hy := run_yield (P := P) (args := #[v]) h3 (by subst hrec; rfl)
      replace hy : (Instr.yield (w.heap.size + 1) #[v]).run P A = .ok (.round (w.heap.size + 1) fn (a.tmps.setIfInBounds p v) assign body) A := by subst hrec; simpa using hy
      refine ⟨fn, _, assign, body, hy, roundIn_of_wpIn trivial ?_⟩
      have hfr : Fr ⟨n.n, []⟩ ((p, v) :: F) { tmps := a.tmps.setIfInBounds p v, defers := [] } := by
        have := Fr.put (n := ⟨n.n, []⟩) (F := F) (a := { tmps := a.tmps, defers := [] }) (d := p) (v := v) ⟨hF.size, rfl, hF.val⟩ hp
        exact this
      have hzA : St D B w A := hs1.trans hz
      refine wpIn_mono (hassign (w.heap.size + 1) i x v A { tmps := a.tmps.setIfInBounds p v, defers := [] } hx h1 hzA he hfr) ?_
      rintro e a2 A2 hq
      cases e with
      | normal =>
        obtain ⟨hs2, hg2⟩ : St D B A A2 ∧ G v a2 A2 := hq
        have hl2 : A2.heap[(w.heap.size + 1)]? = some (.loop (rec .ready none)) := (hs2.z (Z := fun _ => False)).ext.oth _ _ h3 rfl
        have hx2 := Xt.put (n := w.heap.size) hs2.inv (Nat.le_succ _) hl2 rfl (o' := .loop { rec .ready none with state := .busy }) rfl
        have hb3 : (A2.putObj (w.heap.size + 1) (.loop { rec .ready none with state := .busy })).heap[(w.heap.size + 1)]? = some (.loop { rec .ready none with state := .busy }) := World.putObj_heap_same (heap_lt hl2)
        refine ⟨_, run_beginRound hl2 (by subst hrec; rfl), ?_⟩
        have hd3 : (A2.putObj (w.heap.size + 1) (.loop { rec .ready none with state := .busy })).heap[w.heap.size]? = some (.deferred (some [])) := (World.putObj_heap_other (by omega)).trans ((hs2.z (Z := fun _ => False)).ext.oth _ _ h4 rfl)
        refine wpIn_mono (hbody (w.heap.size + 1) i x v _ a2 ⟨_, hb3⟩ hx (hJ _ _ _ (hJ _ _ _ h1 hs2.xt) hx2) ((hzA.trans hs2).thenX hx2 (Nat.le_refl _)) (hE _ _ _ _ (hE _ _ _ _ he hs2.xt) hx2) (hG _ _ _ _ hg2 hx2)) ?_
        rintro e' a3 A' hq'
        cases e' with
        | normal =>
          obtain ⟨j1, j2⟩ : J (i + 1) A' ∧ St D B (A2.putObj (w.heap.size + 1) (.loop { rec .ready none with state := .busy })) A' := hq'
          have hl' := (j2.z (Z := fun _ => False)).ext.oth _ _ hb3 rfl
          have hx4 := Xt.put (n := w.heap.size) j2.inv (Nat.le_succ _) hl' rfl (o' := .loop (rec .ready none)) rfl
          refine ⟨_, _, run_endRound none hl', true, rfl, .inl ⟨rfl, ⟨?_, ?_, ?_, ?_⟩, ?_⟩⟩
          · subst hrec; exact hJ _ _ _ j1 hx4
          · subst hrec; exact hx4.inv
          · subst hrec; exact World.putObj_heap_same (heap_lt hl')
          · exact (World.putObj_heap_other (by omega)).trans ((j2.z (Z := fun _ => False)).ext.oth _ _ hd3 rfl)
          · subst hrec; exact St.round hs2 j2 h3 rfl rfl
        | ret =>
          obtain ⟨j1, j2⟩ : Jr A' ∧ StO D B w.heap.size (A2.putObj (w.heap.size + 1) (.loop { rec .ready none with state := .busy })) A' := hq'
          have hl' := j2.oth _ _ (Nat.le_succ _) hb3 rfl
          have hx4 := Xt.put (n := w.heap.size) j2.inv (Nat.le_succ _) hl' rfl (o' := .loop (rec .done (some .ret))) rfl
          refine ⟨_, _, run_endRound (some .ret) hl', false, rfl, .inr ⟨rfl, ⟨?_, ?_, ?_, ?_⟩, ?_⟩⟩
          · subst hrec; exact hJr _ _ j1 hx4
          · subst hrec; exact hx4.inv
          · subst hrec; exact World.putObj_heap_same (heap_lt hl')
          · exact (World.putObj_heap_other (by omega)).trans (j2.oth _ _ (Nat.le_refl _) hd3 rfl)
          · have hfirst : StO D B W1.heap.size A (A2.putObj (w.heap.size + 1) (.loop { rec .ready none with state := .busy })) := hs2.o.put hl2 rfl rfl (by omega)
            have := (hfirst.trans (j2.mono (by omega))).put hl' rfl (o' := .loop (rec .done (some .ret))) rfl (by omega)
            subst hrec; exact this
        | exit id => exact absurd hq' (by simp [Qof, lookX])
        | goto t => exact hq'.elim
        | panic c => exact hq'.elim
        | outgrown => exact hq'.elim
      | exit id => exact absurd hq (by simp [Qof, lookX])
      | ret => exact hq.elim
      | goto t => exact hq.elim
      | panic c => exact hq.elim
      | outgrown => exact hq.elim
/-- **A range over a function, in a round's frame.** -/
theorem Rd.W_rfS {D : FD} {B l0 : Nat} {α : Type} {g : Operand} {p : Tmp} {assign body : Code} {n : NN} {F : Fs} {gf : FuncId} {lb : List Value} {enc : α → World → Value → Prop} {xs : List α}
    (J : Nat → World → Prop) (Jr : World → Prop) (G : Value → Act → World → Prop) (hl0 : ∃ r, w.heap[l0]? = some (.loop r))
    (hF : Fr n F a) (hg : ev F g = some (.func (.func gf) #[] lb.toArray)) (hp : Nat.blt p n.n = true) (eg : Ent P gf) (hI : Inv D B w)
    (hseq : SeqS P D B gf lb enc xs w)
    (hJ : ∀ i A C, J i A → Xt D B w.heap.size A C → J i C) (hJr : ∀ A C, Jr A → Xt D B w.heap.size A C → Jr C) (hG : ∀ v a A C, G v a A → Xt D B w.heap.size A C → G v a C)
    (hE : ∀ x v A C, enc x A v → Xt D B w.heap.size A C → enc x C v) (h0 : J 0 w)
    (hassign : ∀ l i x v A a', xs[i]? = some x → J i A → St D B w A → enc x A v → Fr ⟨n.n, []⟩ ((p, v) :: F) a' → WI P (some l) assign (fun a2 A2 => St D B A A2 ∧ G v a2 A2) [] (fun _ _ => False) a' A)
    (hbody : ∀ l i x v A a2, (∃ r, A.heap[l]? = some (.loop r)) → xs[i]? = some x → J i A → St D B w A → enc x A v → G v a2 A → WI P (some l) body (fun _ A' => J (i + 1) A' ∧ St D B A A') [] (fun _ A' => Jr A' ∧ StO D B w.heap.size A A') a2 A)
    (hdone : ∀ a' W, Fr n F a' → J xs.length W → St D B w W → N a' W)
    (hret : ∀ a' W, Fr n F a' → Jr W → Inv D B W → R a' W) :
    WI P (some l0) (.rangeFunc g #[p] assign body) N X R a w := by
  obtain ⟨r0, hl0⟩ := hl0
  refine wpIn_rangeFunc fun fn _ => ?_
  obtain ⟨rec, hrec⟩ : ∃ rec : LoopState → Option Code → Loop, rec = fun st pe => { state := st, pending := pe, fn, tmps := a.tmps, params := #[p], assign, body, defers := r0.defers } := ⟨_, rfl⟩
  obtain ⟨W1, hW1⟩ : ∃ W1, w.alloc (.loop (rec .ready none)) = W1 := ⟨_, rfl⟩
  have hs1 : St D B w W1 := by rw [← hW1]; exact St.new hI rfl
  have hL1 : W1.heap[w.heap.size]? = some (.loop (rec .ready none)) := by rw [← hW1]; exact World.alloc_heap_new w _
  have hz1 : W1.heap.size = w.heap.size + 1 := by rw [← hW1]; simp
  refine ⟨w.heap.size, [], W1, { target := .fn (.func gf) lb.toArray, args := #[.func (.yield w.heap.size) #[] #[]] }, W1, gf,
    #[.func (.yield w.heap.size) #[] #[]] ++ lb.toArray, W1, ?_, ?_, fun _ _ => trivial, ?_, fun hd => by simp [FW, Fence.wide] at hd, ?_⟩
  · rw [← hW1, hrec]; exact run_enterLoop_inner hl0 _ _ _ _ _
  · have := hF.reads g _ hg
    simp [resolve, rangeCall, Deferred.ofValue, Act.eval] at this ⊢
    simp [this]
  · have := eg (#[.func (.yield w.heap.size) #[] #[]] ++ lb.toArray) W1
    simp [invoke] at this ⊢
    exact this
  · refine callsIn_wide.2 ?_
    have key := hseq w.heap.size (fun i A => J i A ∧ Inv D B A ∧ A.heap[w.heap.size]? = some (.loop (rec .ready none)))
      (fun i A => Jr A ∧ Inv D B A ∧ A.heap[w.heap.size]? = some (.loop (rec .done (some .ret))))
      W1 hs1
      (fun i A C ⟨h1, h2, h3⟩ hs => ⟨hJ i A C h1 (hs.mono (by omega)), hs.inv, hs.oth h3 rfl (by omega)⟩)
      (fun i A C ⟨h1, h2, h3⟩ hs => ⟨hJr A C h1 (hs.mono (by omega)), hs.inv, hs.oth h3 rfl (by omega)⟩) ?_ ⟨hJ 0 w W1 h0 hs1.xt, hs1.inv, hL1⟩
    · refine Calls.mono key ?_
      rintro e A' ⟨v, rfl, ⟨⟨h1, h2, h3⟩, hz⟩ | ⟨i, h1, h2, h3⟩⟩
      · refine ⟨none, _, by subst hrec; exact run_endLoop (P := P) h3 (by simp), ?_⟩
        have hx := Xt.put (n := w.heap.size) h2 (Nat.le_refl _) h3 rfl (o' := .loop { rec .ready none with state := .exhausted }) rfl
        exact hdone _ _ ⟨hF.size, by show a.defers = _; exact hF.defers, hF.val⟩ (hJ _ _ _ h1 (by subst hrec; exact hx)) ((hs1.trans hz).thenX (by subst hrec; exact hx) (Nat.le_refl _))
      · refine ⟨some .ret, _, by subst hrec; exact run_endLoop (P := P) h3 (by simp), ?_⟩
        have hx := Xt.put (n := w.heap.size) h2 (Nat.le_refl _) h3 rfl (o' := .loop { rec .done (some .ret) with state := .exhausted }) rfl
        refine wpIn_ret (hret _ _ ⟨hF.size, by show a.defers = _; exact hF.defers, hF.val⟩ (hJr _ _ h1 (by subst hrec; exact hx)) (by subst hrec; exact hx.inv))
    · rintro i x v A hx ⟨h1, h2, h3⟩ hz he
      have hy := run_yield (P := P) (args := #[v]) h3 (by subst hrec; rfl)
      replace hy : (Instr.yield w.heap.size #[v]).run P A = .ok (.round w.heap.size fn (a.tmps.setIfInBounds p v) assign body) A := by subst hrec; simpa using hy
      refine ⟨fn, _, assign, body, hy, roundIn_of_wpIn trivial ?_⟩
      have hfr : Fr ⟨n.n, []⟩ ((p, v) :: F) { tmps := a.tmps.setIfInBounds p v, defers := [] } := by
        have := Fr.put (n := ⟨n.n, []⟩) (F := F) (a := { tmps := a.tmps, defers := [] }) (d := p) (v := v) ⟨hF.size, rfl, hF.val⟩ hp
        exact this
      have hzA : St D B w A := hs1.trans hz
      refine wpIn_mono (hassign w.heap.size i x v A { tmps := a.tmps.setIfInBounds p v, defers := [] } hx h1 hzA he hfr) ?_
      rintro e a2 A2 hq
      cases e with
      | normal =>
        obtain ⟨hs2, hg2⟩ : St D B A A2 ∧ G v a2 A2 := hq
        have hl2 : A2.heap[w.heap.size]? = some (.loop (rec .ready none)) := (hs2.z (Z := fun _ => False)).ext.oth _ _ h3 rfl
        have hx2 := Xt.put (n := w.heap.size) hs2.inv (Nat.le_refl _) hl2 rfl (o' := .loop { rec .ready none with state := .busy }) rfl
        have hb3 : (A2.putObj w.heap.size (.loop { rec .ready none with state := .busy })).heap[w.heap.size]? = some (.loop { rec .ready none with state := .busy }) := World.putObj_heap_same (heap_lt hl2)
        refine ⟨_, run_beginRound hl2 (by subst hrec; rfl), ?_⟩
        refine wpIn_mono (hbody w.heap.size i x v _ a2 ⟨_, hb3⟩ hx (hJ _ _ _ (hJ _ _ _ h1 hs2.xt) hx2) ((hzA.trans hs2).thenX hx2 (Nat.le_refl _)) (hE _ _ _ _ (hE _ _ _ _ he hs2.xt) hx2) (hG _ _ _ _ hg2 hx2)) ?_
        rintro e' a3 A' hq'
        cases e' with
        | normal =>
          obtain ⟨j1, j2⟩ : J (i + 1) A' ∧ St D B (A2.putObj w.heap.size (.loop { rec .ready none with state := .busy })) A' := hq'
          have hl' := (j2.z (Z := fun _ => False)).ext.oth _ _ hb3 rfl
          have hx4 := Xt.put (n := w.heap.size) j2.inv (Nat.le_refl _) hl' rfl (o' := .loop (rec .ready none)) rfl
          refine ⟨_, _, run_endRound none hl', true, rfl, .inl ⟨rfl, ⟨?_, ?_, ?_⟩, ?_⟩⟩
          · subst hrec; exact hJ _ _ _ j1 hx4
          · subst hrec; exact hx4.inv
          · subst hrec; exact World.putObj_heap_same (heap_lt hl')
          · subst hrec; exact St.round hs2 j2 h3 rfl rfl
        | ret =>
          obtain ⟨j1, j2⟩ : Jr A' ∧ StO D B w.heap.size (A2.putObj w.heap.size (.loop { rec .ready none with state := .busy })) A' := hq'
          have hl' := j2.oth _ _ (Nat.le_refl _) hb3 rfl
          have hx4 := Xt.put (n := w.heap.size) j2.inv (Nat.le_refl _) hl' rfl (o' := .loop (rec .done (some .ret))) rfl
          refine ⟨_, _, run_endRound (some .ret) hl', false, rfl, .inr ⟨rfl, ⟨?_, ?_, ?_⟩, ?_⟩⟩
          · subst hrec; exact hJr _ _ j1 hx4
          · subst hrec; exact hx4.inv
          · subst hrec; exact World.putObj_heap_same (heap_lt hl')
          · have hfirst : StO D B W1.heap.size A (A2.putObj w.heap.size (.loop { rec .ready none with state := .busy })) := hs2.o.put hl2 rfl rfl (by omega)
            have := (hfirst.trans (j2.mono (by omega))).put hl' rfl (o' := .loop (rec .done (some .ret))) rfl (by omega)
            subst hrec; exact this
        | exit id => exact absurd hq' (by simp [Qof, lookX])
        | goto t => exact hq'.elim
        | panic c => exact hq'.elim
        | outgrown => exact hq'.elim
      | exit id => exact absurd hq (by simp [Qof, lookX])
      | ret => exact hq.elim
      | goto t => exact hq.elim
      | panic c => exact hq.elim
      | outgrown => exact hq.elim

/-! ### a function's end, with marks, its results in cells -/
theorem leavesMC {D : FD} {B m : Nat} {fn : Func} {tmps : Array Value} {v : Value} {Q : Value → World → Prop} : ∀ (ds : List Nat) (w : World), Mk m ds w → Inv D B w → (∀ w2, Xt D B m w w2 → (results fn tmps).run P w2 = .ok v w2) → (∀ w2, Xt D B m w w2 → Q v w2) →
    LeavesInM Fence.wide 0 P fn tmps (fun e w' => ∃ u, e = .returned u ∧ Q u w') (ds.map dmark) .returning w
  | [], w, _, hI, hr, hq => ⟨v, hr w (Xt.refl hI), v, rfl, hq w (Xt.refl hI)⟩
  | d :: ds, w, hM, hI, hr, hq => by
    obtain ⟨h1, h2⟩ := hM.2 d (by simp)
    have hx := Xt.put (n := m) hI h1 h2 rfl (o' := .deferred none) rfl
    refine ⟨by simp, .inl ⟨d, w.putObj d (.deferred none), rfl, run_takeDeferred h2, leavesMC ds _ ⟨(List.nodup_cons.1 hM.1).2, fun k hk => ?_⟩ hx.inv (fun w2 h => hr w2 (hx.trans h)) (fun w2 h => hq w2 (hx.trans h))⟩⟩
    have hne : k ≠ d := fun e => (List.nodup_cons.1 hM.1).1 (e ▸ hk)
    exact ⟨(hM.2 k (by simp [hk])).1, (World.putObj_heap_other hne).trans (hM.2 k (by simp [hk])).2⟩

theorem enterMGC {D : FD} {B : Nat} {f : FuncId} {fn : Func} {c : Code} {vs : List Value} {Q : Value → World → Prop} {n : NN} {F : Fs} (m : Nat) (E : Kont) (hf : P.funcs[f]? = some fn) (hb : fn.body = some c) (hn : n = ⟨fn.ntmps, []⟩) (hle : Nat.ble vs.length n.n = true) (hF : F = idx vs 0)
    (hE : ∀ a w, E a w → ∃ ds v, a.defers = ds.map dmark ∧ Mk m ds w ∧ Inv D B w ∧ (∀ w2, Xt D B m w w2 → (results fn a.tmps).run P w2 = .ok v w2) ∧ ∀ w2, Xt D B m w w2 → Q v w2) (h : ∀ a, Fr n F a → W P c E [] E a w) : Ret P f vs w Q := by
  refine callsIn_wide.1 (callsIn_of_wp_marks (F := Fence.wide) (n := 0) hf hb trivial (wpIn_mono (WI_of (h _ ⟨by have := Nat.le_of_ble_eq_true hle; subst hn; simp at this ⊢; omega, by subst hn; rfl, fun i v hv => ?_⟩)) ?_) rfl)
  · rw [hF] at hv
    obtain ⟨k, hk, h1⟩ := look_idx vs 0 i v hv
    rw [show i = k from by omega]
    have h2 : k < vs.length := (List.getElem?_eq_some_iff.1 h1).1
    rw [Array.getElem?_append_left (by simpa using h2)]
    simpa using h1
  · intro e a w hq
    have key : ∀ a w, E a w → LeavesInM Fence.wide 0 P fn a.tmps (fun e w' => ∃ u, e = .returned u ∧ Q u w') a.defers .returning w := fun a w he => by
      obtain ⟨ds, v, h1, h2, h3, h4, h5⟩ := hE a w he
      rw [h1]
      exact leavesMC ds w h2 h3 h4 h5
    cases e with
    | normal => exact key a w hq
    | ret => exact key a w hq
    | exit i => simp [Qof, lookX] at hq
    | goto l => exact hq.elim
    | panic c => exact hq.elim
    | outgrown => exact hq.elim
/-- A function's end: two results, read from cells that stay. -/
abbrev EMC (P : Program) (D : FD) (B m : Nat) (n : NN) (t ty s sy : Nat) (Q : Value → World → Prop) : Kont := fun a w =>
  ∃ ds F' g k v u, Mk m ds w ∧ Inv D B w ∧ Fr ⟨n.n, ds⟩ F' a ∧ look F' t = some (.pointer (some g)) ∧ look F' s = some (.pointer (some k)) ∧ (∀ w2, Xt D B m w w2 → (loadVar ty g).run P w2 = .ok v w2 ∧ (loadVar sy k).run P w2 = .ok u w2 ∧ Q (.tuple #[v, u]) w2)
theorem enterMCC {D : FD} {B : Nat} {f : FuncId} {fn : Func} {c : Code} {vs : List Value} {Q : Value → World → Prop} (m : Nat) (n : NN) (F : Fs) (t ty s sy : Nat) (hf : P.funcs[f]? = some fn) (hb : fn.body = some c) (hn : n = ⟨fn.ntmps, []⟩) (hr : fn.results = #[.cell t ty, .cell s sy]) (hle : Nat.ble vs.length n.n = true) (hF : F = idx vs 0)
    (h : ∀ a, Fr n F a → W P c (EMC P D B m n t ty s sy Q) [] (EMC P D B m n t ty s sy Q) a w) : Ret P f vs w Q := by
  refine enterMGC (D := D) (B := B) m _ hf hb hn hle hF (fun a w he => ?_) h
  obtain ⟨ds, F', g, k, v, u, hM, hI, hF', hl, hk, hq⟩ := he
  have hv := hF'.val t _ hl
  have hu := hF'.val s _ hk
  refine ⟨ds, _, hF'.defers, hM, hI, fun w2 hx => ?_, fun w2 hx => (hq w2 hx).2.2⟩
  obtain ⟨e1, e2, -⟩ := hq w2 hx
  simp [results, hr, Array.getD_eq_getD_getElem?, hv, hu, asAddr, e1, e2]
theorem enterM0 {D : FD} {B : Nat} {f : FuncId} {fn : Func} {c : Code} {vs : List Value} {Q : Value → World → Prop} (m : Nat) (n : NN) (F : Fs) (hf : P.funcs[f]? = some fn) (hb : fn.body = some c) (hn : n = ⟨fn.ntmps, []⟩) (hr : fn.results = #[]) (hle : Nat.ble vs.length n.n = true) (hF : F = idx vs 0)
    (h : ∀ a, Fr n F a → W P c (fun a w => ∃ ds F', Mk m ds w ∧ Inv D B w ∧ Fr ⟨n.n, ds⟩ F' a ∧ ∀ w2, Xt D B m w w2 → Q (.tuple #[]) w2) [] (fun a w => ∃ ds F', Mk m ds w ∧ Inv D B w ∧ Fr ⟨n.n, ds⟩ F' a ∧ ∀ w2, Xt D B m w w2 → Q (.tuple #[]) w2) a w) : Ret P f vs w Q := by
  refine enterMGC (D := D) (B := B) m _ hf hb hn hle hF (fun a w ⟨ds, F', hM, hI, hF', hq⟩ => ⟨ds, _, hF'.defers, hM, hI, fun w2 _ => ?_, hq⟩) h
  simp [results, hr]

/-! ### a region whose order is open, in a frame of a round -/
/-- What is still to come. -/
def WAI (P : Program) (r : Option Nat) (ops : Array Oper) (K : Kont) (fuel : Nat) (L : Array Bool) (a : Act) (w : World) : Prop := wpAnyIn (FW r) 0 P .any ops (Qof K [] (fun _ _ => False)) fuel L a w
section
variable {r : Option Nat} {ops : Array Oper} {K : Kont} {rest : List Oper} {n : NN} {F : Fs} {op : Op} {T : TypeId} {pp : String} {af : Array Edge} {v : Value} {d fuel : Nat} {L : Array Bool}
theorem Rd.W_sdI {D : FD} {B : Nat} {id m : Nat} {y : Code} (hsz : ops.size = m) (hm : P.follows .mixedOrders = true) (hI : Inv D B w)
    (h : ∀ K : Kont, (∀ a w, WI P r y N X R a w → K a w) → ∀ w', St D B w w' → w'.heap = w.heap → WAI P r ops K m (Array.replicate m false) a w') : WI P r (.seq (.region id ops true) y) N X R a w := by
  subst hsz
  refine Rd.W_seq (wpIn_mono (wpIn_region_any hm (h _ (fun _ _ h => h) { w with drawn := w.drawn + 1 } ⟨ext_drew D B w, hI⟩ rfl)) Rd.qof_reg)
theorem uponIn_congr {o : Oper} {a : Act} {next : Act → World → Prop} {K K' : Kont} {x : Result Next} (h : o.uponIn (FW r) 0 P a next (Qof K [] (fun _ _ => False)) x) : o.uponIn (FW r) 0 P a next (Qof K' [] (fun _ _ => False)) x := by
  have hno : ∀ K : Kont, ¬ LetsOut (Qof K [] (fun _ _ => False)) := fun K ⟨_, _, h⟩ => h
  cases x with
  | ok nx w' =>
    cases nx <;> simp only [Oper.uponIn] at h ⊢ <;> first
      | exact h
      | exact ⟨h.1, CallsIn.mono h.2 (fun e w'' he => by cases e <;> first | exact he | exact (he : False).elim | exact absurd he (hno _))⟩
      | exact ⟨h.1, RoundIn.mono h.2 (fun e w'' he => by cases e <;> first | exact he | exact (he : False).elim | exact absurd he (hno _))⟩
  | halt x w' => cases x <;> simp only [Oper.uponIn] at h ⊢ <;> exact h
theorem opI_of {i : Nat} {o : Oper} {M : Kont} (hi : nth ops.toList i = some o) (h : WLI P r ops M [o] a w) : wpOpIn (FW r) 0 P ops (Qof K [] (fun _ _ => False)) i M a w := by
  rw [nth_eq, Array.getElem?_toList] at hi
  unfold wpOpIn
  simp only [hi]
  unfold WLI wpListIn at h
  split
  · rename_i hw
    rw [if_pos hw] at h
    exact ⟨h.1, uponIn_congr (K := M) h.2⟩
  · rename_i hw
    rw [if_neg hw] at h
    exact h
/-- Number i is the only one that may come. -/
theorem ai_1 {i : Nat} {o : Oper} (hr : Region.ready .any ops L = [i]) (hi : nth ops.toList i = some o) (h : WLI P r ops (WAI P r ops K fuel (L.setIfInBounds i true)) [o] a w) : WAI P r ops K (fuel + 1) L a w :=
  wpAnyIn_all hr (by simp) fun j hj => by
    obtain rfl : j = i := by simpa using hj
    exact opI_of hi h
/-- Numbers i, j may come. -/
theorem ai_2 {i j : Nat} {o o' : Oper} (hr : Region.ready .any ops L = [i, j]) (hi : nth ops.toList i = some o) (hj : nth ops.toList j = some o') (h : WLI P r ops (WAI P r ops K fuel (L.setIfInBounds i true)) [o] a w) (h' : WLI P r ops (WAI P r ops K fuel (L.setIfInBounds j true)) [o'] a w) : WAI P r ops K (fuel + 1) L a w :=
  wpAnyIn_all hr (by simp) fun k hk => by
    rcases List.mem_cons.1 hk with rfl | hk
    · exact opI_of hi h
    · obtain rfl : k = j := by simpa using hk
      exact opI_of hj h'
/-- Numbers i, j, k may come. -/
theorem ai_3 {i j l : Nat} {o o' o2 : Oper} (hr : Region.ready .any ops L = [i, j, l]) (hi : nth ops.toList i = some o) (hj : nth ops.toList j = some o') (hl : nth ops.toList l = some o2) (h : WLI P r ops (WAI P r ops K fuel (L.setIfInBounds i true)) [o] a w) (h' : WLI P r ops (WAI P r ops K fuel (L.setIfInBounds j true)) [o'] a w) (h2 : WLI P r ops (WAI P r ops K fuel (L.setIfInBounds l true)) [o2] a w) : WAI P r ops K (fuel + 1) L a w :=
  wpAnyIn_all hr (by simp) fun k hk => by
    rcases List.mem_cons.1 hk with rfl | hk
    · exact opI_of hi h
    · rcases List.mem_cons.1 hk with rfl | hk
      · exact opI_of hj h'
      · obtain rfl : k = l := by simpa using hk
        exact opI_of hl h2
theorem ai_done (hr : Region.ready .any ops L = []) (h : K a w) : WAI P r ops K fuel L a w := wpAnyIn_done hr h fuel
theorem wli_nil (h : K a w) : WLI P r ops K [] a w := h
end
end
end Go.Gam

/- Rows of inverses: any of them, of as many columns, have an inverse. Choices of numbers that rise; rows that are safe. No program in sight. -/
set_option linter.unusedVariables false
set_option linter.unusedSimpArgs false
set_option linter.unusedSectionVars false
namespace Go.Gam
open Px

namespace Fld
variable (F : Fld)
end Fld

theorem zints_one (l : List Int) : ∀ u ∈ zints l, u.oneCell' = true := by
  intro u hu
  unfold zints at hu
  obtain ⟨_, _, rfl⟩ := List.mem_map.1 hu
  rfl
/-! ### choices -/
/-- All choices of m of the numbers from fr on, below to: rising, in their order. -/
def ch (to : Nat) : Nat → Nat → List (List Nat)
  | 0, _ => [[]]
  | m + 1, fr => ((List.range (to - m - fr)).map fun d => (ch to m (fr + d + 1)).map fun l => (fr + d) :: l).flatten
/-- The first i of the beginnings. -/
def chP (to m fr i : Nat) : List (List Nat) := ((List.range i).map fun d => (ch to m (fr + d + 1)).map fun l => (fr + d) :: l).flatten
theorem ch_P (to m fr : Nat) : ch to (m + 1) fr = chP to m fr (to - m - fr) := rfl
theorem chP_succ (to m fr i : Nat) : chP to m fr (i + 1) = chP to m fr i ++ (ch to m (fr + i + 1)).map fun l => (fr + i) :: l := by
  unfold chP; rw [List.range_succ, List.map_append, List.flatten_append]; simp
theorem chP_at {to m fr i k n : Nat} {l : List Nat} (hi : i < n) (h : (ch to m (fr + i + 1))[k]? = some l) : (chP to m fr n)[(chP to m fr i).length + k]? = some ((fr + i) :: l) := by
  induction n with
  | zero => omega
  | succ n ih =>
    rw [chP_succ]
    by_cases e : i = n
    · subst e
      rw [List.getElem?_append_right (by omega), Nat.add_sub_cancel_left, List.getElem?_map, h]; rfl
    · have := ih (by omega)
      rw [List.getElem?_append_left (List.getElem?_eq_some_iff.1 this).1]
      exact this
theorem chP_len (to m fr i : Nat) : (chP to m fr (i + 1)).length = (chP to m fr i).length + (ch to m (fr + i + 1)).length := by
  rw [chP_succ, List.length_append, List.length_map]
theorem ch_mem {to : Nat} : ∀ {m fr : Nat} {l : List Nat}, l ∈ ch to m fr ↔ l.length = m ∧ l.Pairwise (· < ·) ∧ ∀ x ∈ l, fr ≤ x ∧ x < to
  | 0, fr, l => by
    simp only [ch, List.mem_singleton]
    constructor
    · rintro rfl; exact ⟨rfl, List.Pairwise.nil, fun x hx => by cases hx⟩
    · rintro ⟨h, -, -⟩; exact List.eq_nil_of_length_eq_zero h
  | m + 1, fr, l => by
    simp only [ch, List.mem_flatten, List.mem_map, List.mem_range]
    constructor
    · rintro ⟨_, ⟨d, hd, rfl⟩, h⟩
      obtain ⟨r, hr, rfl⟩ := List.mem_map.1 h
      obtain ⟨h1, h2, h3⟩ := ch_mem.1 hr
      refine ⟨by simp [h1], List.pairwise_cons.2 ⟨fun x hx => by have := h3 x hx; omega, h2⟩, fun x hx => ?_⟩
      rcases List.mem_cons.1 hx with rfl | hx
      · omega
      · have := h3 x hx; omega
    · rintro ⟨h1, h2, h3⟩
      match l, h1, h2, h3 with
      | y :: r, h1, h2, h3 =>
        obtain ⟨p1, p2⟩ := List.pairwise_cons.1 h2
        have hy := h3 y (by simp)
        have hrl : r.length = m := by simpa using h1
        -- r rises from y + 1 on: m numbers below to
        have hroom : y + m < to := by
          have key : ∀ (r : List Nat) (y : Nat), (∀ x ∈ r, y < x) → r.Pairwise (· < ·) → (∀ x ∈ r, x < to) → y < to → y + r.length < to := by
            intro r
            induction r with
            | nil => intro y _ _ _ h; simpa using h
            | cons x r ih =>
              intro y h1 h2 h3 h4
              have h5 := h1 x (by simp)
              have := ih x (List.pairwise_cons.1 h2).1 (List.pairwise_cons.1 h2).2 (fun z hz => h3 z (by simp [hz])) (h3 x (by simp))
              simp only [List.length_cons]; omega
          have := key r y p1 p2 (fun x hx => (h3 x (by simp [hx])).2) hy.2
          omega
        refine ⟨_, ⟨y - fr, by omega, rfl⟩, List.mem_map.2 ⟨r, ch_mem.2 ⟨hrl, p2, fun x hx => ?_⟩, ?_⟩⟩
        · have := p1 x hx; have := h3 x (by simp [hx]); omega
        · rw [show fr + (y - fr) = y by omega]
/-! ### rows that are safe -/
section
variable {wb p : Nat} (hp : Prm wb p)
/-- The rows R and the columns C, s + 1 of each, have an inverse. -/
def okC (f : Tb) (s : Nat) (R C : List Nat) : Prop := (invR hp (tab (s + 1) (s + 1) (mnr f R C))).1 = 0
def okR (f : Tb) (m s : Nat) (R : List Nat) : Prop := ∀ C ∈ ch m (s + 1) 0, okC hp f s R C
def safeB (n m : Nat) (f : Tb) : Bool := (List.range (min n m)).all fun s => (ch n (s + 1) 0).all fun R => (ch m (s + 1) 0).all fun C => decide ((invR hp (tab (s + 1) (s + 1) (mnr f R C))).1 = 0)
theorem safeB_iff {n m : Nat} {f : Tb} : safeB hp n m f = true ↔ ∀ s, s < min n m → ∀ R ∈ ch n (s + 1) 0, okR hp f m s R := by
  unfold safeB okR okC
  simp only [List.all_eq_true, List.mem_range, decide_eq_true_eq]
theorem safeB_no {n m s : Nat} {f : Tb} {R C : List Nat} (hs : s < min n m) (hR : R ∈ ch n (s + 1) 0) (hC : C ∈ ch m (s + 1) 0) (h : ¬ okC hp f s R C) : safeB hp n m f = false := by
  rw [Bool.eq_false_iff, Ne, safeB_iff]
  exact fun hh => h (hh s hs R hR C hC)
def safeM (mt : Mtx) : Bool × Int := if mayM (some (wb, p)) mt = true ∧ mt.length ≤ 5 ∧ wid mt ≤ 8 then (safeB hp mt.length (wid mt) (en mt), 0) else (false, 1)
theorem safeM_no {mt : Mtx} (h : mayM (some (wb, p)) mt = false ∨ 5 < mt.length ∨ 8 < wid mt) : safeM hp mt = (false, 1) := by
  unfold safeM
  refine if_neg fun hh => ?_
  rcases h with h | h | h
  · rw [h] at hh; exact Bool.noConfusion hh.1
  · omega
  · omega
theorem safeM_is {mt : Mtx} (h1 : mayM (some (wb, p)) mt = true) (h2 : mt.length ≤ 5) (h3 : wid mt ≤ 8) : safeM hp mt = (safeB hp mt.length (wid mt) (en mt), 0) := if_pos ⟨h1, h2, h3⟩
end
end Go.Gam
