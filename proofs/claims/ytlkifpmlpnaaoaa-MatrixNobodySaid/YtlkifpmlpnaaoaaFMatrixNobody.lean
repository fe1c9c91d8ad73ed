/- The statement MatrixNobody, walked: it returns true. -/
import Derived.Test.YtlkifpmlpnaaoaaFAw04
set_option linter.unusedVariables false
set_option linter.unusedSimpArgs false
namespace Go.Proofs.Ytlkifpmlpnaaoaa
open Go Go.Gam


namespace FxFMatrixNobody
theorem en28 : Ent Try.prog 28 := ent Try.func28 (by kernel_rfl) (by kernel_rfl)
theorem en29 : Ent Try.prog 29 := ent Try.func29 (by kernel_rfl) (by kernel_rfl)
theorem en30 : Ent Try.prog 30 := ent Try.func30 (by kernel_rfl) (by kernel_rfl)
theorem en31 : Ent Try.prog 31 := ent Try.func31 (by kernel_rfl) (by kernel_rfl)
theorem en32 : Ent Try.prog 32 := ent Try.func32 (by kernel_rfl) (by kernel_rfl)
theorem en46 : Ent Try.prog 46 := ent Try.func46 (by kernel_rfl) (by kernel_rfl)
theorem en48 : Ent Try.prog 48 := ent Try.func48 (by kernel_rfl) (by kernel_rfl)
theorem en50 : Ent Try.prog 50 := ent Try.func50 (by kernel_rfl) (by kernel_rfl)
theorem hmix : Try.prog.follows .mixedOrders = true := by kernel_rfl
theorem sl23 : Sl Try.prog 23 3 (.int .i64 0) 8 := sl_of Try.underlying23 rfl (by kernel_rfl)
theorem sl51 : Sl Try.prog 51 23 (.slice none 0 0) 24 := sl_of Try.underlying51 rfl (by kernel_rfl)
theorem sl53 : Sl Try.prog 53 23 (.slice none 0 0) 24 := sl_of Try.underlying53 rfl (by kernel_rfl)
end FxFMatrixNobody
open FxFMatrixNobody

set_option maxRecDepth 100000 in
set_option maxHeartbeats 1000000 in
theorem MatrixNobody_ok (B M : Nat) (pma : Option Addr) (cma : Nat) (ma : Mtx) (n : Int) (w : World) (hI : Inv FDx B w) (hM : M ≤ w.heap.size) (hAma : Mat FDx B M w pma cma ma) (hlma : ma.length ≤ maxLen) (hbma : ∀ r ∈ ma, r.length ≤ maxLen) (hn : -9223372036854775808 ≤ n ∧ n < 9223372036854775808) : Ret Try.prog 14 [.slice pma ma.length cma, .int .i64 n] w fun v w' => v = .bool true ∧ St FDx B w w' := by
  refine enter 95 [(0, .slice pma ma.length cma), (1, .int .i64 n)] 4 Try.func14 rfl rfl rfl rfl rfl ?_; intro a hF
  have hS := St.refl hI
  refine W_sr rfl (fun K hK => ?_)
  refine sv hF (v_assign rfl) rfl ?_; clear hF a; intro a hF
  refine WL_nil (hK _ _ ?_)
  clear hK K
  refine W_sr rfl (fun K hK => ?_)
  refine sc hF rfl rfl rfl en28 rfl (aw04_ok B _ hS.inv) ?_; clear hF a; intro v w' a hv hF
  obtain ⟨rfl, hS'⟩ := hv
  replace hAma := hAma.st hS'
  replace hS := hS.trans hS'
  clear hS'
  refine sv hF (v_assign rfl) rfl ?_; clear hF a; intro a hF
  refine WL_nil (hK _ _ ?_)
  clear hK K
  replace hF := hF.sub _ (c_ 5 rfl (c_ 4 rfl (c_ 0 rfl (c_ 1 rfl (n_)))))
  refine W_seq ?_
  refine W_sr rfl (fun K hK => ?_)
  refine sv hF (v_move rfl) rfl ?_; clear hF a; intro a hF
  refine sc hF rfl rfl rfl en29 rfl (Few04_ok B _ _ _ ma _ hAma hlma hbma) ?_; clear hF a; intro v w' a hv hF
  obtain ⟨rfl, hw⟩ := hv
  obtain rfl := hw.symm
  have hS' := St.refl hS.inv
  replace hAma := hAma.st hS'
  replace hS := hS.trans hS'
  clear hS'
  refine sv hF (v_not rfl) rfl ?_; clear hF a; intro a hF
  refine WL_nil (hK _ _ ?_)
  clear hK K
  replace hF := hF.sub _ (c_ 20 rfl (c_ 5 rfl (c_ 4 rfl (c_ 0 rfl (c_ 1 rfl (n_))))))
  refine W_if hF rfl (fun hc1 => ?_) (fun hc1 => ?_)
  · skip
    try simp only [decide_eq_true_eq, decide_eq_false_iff_not, Bool.not_eq_true', Bool.not_eq_false', Bool.not_true, Bool.not_false] at hc1
    refine W_sr rfl (fun K hK => ?_)
    refine sv hF (v_move rfl) rfl ?_; clear hF a; intro a hF
    refine sv hF (v_assign rfl) rfl ?_; clear hF a; intro a hF
    refine WL_nil (hK _ _ ?_)
    clear hK K
    replace hF := hF.sub _ (c_ 4 rfl (c_ 5 rfl (c_ 0 rfl (c_ 1 rfl (n_)))))
    refine W_ret ?_
    refine ⟨_, _, hF, rfl, ?_⟩
    exact ⟨rfl, hS⟩
  · skip
    try simp only [decide_eq_true_eq, decide_eq_false_iff_not, Bool.not_eq_true', Bool.not_eq_false', Bool.not_true, Bool.not_false] at hc1
    refine W_skip ?_
    have hfma : fewM ma = true := by simpa using hc1
    have hfl := (fewM_iff.1 hfma).1
    refine W_sr rfl (fun K hK => ?_)
    refine sc hF rfl rfl rfl en30 rfl (field4_ok B true _ hS.inv) ?_; clear hF a; intro v w' a hv hF
    obtain ⟨fv, rfl, hf, hS'⟩ := hv
    rw [show fq true = (16, 69643) from rfl] at hf
    replace hAma := hAma.st hS'
    replace hS := hS.trans hS'
    clear hS'
    refine sv hF (v_move rfl) rfl ?_; clear hF a; intro a hF
    refine sv hF (v_ext rfl rfl) rfl ?_; clear hF a; intro a hF
    refine sv hF (v_ext rfl rfl) rfl ?_; clear hF a; intro a hF
    refine sv hF (v_ext rfl rfl) rfl ?_; clear hF a; intro a hF
    refine sv hF (v_assign rfl) rfl ?_; clear hF a; intro a hF
    refine sv hF (v_assign rfl) rfl ?_; clear hF a; intro a hF
    refine sv hF (v_assign rfl) rfl ?_; clear hF a; intro a hF
    refine WL_nil (hK _ _ ?_)
    clear hK K
    replace hF := hF.sub _ (c_ 6 rfl (c_ 5 rfl (c_ 4 rfl (c_ 0 rfl (c_ 1 rfl (n_))))))
    refine W_cut (fun a w1 => ∃ (v9 : Value) (b9 : Option Nat), Fr 95 [(0, .slice pma ma.length cma), (1, .int .i64 n), (5, .bool true), (6, fv), (9, v9)] a ∧ St FDx B w w1 ∧ Fo FDx B w1 fv (some (16, 69643)) ∧ Mat FDx B M w1 pma cma ma ∧ MOwn FDx B w.heap.size M w1.heap.size w1 23 v9 b9 (ma ++ [List.replicate 11 0])) ?_ ?_
    · skip
      refine W_dS (fun _ => True) (m := 7) rfl hmix (fun K hK => ?_)
      have hS' := St.drew hS.inv
      replace hAma := hAma.st hS'
      replace hf := hf.st hS'
      replace hS := hS.trans hS'
      clear hS'
      have hSS : True := trivial
      refine b_v (i := 1) rfl (by kernel_rfl) hF (fun w2 hx => v_move rfl) rfl hSS ?_; clear hF a; intro a hF
      refine b_e2 (i := 0) (i' := 3) (by kernel_rfl) rfl rfl ?_ ?_
      · skip
        have hszE := hS.ext.size
        first | have hLlt := fun k e => (hL.lt k e).2 | skip
        refine s_bs (D := FDx) (B := B) hF sl51 rfl rfl (by decide) (by simp [Value.cells]) (by decide) hS.inv rfl ?_; clear hF a; intro w' a hm hI' hE hF
        replace hAma := hAma.mb hm (fun _ h => by cases h)
        replace hf := hf.mb hm
        replace hS := hS.mb0 hm
        clear hm hI'
        first | have hDj := fun k (e1 : _ = some k) (e2 : _ = some k) => show False from by have := hLlt k e1; have := (hE.lt k e2).1; omega | skip
        obtain ⟨K, hKe⟩ : ∃ K, K = w'.heap.size := ⟨_, rfl⟩
        have hKs : K ≤ w'.heap.size := by omega
        have hMO : MOwn FDx B w.heap.size M K w' 23 _ _ [] := ⟨⟨[], rfl, hE.le hszE, fun j v r x => by simp at x⟩, hM⟩
        clear hE hKe hszE
        clear hSS
        have hSS : True := trivial
        refine WL_nil ⟨hSS, ?_⟩
        refine b_e2 (i := 2) (i' := 3) (by kernel_rfl) rfl rfl ?_ ?_
        · skip
          refine s_appMM (D := FDx) (B := B) hF rfl sl51 rfl rfl hMO (hAma.rowsO (Nat.le_refl _)) rfl (by simp; omega) (hS.ext.size) (by decide) (by decide) hS.inv rfl ?_; clear hF a; intro v' b' w' a ho' hm hI' hF
          replace hAma := hAma.mb hm (fun k h => Nat.le_trans (hM) (hMO.lt k h).1)
          replace hf := hf.mb hm
          replace hKs := Nat.le_trans hKs hm.size
          replace hS := hS.mb hm (fun k h => (hMO.lt k h).1)
          have hKm := hm.size
          replace hMO := ho'
          clear hm hI' ho'
          clear hKm
          clear hSS
          have hSS : True := trivial
          refine WL_nil ⟨hSS, ?_⟩
          refine b_e (i := 3) (by kernel_rfl) rfl ?_
          have hszZ := hS.ext.size
          refine s_mk (D := FDx) (B := B) (m := 11) hF sl23 rfl rfl (by simp) (by omega) (by simp only [maxLen]; omega) (by decide) hS.inv rfl ?_; clear hF a; intro w' a hm hI' hZ hF
          replace hAma := hAma.mb hm (fun _ h => by cases h)
          replace hf := hf.mb hm
          replace hMO := hMO.mb0 hm
          replace hKs := Nat.le_trans hKs hm.size
          replace hS := hS.mb0 hm
          clear hm hI'
          replace hZ := (hZ.le hszZ).cast (show List.replicate 11 (Value.int .i64 0) = zints (List.replicate 11 0) from rfl)
          clear hszZ
          clear hSS
          have hSS : True := trivial
          refine WL_nil ⟨hSS, ?_⟩
          refine b_e (i := 4) (by kernel_rfl) rfl ?_
          first | have hMlt := fun k e => (hMO.lt k e).2 | skip
          refine s_bs (D := FDx) (B := B) hF sl51 rfl rfl (by decide) (by simp [Value.cells]) (by decide) hS.inv rfl ?_; clear hF a; intro w' a hm hI' hL hF
          replace hAma := hAma.mb hm (fun _ h => by cases h)
          replace hf := hf.mb hm
          replace hMO := hMO.mb0 hm
          replace hKs := Nat.le_trans hKs hm.size
          replace hZ := hZ.mb hm (fun _ _ => by simp)
          replace hS := hS.mb0 hm
          clear hm hI'
          first | have hDj := fun k (e1 : _ = some k) (e2 : _ = some k) => show False from by have := hMlt k e2; have := (hL.lt k e1).1; omega | skip
          clear hSS
          have hSS : True := trivial
          refine WL_nil ⟨hSS, ?_⟩
          refine b_e (i := 5) (by kernel_rfl) rfl ?_
          replace hMO := hMO.up hKs
          clear hKs
          refine s_appM (D := FDx) (B := B) hF rfl sl51 rfl rfl hMO hL (.of hZ hM) rfl rfl (by simp; omega) (hS.ext.size) (by decide) (by decide) hS.inv rfl ?_; clear hF a; intro v' b' w' a ho' hm hI' hF
          replace hAma := hAma.mb hm (fun k h => Nat.le_trans (hM) (hMO.lt k h).1)
          replace hf := hf.mb hm
          replace hS := hS.mb hm (fun k h => (hMO.lt k h).1)
          have hKm := hm.size
          replace hMO := ho'
          clear hm hI' ho' hL
          clear hSS
          have hSS : True := trivial
          refine WL_nil ⟨hSS, ?_⟩
          refine b_v (i := 6) rfl (by kernel_rfl) hF (fun w2 hx => v_assign rfl) rfl hSS ?_; clear hF a; intro a hF
          refine b_done (by kernel_rfl) (hK _ _ ?_)
          clear hK K
          replace hF := hF.sub _ (c_ 9 rfl (c_ 6 rfl (c_ 5 rfl (c_ 4 rfl (c_ 0 rfl (c_ 1 rfl (n_)))))))
          exact ⟨_, _, hF.sub _ (c_ 0 rfl (c_ 1 rfl (c_ 5 rfl (c_ 6 rfl (c_ 9 rfl n_))))), hS, hf, hAma, hMO.up hKm⟩
        · skip
          have hszZ := hS.ext.size
          refine s_mk (D := FDx) (B := B) (m := 11) hF sl23 rfl rfl (by simp) (by omega) (by simp only [maxLen]; omega) (by decide) hS.inv rfl ?_; clear hF a; intro w' a hm hI' hZ hF
          replace hAma := hAma.mb hm (fun _ h => by cases h)
          replace hf := hf.mb hm
          replace hMO := hMO.mb0 hm
          replace hKs := Nat.le_trans hKs hm.size
          replace hS := hS.mb0 hm
          clear hm hI'
          replace hZ := (hZ.le hszZ).cast (show List.replicate 11 (Value.int .i64 0) = zints (List.replicate 11 0) from rfl)
          clear hszZ
          clear hSS
          have hSS : True := trivial
          refine WL_nil ⟨hSS, ?_⟩
          refine b_e2 (i := 2) (i' := 4) (by kernel_rfl) rfl rfl ?_ ?_
          · skip
            refine s_appMM (D := FDx) (B := B) hF rfl sl51 rfl rfl hMO (hAma.rowsO (Nat.le_refl _)) rfl (by simp; omega) (hS.ext.size) (by decide) (by decide) hS.inv rfl ?_; clear hF a; intro v' b' w' a ho' hm hI' hF
            replace hAma := hAma.mb hm (fun k h => Nat.le_trans (hM) (hMO.lt k h).1)
            replace hf := hf.mb hm
            replace hKs := Nat.le_trans hKs hm.size
            replace hZ := hZ.mb hm (hZ.ne_mown hMO (by decide))
            replace hS := hS.mb hm (fun k h => (hMO.lt k h).1)
            have hKm := hm.size
            replace hMO := ho'
            clear hm hI' ho'
            clear hKm
            clear hSS
            have hSS : True := trivial
            refine WL_nil ⟨hSS, ?_⟩
            refine b_e (i := 4) (by kernel_rfl) rfl ?_
            first | have hMlt := fun k e => (hMO.lt k e).2 | skip
            refine s_bs (D := FDx) (B := B) hF sl51 rfl rfl (by decide) (by simp [Value.cells]) (by decide) hS.inv rfl ?_; clear hF a; intro w' a hm hI' hL hF
            replace hAma := hAma.mb hm (fun _ h => by cases h)
            replace hf := hf.mb hm
            replace hMO := hMO.mb0 hm
            replace hKs := Nat.le_trans hKs hm.size
            replace hZ := hZ.mb hm (fun _ _ => by simp)
            replace hS := hS.mb0 hm
            clear hm hI'
            first | have hDj := fun k (e1 : _ = some k) (e2 : _ = some k) => show False from by have := hMlt k e2; have := (hL.lt k e1).1; omega | skip
            clear hSS
            have hSS : True := trivial
            refine WL_nil ⟨hSS, ?_⟩
            refine b_e (i := 5) (by kernel_rfl) rfl ?_
            replace hMO := hMO.up hKs
            clear hKs
            refine s_appM (D := FDx) (B := B) hF rfl sl51 rfl rfl hMO hL (.of hZ hM) rfl rfl (by simp; omega) (hS.ext.size) (by decide) (by decide) hS.inv rfl ?_; clear hF a; intro v' b' w' a ho' hm hI' hF
            replace hAma := hAma.mb hm (fun k h => Nat.le_trans (hM) (hMO.lt k h).1)
            replace hf := hf.mb hm
            replace hS := hS.mb hm (fun k h => (hMO.lt k h).1)
            have hKm := hm.size
            replace hMO := ho'
            clear hm hI' ho' hL
            clear hSS
            have hSS : True := trivial
            refine WL_nil ⟨hSS, ?_⟩
            refine b_v (i := 6) rfl (by kernel_rfl) hF (fun w2 hx => v_assign rfl) rfl hSS ?_; clear hF a; intro a hF
            refine b_done (by kernel_rfl) (hK _ _ ?_)
            clear hK K
            replace hF := hF.sub _ (c_ 9 rfl (c_ 6 rfl (c_ 5 rfl (c_ 4 rfl (c_ 0 rfl (c_ 1 rfl (n_)))))))
            exact ⟨_, _, hF.sub _ (c_ 0 rfl (c_ 1 rfl (c_ 5 rfl (c_ 6 rfl (c_ 9 rfl n_))))), hS, hf, hAma, hMO.up hKm⟩
          · skip
            first | have hMlt := fun k e => (hMO.lt k e).2 | skip
            refine s_bs (D := FDx) (B := B) hF sl51 rfl rfl (by decide) (by simp [Value.cells]) (by decide) hS.inv rfl ?_; clear hF a; intro w' a hm hI' hL hF
            replace hAma := hAma.mb hm (fun _ h => by cases h)
            replace hf := hf.mb hm
            replace hMO := hMO.mb0 hm
            replace hKs := Nat.le_trans hKs hm.size
            replace hZ := hZ.mb hm (fun _ _ => by simp)
            replace hS := hS.mb0 hm
            clear hm hI'
            first | have hDj := fun k (e1 : _ = some k) (e2 : _ = some k) => show False from by have := hMlt k e2; have := (hL.lt k e1).1; omega | skip
            clear hSS
            have hSS : True := trivial
            refine WL_nil ⟨hSS, ?_⟩
            refine b_e (i := 2) (by kernel_rfl) rfl ?_
            refine s_appMM (D := FDx) (B := B) hF rfl sl51 rfl rfl hMO (hAma.rowsO (Nat.le_refl _)) rfl (by simp; omega) (hS.ext.size) (by decide) (by decide) hS.inv rfl ?_; clear hF a; intro v' b' w' a ho' hm hI' hF
            replace hAma := hAma.mb hm (fun k h => Nat.le_trans (hM) (hMO.lt k h).1)
            replace hf := hf.mb hm
            replace hKs := Nat.le_trans hKs hm.size
            replace hZ := hZ.mb hm (hZ.ne_mown hMO (by decide))
            replace hL := hL.mb hm (hDj)
            replace hS := hS.mb hm (fun k h => (hMO.lt k h).1)
            have hKm := hm.size
            replace hMO := ho'
            clear hm hI' ho'
            clear hKm
            clear hSS
            have hSS : True := trivial
            refine WL_nil ⟨hSS, ?_⟩
            refine b_e (i := 5) (by kernel_rfl) rfl ?_
            replace hMO := hMO.up hKs
            clear hKs
            refine s_appM (D := FDx) (B := B) hF rfl sl51 rfl rfl hMO hL (.of hZ hM) rfl rfl (by simp; omega) (hS.ext.size) (by decide) (by decide) hS.inv rfl ?_; clear hF a; intro v' b' w' a ho' hm hI' hF
            replace hAma := hAma.mb hm (fun k h => Nat.le_trans (hM) (hMO.lt k h).1)
            replace hf := hf.mb hm
            replace hS := hS.mb hm (fun k h => (hMO.lt k h).1)
            have hKm := hm.size
            replace hMO := ho'
            clear hm hI' ho' hL
            clear hSS
            have hSS : True := trivial
            refine WL_nil ⟨hSS, ?_⟩
            refine b_v (i := 6) rfl (by kernel_rfl) hF (fun w2 hx => v_assign rfl) rfl hSS ?_; clear hF a; intro a hF
            refine b_done (by kernel_rfl) (hK _ _ ?_)
            clear hK K
            replace hF := hF.sub _ (c_ 9 rfl (c_ 6 rfl (c_ 5 rfl (c_ 4 rfl (c_ 0 rfl (c_ 1 rfl (n_)))))))
            exact ⟨_, _, hF.sub _ (c_ 0 rfl (c_ 1 rfl (c_ 5 rfl (c_ 6 rfl (c_ 9 rfl n_))))), hS, hf, hAma, hMO.up hKm⟩
      · skip
        have hszZ := hS.ext.size
        refine s_mk (D := FDx) (B := B) (m := 11) hF sl23 rfl rfl (by simp) (by omega) (by simp only [maxLen]; omega) (by decide) hS.inv rfl ?_; clear hF a; intro w' a hm hI' hZ hF
        replace hAma := hAma.mb hm (fun _ h => by cases h)
        replace hf := hf.mb hm
        replace hS := hS.mb0 hm
        clear hm hI'
        replace hZ := (hZ.le hszZ).cast (show List.replicate 11 (Value.int .i64 0) = zints (List.replicate 11 0) from rfl)
        clear hszZ
        clear hSS
        have hSS : True := trivial
        refine WL_nil ⟨hSS, ?_⟩
        refine b_e2 (i := 0) (i' := 4) (by kernel_rfl) rfl rfl ?_ ?_
        · skip
          have hszE := hS.ext.size
          first | have hLlt := fun k e => (hL.lt k e).2 | skip
          refine s_bs (D := FDx) (B := B) hF sl51 rfl rfl (by decide) (by simp [Value.cells]) (by decide) hS.inv rfl ?_; clear hF a; intro w' a hm hI' hE hF
          replace hAma := hAma.mb hm (fun _ h => by cases h)
          replace hf := hf.mb hm
          replace hZ := hZ.mb hm (fun _ _ => by simp)
          replace hS := hS.mb0 hm
          clear hm hI'
          first | have hDj := fun k (e1 : _ = some k) (e2 : _ = some k) => show False from by have := hLlt k e1; have := (hE.lt k e2).1; omega | skip
          obtain ⟨K, hKe⟩ : ∃ K, K = w'.heap.size := ⟨_, rfl⟩
          have hKs : K ≤ w'.heap.size := by omega
          have hMO : MOwn FDx B w.heap.size M K w' 23 _ _ [] := ⟨⟨[], rfl, hE.le hszE, fun j v r x => by simp at x⟩, hM⟩
          clear hE hKe hszE
          clear hSS
          have hSS : True := trivial
          refine WL_nil ⟨hSS, ?_⟩
          refine b_e2 (i := 2) (i' := 4) (by kernel_rfl) rfl rfl ?_ ?_
          · skip
            refine s_appMM (D := FDx) (B := B) hF rfl sl51 rfl rfl hMO (hAma.rowsO (Nat.le_refl _)) rfl (by simp; omega) (hS.ext.size) (by decide) (by decide) hS.inv rfl ?_; clear hF a; intro v' b' w' a ho' hm hI' hF
            replace hAma := hAma.mb hm (fun k h => Nat.le_trans (hM) (hMO.lt k h).1)
            replace hf := hf.mb hm
            replace hZ := hZ.mb hm (hZ.ne_mown hMO (by decide))
            replace hKs := Nat.le_trans hKs hm.size
            replace hS := hS.mb hm (fun k h => (hMO.lt k h).1)
            have hKm := hm.size
            replace hMO := ho'
            clear hm hI' ho'
            clear hKm
            clear hSS
            have hSS : True := trivial
            refine WL_nil ⟨hSS, ?_⟩
            refine b_e (i := 4) (by kernel_rfl) rfl ?_
            first | have hMlt := fun k e => (hMO.lt k e).2 | skip
            refine s_bs (D := FDx) (B := B) hF sl51 rfl rfl (by decide) (by simp [Value.cells]) (by decide) hS.inv rfl ?_; clear hF a; intro w' a hm hI' hL hF
            replace hAma := hAma.mb hm (fun _ h => by cases h)
            replace hf := hf.mb hm
            replace hZ := hZ.mb hm (fun _ _ => by simp)
            replace hMO := hMO.mb0 hm
            replace hKs := Nat.le_trans hKs hm.size
            replace hS := hS.mb0 hm
            clear hm hI'
            first | have hDj := fun k (e1 : _ = some k) (e2 : _ = some k) => show False from by have := hMlt k e2; have := (hL.lt k e1).1; omega | skip
            clear hSS
            have hSS : True := trivial
            refine WL_nil ⟨hSS, ?_⟩
            refine b_e (i := 5) (by kernel_rfl) rfl ?_
            replace hMO := hMO.up hKs
            clear hKs
            refine s_appM (D := FDx) (B := B) hF rfl sl51 rfl rfl hMO hL (.of hZ hM) rfl rfl (by simp; omega) (hS.ext.size) (by decide) (by decide) hS.inv rfl ?_; clear hF a; intro v' b' w' a ho' hm hI' hF
            replace hAma := hAma.mb hm (fun k h => Nat.le_trans (hM) (hMO.lt k h).1)
            replace hf := hf.mb hm
            replace hS := hS.mb hm (fun k h => (hMO.lt k h).1)
            have hKm := hm.size
            replace hMO := ho'
            clear hm hI' ho' hL
            clear hSS
            have hSS : True := trivial
            refine WL_nil ⟨hSS, ?_⟩
            refine b_v (i := 6) rfl (by kernel_rfl) hF (fun w2 hx => v_assign rfl) rfl hSS ?_; clear hF a; intro a hF
            refine b_done (by kernel_rfl) (hK _ _ ?_)
            clear hK K
            replace hF := hF.sub _ (c_ 9 rfl (c_ 6 rfl (c_ 5 rfl (c_ 4 rfl (c_ 0 rfl (c_ 1 rfl (n_)))))))
            exact ⟨_, _, hF.sub _ (c_ 0 rfl (c_ 1 rfl (c_ 5 rfl (c_ 6 rfl (c_ 9 rfl n_))))), hS, hf, hAma, hMO.up hKm⟩
          · skip
            first | have hMlt := fun k e => (hMO.lt k e).2 | skip
            refine s_bs (D := FDx) (B := B) hF sl51 rfl rfl (by decide) (by simp [Value.cells]) (by decide) hS.inv rfl ?_; clear hF a; intro w' a hm hI' hL hF
            replace hAma := hAma.mb hm (fun _ h => by cases h)
            replace hf := hf.mb hm
            replace hZ := hZ.mb hm (fun _ _ => by simp)
            replace hMO := hMO.mb0 hm
            replace hKs := Nat.le_trans hKs hm.size
            replace hS := hS.mb0 hm
            clear hm hI'
            first | have hDj := fun k (e1 : _ = some k) (e2 : _ = some k) => show False from by have := hMlt k e2; have := (hL.lt k e1).1; omega | skip
            clear hSS
            have hSS : True := trivial
            refine WL_nil ⟨hSS, ?_⟩
            refine b_e (i := 2) (by kernel_rfl) rfl ?_
            refine s_appMM (D := FDx) (B := B) hF rfl sl51 rfl rfl hMO (hAma.rowsO (Nat.le_refl _)) rfl (by simp; omega) (hS.ext.size) (by decide) (by decide) hS.inv rfl ?_; clear hF a; intro v' b' w' a ho' hm hI' hF
            replace hAma := hAma.mb hm (fun k h => Nat.le_trans (hM) (hMO.lt k h).1)
            replace hf := hf.mb hm
            replace hZ := hZ.mb hm (hZ.ne_mown hMO (by decide))
            replace hKs := Nat.le_trans hKs hm.size
            replace hL := hL.mb hm (hDj)
            replace hS := hS.mb hm (fun k h => (hMO.lt k h).1)
            have hKm := hm.size
            replace hMO := ho'
            clear hm hI' ho'
            clear hKm
            clear hSS
            have hSS : True := trivial
            refine WL_nil ⟨hSS, ?_⟩
            refine b_e (i := 5) (by kernel_rfl) rfl ?_
            replace hMO := hMO.up hKs
            clear hKs
            refine s_appM (D := FDx) (B := B) hF rfl sl51 rfl rfl hMO hL (.of hZ hM) rfl rfl (by simp; omega) (hS.ext.size) (by decide) (by decide) hS.inv rfl ?_; clear hF a; intro v' b' w' a ho' hm hI' hF
            replace hAma := hAma.mb hm (fun k h => Nat.le_trans (hM) (hMO.lt k h).1)
            replace hf := hf.mb hm
            replace hS := hS.mb hm (fun k h => (hMO.lt k h).1)
            have hKm := hm.size
            replace hMO := ho'
            clear hm hI' ho' hL
            clear hSS
            have hSS : True := trivial
            refine WL_nil ⟨hSS, ?_⟩
            refine b_v (i := 6) rfl (by kernel_rfl) hF (fun w2 hx => v_assign rfl) rfl hSS ?_; clear hF a; intro a hF
            refine b_done (by kernel_rfl) (hK _ _ ?_)
            clear hK K
            replace hF := hF.sub _ (c_ 9 rfl (c_ 6 rfl (c_ 5 rfl (c_ 4 rfl (c_ 0 rfl (c_ 1 rfl (n_)))))))
            exact ⟨_, _, hF.sub _ (c_ 0 rfl (c_ 1 rfl (c_ 5 rfl (c_ 6 rfl (c_ 9 rfl n_))))), hS, hf, hAma, hMO.up hKm⟩
        · skip
          first | have hMlt := fun k e => (hMO.lt k e).2 | skip
          refine s_bs (D := FDx) (B := B) hF sl51 rfl rfl (by decide) (by simp [Value.cells]) (by decide) hS.inv rfl ?_; clear hF a; intro w' a hm hI' hL hF
          replace hAma := hAma.mb hm (fun _ h => by cases h)
          replace hf := hf.mb hm
          replace hZ := hZ.mb hm (fun _ _ => by simp)
          replace hS := hS.mb0 hm
          clear hm hI'
          first | have hDj := fun k (e1 : _ = some k) (e2 : _ = some k) => show False from by have := hMlt k e2; have := (hL.lt k e1).1; omega | skip
          clear hSS
          have hSS : True := trivial
          refine WL_nil ⟨hSS, ?_⟩
          refine b_e (i := 0) (by kernel_rfl) rfl ?_
          have hszE := hS.ext.size
          first | have hLlt := fun k e => (hL.lt k e).2 | skip
          refine s_bs (D := FDx) (B := B) hF sl51 rfl rfl (by decide) (by simp [Value.cells]) (by decide) hS.inv rfl ?_; clear hF a; intro w' a hm hI' hE hF
          replace hAma := hAma.mb hm (fun _ h => by cases h)
          replace hf := hf.mb hm
          replace hZ := hZ.mb hm (fun _ _ => by simp)
          replace hL := hL.mb hm (fun _ _ => by simp)
          replace hS := hS.mb0 hm
          clear hm hI'
          first | have hDj := fun k (e1 : _ = some k) (e2 : _ = some k) => show False from by have := hLlt k e1; have := (hE.lt k e2).1; omega | skip
          obtain ⟨K, hKe⟩ : ∃ K, K = w'.heap.size := ⟨_, rfl⟩
          have hKs : K ≤ w'.heap.size := by omega
          have hMO : MOwn FDx B w.heap.size M K w' 23 _ _ [] := ⟨⟨[], rfl, hE.le hszE, fun j v r x => by simp at x⟩, hM⟩
          clear hE hKe hszE
          clear hSS
          have hSS : True := trivial
          refine WL_nil ⟨hSS, ?_⟩
          refine b_e (i := 2) (by kernel_rfl) rfl ?_
          refine s_appMM (D := FDx) (B := B) hF rfl sl51 rfl rfl hMO (hAma.rowsO (Nat.le_refl _)) rfl (by simp; omega) (hS.ext.size) (by decide) (by decide) hS.inv rfl ?_; clear hF a; intro v' b' w' a ho' hm hI' hF
          replace hAma := hAma.mb hm (fun k h => Nat.le_trans (hM) (hMO.lt k h).1)
          replace hf := hf.mb hm
          replace hZ := hZ.mb hm (hZ.ne_mown hMO (by decide))
          replace hL := hL.mb hm (hDj)
          replace hKs := Nat.le_trans hKs hm.size
          replace hS := hS.mb hm (fun k h => (hMO.lt k h).1)
          have hKm := hm.size
          replace hMO := ho'
          clear hm hI' ho'
          clear hKm
          clear hSS
          have hSS : True := trivial
          refine WL_nil ⟨hSS, ?_⟩
          refine b_e (i := 5) (by kernel_rfl) rfl ?_
          replace hMO := hMO.up hKs
          clear hKs
          refine s_appM (D := FDx) (B := B) hF rfl sl51 rfl rfl hMO hL (.of hZ hM) rfl rfl (by simp; omega) (hS.ext.size) (by decide) (by decide) hS.inv rfl ?_; clear hF a; intro v' b' w' a ho' hm hI' hF
          replace hAma := hAma.mb hm (fun k h => Nat.le_trans (hM) (hMO.lt k h).1)
          replace hf := hf.mb hm
          replace hS := hS.mb hm (fun k h => (hMO.lt k h).1)
          have hKm := hm.size
          replace hMO := ho'
          clear hm hI' ho' hL
          clear hSS
          have hSS : True := trivial
          refine WL_nil ⟨hSS, ?_⟩
          refine b_v (i := 6) rfl (by kernel_rfl) hF (fun w2 hx => v_assign rfl) rfl hSS ?_; clear hF a; intro a hF
          refine b_done (by kernel_rfl) (hK _ _ ?_)
          clear hK K
          replace hF := hF.sub _ (c_ 9 rfl (c_ 6 rfl (c_ 5 rfl (c_ 4 rfl (c_ 0 rfl (c_ 1 rfl (n_)))))))
          exact ⟨_, _, hF.sub _ (c_ 0 rfl (c_ 1 rfl (c_ 5 rfl (c_ 6 rfl (c_ 9 rfl n_))))), hS, hf, hAma, hMO.up hKm⟩
    · skip
      clear hF
      clear hAma hS hf
      rintro a w1 ⟨v9, b9, hF, hS, hf, hAma, hMO⟩
      obtain ⟨s9, c9, rfl, hOdd⟩ := hMO.mat (by decide) (Nat.le_trans hM hS.ext.size)
      clear hMO
      replace hAma := hAma.mono (Nat.le_trans hM hS.ext.size)
      refine W_sr rfl (fun K hK => ?_)
      refine sv hF (v_move rfl) rfl ?_; clear hF a; intro a hF
      refine sv hF (v_move rfl) rfl ?_; clear hF a; intro a hF
      refine sc hF rfl rfl rfl en31 rfl (MulM_ok B _ none (.pointer none) _ _ ma _ _ ma _ hS.inv (Nat.le_refl _) rfl hAma hlma hbma hAma hlma hbma) ?_; clear hF a; intro v w' a hv hF
      obtain ⟨obX, uX, rfl, hoX, hS'⟩ := hv
      rw [mulM_f (.inl (mayM_none ma))] at hoX hF
      try simp only [Option.getD_some, Option.getD_none] at hoX
      obtain ⟨sX, cX, rfl, hX⟩ := hoX.mat (by decide) (Nat.zero_le _)
      clear hoX
      replace hAma := (hAma.st hS').mono hS'.ext.size
      replace hOdd := (hOdd.st hS').mono hS'.ext.size
      replace hf := hf.st hS'
      replace hS := hS.trans hS'
      clear hS'
      refine sv hF (v_move rfl) rfl ?_; clear hF a; intro a hF
      refine sv hF (v_ext rfl rfl) rfl ?_; clear hF a; intro a hF
      refine sv hF (v_ext rfl rfl) rfl ?_; clear hF a; intro a hF
      refine sv hF (v_assign rfl) rfl ?_; clear hF a; intro a hF
      refine sv hF (v_assign rfl) rfl ?_; clear hF a; intro a hF
      refine WL_nil (hK _ _ ?_)
      clear hK K
      replace hF := hF.sub _ (c_ 11 rfl (c_ 0 rfl (c_ 1 rfl (c_ 5 rfl (c_ 6 rfl (c_ 9 rfl (n_)))))))
      refine W_sr rfl (fun K hK => ?_)
      refine sv hF (v_move rfl) rfl ?_; clear hF a; intro a hF
      refine sv hF (v_move rfl) rfl ?_; clear hF a; intro a hF
      refine sv hF (v_move rfl) rfl ?_; clear hF a; intro a hF
      refine sc hF rfl rfl rfl en48 rfl (Join_ok B _ (some (16, 69643)) fv _ _ ma _ _ (ma ++ [List.replicate 11 0]) _ hS.inv (Nat.le_refl _) hf hAma (And.intro hlma hbma).1 (And.intro hlma hbma).2 hOdd (odd_lens hfma).1 (odd_lens hfma).2) ?_; clear hF a; intro v w' a hv hF
      obtain ⟨obY, uY, rfl, hoY, hS'⟩ := hv
      rw [(join_odd (o := (some (16, 69643))) hfma)] at hoY hF
      try simp only [Option.getD_some, Option.getD_none] at hoY
      obtain ⟨sY, cY, rfl, hY⟩ := hoY.mat (by decide) (Nat.zero_le _)
      clear hoY
      replace hAma := (hAma.st hS').mono hS'.ext.size
      replace hOdd := (hOdd.st hS').mono hS'.ext.size
      replace hf := hf.st hS'
      replace hX := (hX.st hS').mono hS'.ext.size
      replace hS := hS.trans hS'
      clear hS'
      refine sv hF (v_move rfl) rfl ?_; clear hF a; intro a hF
      refine sv hF (v_ext rfl rfl) rfl ?_; clear hF a; intro a hF
      refine sv hF (v_ext rfl rfl) rfl ?_; clear hF a; intro a hF
      refine sv hF (v_assign rfl) rfl ?_; clear hF a; intro a hF
      refine sv hF (v_assign rfl) rfl ?_; clear hF a; intro a hF
      refine WL_nil (hK _ _ ?_)
      clear hK K
      replace hF := hF.sub _ (c_ 13 rfl (c_ 11 rfl (c_ 0 rfl (c_ 1 rfl (c_ 5 rfl (c_ 6 rfl (c_ 9 rfl (n_))))))))
      refine W_sr rfl (fun K hK => ?_)
      refine sv hF (v_move rfl) rfl ?_; clear hF a; intro a hF
      refine sv hF (v_move rfl) rfl ?_; clear hF a; intro a hF
      refine s_bs (D := FDx) (B := B) hF sl23 rfl rfl (by decide) (by simp [Value.cells]) (by decide) hS.inv rfl ?_; clear hF a; intro w' a hm hI' hQ hF
      replace hAma := (hAma.mb hm (fun _ h => by cases h)).mono hm.size
      replace hOdd := (hOdd.mb hm (fun _ h => by cases h)).mono hm.size
      replace hf := hf.mb hm
      replace hX := (hX.mb hm (fun _ h => by cases h)).mono hm.size
      replace hY := (hY.mb hm (fun _ h => by cases h)).mono hm.size
      replace hS := hS.mb0 hm
      clear hm hI'
      refine sc hF rfl rfl rfl en46 rfl (Pick_ok B _ (some (16, 69643)) fv _ _ (ma ++ [List.replicate 11 0]) _ _ [0] _ hS.inv (Nat.le_refl _) hf hOdd (odd_lens hfma).1 (odd_lens hfma).2 ((hQ.cast (ys := zints [0]) rfl).row (by decide)) (by decide)) ?_; clear hF a; intro v w' a hv hF
      obtain ⟨obZ, uZ, rfl, hoZ, hS'⟩ := hv
      obtain ⟨sZ, cZ, rfl, hZ⟩ := hoZ.mat (by decide) (Nat.zero_le _)
      clear hoZ
      replace hAma := (hAma.st hS').mono hS'.ext.size
      replace hf := hf.st hS'
      replace hS := hS.trans hS'
      clear hS'
      refine sv hF (v_move rfl) rfl ?_; clear hF a; intro a hF
      refine sv hF (v_ext rfl rfl) rfl ?_; clear hF a; intro a hF
      refine sv hF (v_ext rfl rfl) rfl ?_; clear hF a; intro a hF
      refine sv hF (v_assign rfl) rfl ?_; clear hF a; intro a hF
      refine sv hF (v_assign rfl) rfl ?_; clear hF a; intro a hF
      refine WL_nil (hK _ _ ?_)
      clear hK K
      replace hF := hF.sub _ (c_ 15 rfl (c_ 13 rfl (c_ 11 rfl (c_ 0 rfl (c_ 1 rfl (c_ 5 rfl (c_ 6 rfl (n_))))))))
      refine W_sr rfl (fun K hK => ?_)
      refine sv hF (v_move rfl) rfl ?_; clear hF a; intro a hF
      refine sb hF (v_lss rfl rfl) rfl ?_ ?_
      · clear hF a; intro hc2 a hF
        try simp only [decide_eq_true_eq, decide_eq_false_iff_not, Bool.not_eq_true', Bool.not_eq_false', Bool.not_true, Bool.not_false] at hc2
        refine sv hF (v_move rfl) rfl ?_; clear hF a; intro a hF
        refine svn hF rfl rfl rfl ?_; clear hF a; intro a hF
        refine svn hF rfl rfl rfl ?_; clear hF a; intro a hF
        refine sv hF (v_pickT rfl rfl) rfl ?_; clear hF a; intro a hF
        refine sv hF (v_assign rfl) rfl ?_; clear hF a; intro a hF
        refine WL_nil (hK _ _ ?_)
        clear hK K
        replace hF := hF.sub _ (c_ 16 rfl (c_ 15 rfl (c_ 13 rfl (c_ 11 rfl (c_ 0 rfl (c_ 1 rfl (c_ 5 rfl (c_ 6 rfl (n_)))))))))
        refine W_sr rfl (fun K hK => ?_)
        refine sv hF (v_move rfl) rfl ?_; clear hF a; intro a hF
        refine sv hF (v_move rfl) rfl ?_; clear hF a; intro a hF
        refine svg hF rfl ?_
        refine sv hF (v_move rfl) rfl ?_; clear hF a; intro a hF
        refine svg hF rfl ?_
        refine sc hF rfl rfl rfl en50 rfl (May_ok B _ none (.pointer none) _ _ ma _ hS.inv rfl hAma hlma hbma) ?_; clear hF a; intro v w' a hv hF
        obtain ⟨rfl, hS'⟩ := hv
        rw [mayM_none] at hF
        replace hAma := (hAma.st hS').mono hS'.ext.size
        replace hf := hf.st hS'
        replace hZ := (hZ.st hS').mono hS'.ext.size
        replace hS := hS.trans hS'
        clear hS'
        refine svg hF rfl ?_
        refine sv hF (v_not rfl) rfl ?_; clear hF a; intro a hF
        refine sv hF (v_pickT rfl rfl) rfl ?_; clear hF a; intro a hF
        refine sv hF (v_move rfl) rfl ?_; clear hF a; intro a hF
        refine svg hF rfl ?_
        refine sv hF (v_move rfl) rfl ?_; clear hF a; intro a hF
        refine svg hF rfl ?_
        refine sv hF ((v_eql rfl rfl).as (congrArg Value.bool (decide_eq_true (rfl)))) rfl ?_; clear hF a; intro a hF
        refine sv hF (v_pickT rfl rfl) rfl ?_; clear hF a; intro a hF
        refine sv hF (v_move rfl) rfl ?_; clear hF a; intro a hF
        refine svg hF rfl ?_
        refine sv hF (v_move rfl) rfl ?_; clear hF a; intro a hF
        refine svg hF rfl ?_
        refine sv hF (v_lenS rfl sl51 rfl) rfl ?_; clear hF a; intro a hF
        refine svg hF rfl ?_
        refine sb hF (v_eql rfl rfl) rfl ?_ ?_
        · clear hF a; intro hc3 a hF
          try simp only [decide_eq_true_eq, decide_eq_false_iff_not, Bool.not_eq_true', Bool.not_eq_false', Bool.not_true, Bool.not_false] at hc3
          refine svg hF rfl ?_
          refine sv hF (v_move rfl) rfl ?_; clear hF a; intro a hF
          refine svn hF rfl rfl rfl ?_; clear hF a; intro a hF
          refine svn hF rfl rfl rfl ?_; clear hF a; intro a hF
          refine svn hF rfl rfl rfl ?_; clear hF a; intro a hF
          refine svu hF rfl rfl ?_; clear hF a; intro a hF
          refine svu hF rfl rfl ?_; clear hF a; intro a hF
          refine svn hF rfl rfl rfl ?_; clear hF a; intro a hF
          refine svg hF rfl ?_
          refine sv hF (v_pickT rfl rfl) rfl ?_; clear hF a; intro a hF
          refine sv hF (v_pickT rfl rfl) rfl ?_; clear hF a; intro a hF
          refine sv hF (v_move rfl) rfl ?_; clear hF a; intro a hF
          refine svg hF rfl ?_
          refine sv hF (v_move rfl) rfl ?_; clear hF a; intro a hF
          refine svg hF rfl ?_
          refine sc hF rfl rfl rfl en50 rfl (May_ok B 0 (some (16, 69643)) fv none 0 [] _ hS.inv hf (Mat.empty _ _ _ _ _ _) (by decide) (by simp)) ?_; clear hF a; intro v w' a hv hF
          obtain ⟨rfl, hS'⟩ := hv
          rw [mayM_no (o := (some (16, 69643))) (a := []) (fun h => by have := h.1; simp at this)] at hF
          replace hAma := (hAma.st hS').mono hS'.ext.size
          replace hf := hf.st hS'
          replace hZ := (hZ.st hS').mono hS'.ext.size
          replace hS := hS.trans hS'
          clear hS'
          refine svg hF rfl ?_
          refine sv hF (v_not rfl) rfl ?_; clear hF a; intro a hF
          refine sv hF (v_pickT rfl rfl) rfl ?_; clear hF a; intro a hF
          refine sv hF (v_move rfl) rfl ?_; clear hF a; intro a hF
          refine svg hF rfl ?_
          refine sv hF (v_move rfl) rfl ?_; clear hF a; intro a hF
          refine svg hF rfl ?_
          refine sc hF rfl rfl rfl en32 rfl (Identity_ok B n _ hS.inv hn) ?_; clear hF a; intro v w' a hv hF
          obtain ⟨obI_, hoI_, hS'⟩ := hv
          obtain ⟨sI_, cI_, rfl, hI_⟩ := hoI_.mat (by decide) (Nat.zero_le _)
          clear hoI_
          replace hAma := (hAma.st hS').mono hS'.ext.size
          replace hf := hf.st hS'
          replace hZ := (hZ.st hS').mono hS'.ext.size
          replace hS := hS.trans hS'
          clear hS'
          refine svg hF rfl ?_
          refine sv hF (v_lenS rfl sl53 rfl) rfl ?_; clear hF a; intro a hF
          refine svg hF rfl ?_
          refine sv hF (v_eql rfl rfl) rfl ?_; clear hF a; intro a hF
          refine svg hF rfl ?_
          refine sv hF (v_move rfl) rfl ?_; clear hF a; intro a hF
          refine svg hF rfl ?_
          refine sv hF ((v_eqlB Try.underlying4 rfl rfl).as (congrArg Value.bool (decide_eq_true (by have hz := identM_zero (n := n); first | (rw [decide_eq_true_iff]; omega) | (rw [decide_eq_decide]; omega))))) rfl ?_; clear hF a; intro a hF
          refine sv hF (v_pickT rfl rfl) rfl ?_; clear hF a; intro a hF
          refine sv hF (v_assign rfl) rfl ?_; clear hF a; intro a hF
          refine WL_nil (hK _ _ ?_)
          clear hK K
          replace hF := hF.sub _ (c_ 4 rfl (n_))
          refine W_ret ?_
          refine ⟨_, _, hF, rfl, ?_⟩
          exact ⟨rfl, hS⟩
        · clear hF a; intro hc3 a hF
          try simp only [decide_eq_true_eq, decide_eq_false_iff_not, Bool.not_eq_true', Bool.not_eq_false', Bool.not_true, Bool.not_false] at hc3
          refine svg hF rfl ?_
          refine sv hF (v_move rfl) rfl ?_; clear hF a; intro a hF
          refine svg hF rfl ?_
          refine sv hF (v_move rfl) rfl ?_; clear hF a; intro a hF
          refine svg hF rfl ?_
          refine sv hF ((v_eql rfl rfl).as (congrArg Value.bool (decide_eq_true (rfl)))) rfl ?_; clear hF a; intro a hF
          refine svg hF rfl ?_
          refine sv hF (v_move rfl) rfl ?_; clear hF a; intro a hF
          refine svg hF rfl ?_
          refine sv hF (v_move rfl) rfl ?_; clear hF a; intro a hF
          refine svg hF rfl ?_
          refine sv hF ((v_eql rfl rfl).as (congrArg Value.bool (decide_eq_true (by rw [pick_odd hfma (List.ne_nil_of_length_pos (by omega)) [0]]; rfl)))) rfl ?_; clear hF a; intro a hF
          refine svg hF rfl ?_
          refine sv hF (v_pickT rfl rfl) rfl ?_; clear hF a; intro a hF
          refine svg hF rfl ?_
          refine sv hF (v_pickF rfl rfl) rfl ?_; clear hF a; intro a hF
          refine sv hF (v_pickT rfl rfl) rfl ?_; clear hF a; intro a hF
          refine sv hF (v_move rfl) rfl ?_; clear hF a; intro a hF
          refine svg hF rfl ?_
          refine sv hF (v_move rfl) rfl ?_; clear hF a; intro a hF
          refine svg hF rfl ?_
          refine sc hF rfl rfl rfl en50 rfl (May_ok B 0 (some (16, 69643)) fv none 0 [] _ hS.inv hf (Mat.empty _ _ _ _ _ _) (by decide) (by simp)) ?_; clear hF a; intro v w' a hv hF
          obtain ⟨rfl, hS'⟩ := hv
          rw [mayM_no (o := (some (16, 69643))) (a := []) (fun h => by have := h.1; simp at this)] at hF
          replace hAma := (hAma.st hS').mono hS'.ext.size
          replace hf := hf.st hS'
          replace hZ := (hZ.st hS').mono hS'.ext.size
          replace hS := hS.trans hS'
          clear hS'
          refine svg hF rfl ?_
          refine sv hF (v_not rfl) rfl ?_; clear hF a; intro a hF
          refine sv hF (v_pickT rfl rfl) rfl ?_; clear hF a; intro a hF
          refine sv hF (v_move rfl) rfl ?_; clear hF a; intro a hF
          refine svg hF rfl ?_
          refine sv hF (v_move rfl) rfl ?_; clear hF a; intro a hF
          refine svg hF rfl ?_
          refine sc hF rfl rfl rfl en32 rfl (Identity_ok B n _ hS.inv hn) ?_; clear hF a; intro v w' a hv hF
          obtain ⟨obI_, hoI_, hS'⟩ := hv
          obtain ⟨sI_, cI_, rfl, hI_⟩ := hoI_.mat (by decide) (Nat.zero_le _)
          clear hoI_
          replace hAma := (hAma.st hS').mono hS'.ext.size
          replace hf := hf.st hS'
          replace hZ := (hZ.st hS').mono hS'.ext.size
          replace hS := hS.trans hS'
          clear hS'
          refine svg hF rfl ?_
          refine sv hF (v_lenS rfl sl53 rfl) rfl ?_; clear hF a; intro a hF
          refine svg hF rfl ?_
          refine sv hF (v_eql rfl rfl) rfl ?_; clear hF a; intro a hF
          refine svg hF rfl ?_
          refine sv hF (v_move rfl) rfl ?_; clear hF a; intro a hF
          refine svg hF rfl ?_
          refine sv hF ((v_eqlB Try.underlying4 rfl rfl).as (congrArg Value.bool (decide_eq_true (by have hz := identM_zero (n := n); first | (rw [decide_eq_true_iff]; omega) | (rw [decide_eq_decide]; omega))))) rfl ?_; clear hF a; intro a hF
          refine sv hF (v_pickT rfl rfl) rfl ?_; clear hF a; intro a hF
          refine sv hF (v_assign rfl) rfl ?_; clear hF a; intro a hF
          refine WL_nil (hK _ _ ?_)
          clear hK K
          replace hF := hF.sub _ (c_ 4 rfl (n_))
          refine W_ret ?_
          refine ⟨_, _, hF, rfl, ?_⟩
          exact ⟨rfl, hS⟩
      · clear hF a; intro hc2 a hF
        try simp only [decide_eq_true_eq, decide_eq_false_iff_not, Bool.not_eq_true', Bool.not_eq_false', Bool.not_true, Bool.not_false] at hc2
        refine sv hF (v_move rfl) rfl ?_; clear hF a; intro a hF
        refine svg hF rfl ?_
        refine sv hF (v_move rfl) rfl ?_; clear hF a; intro a hF
        refine svg hF rfl ?_
        refine sv hF (v_gtr rfl rfl) rfl ?_; clear hF a; intro a hF
        refine sv hF (v_pickF rfl rfl) rfl ?_; clear hF a; intro a hF
        refine sv hF (v_assign rfl) rfl ?_; clear hF a; intro a hF
        refine WL_nil (hK _ _ ?_)
        clear hK K
        replace hF := hF.sub _ (c_ 16 rfl (c_ 15 rfl (c_ 13 rfl (c_ 11 rfl (c_ 0 rfl (c_ 1 rfl (c_ 5 rfl (c_ 6 rfl (n_)))))))))
        refine W_sr rfl (fun K hK => ?_)
        refine sv hF (v_move rfl) rfl ?_; clear hF a; intro a hF
        refine sv hF (v_move rfl) rfl ?_; clear hF a; intro a hF
        refine svg hF rfl ?_
        refine sv hF (v_move rfl) rfl ?_; clear hF a; intro a hF
        refine svg hF rfl ?_
        refine sc hF rfl rfl rfl en50 rfl (May_ok B _ none (.pointer none) _ _ ma _ hS.inv rfl hAma hlma hbma) ?_; clear hF a; intro v w' a hv hF
        obtain ⟨rfl, hS'⟩ := hv
        rw [mayM_none] at hF
        replace hAma := (hAma.st hS').mono hS'.ext.size
        replace hf := hf.st hS'
        replace hZ := (hZ.st hS').mono hS'.ext.size
        replace hS := hS.trans hS'
        clear hS'
        refine svg hF rfl ?_
        refine sv hF (v_not rfl) rfl ?_; clear hF a; intro a hF
        refine sv hF (v_pickT rfl rfl) rfl ?_; clear hF a; intro a hF
        refine sv hF (v_move rfl) rfl ?_; clear hF a; intro a hF
        refine svg hF rfl ?_
        refine sv hF (v_move rfl) rfl ?_; clear hF a; intro a hF
        refine svg hF rfl ?_
        refine sv hF ((v_eql rfl rfl).as (congrArg Value.bool (decide_eq_true (rfl)))) rfl ?_; clear hF a; intro a hF
        refine sv hF (v_pickT rfl rfl) rfl ?_; clear hF a; intro a hF
        refine sv hF (v_move rfl) rfl ?_; clear hF a; intro a hF
        refine svg hF rfl ?_
        refine sv hF (v_move rfl) rfl ?_; clear hF a; intro a hF
        refine svg hF rfl ?_
        refine sv hF (v_lenS rfl sl51 rfl) rfl ?_; clear hF a; intro a hF
        refine svg hF rfl ?_
        refine sb hF (v_eql rfl rfl) rfl ?_ ?_
        · clear hF a; intro hc4 a hF
          try simp only [decide_eq_true_eq, decide_eq_false_iff_not, Bool.not_eq_true', Bool.not_eq_false', Bool.not_true, Bool.not_false] at hc4
          refine svg hF rfl ?_
          refine sv hF (v_move rfl) rfl ?_; clear hF a; intro a hF
          refine svn hF rfl rfl rfl ?_; clear hF a; intro a hF
          refine svn hF rfl rfl rfl ?_; clear hF a; intro a hF
          refine svn hF rfl rfl rfl ?_; clear hF a; intro a hF
          refine svu hF rfl rfl ?_; clear hF a; intro a hF
          refine svu hF rfl rfl ?_; clear hF a; intro a hF
          refine svn hF rfl rfl rfl ?_; clear hF a; intro a hF
          refine svg hF rfl ?_
          refine sv hF (v_pickT rfl rfl) rfl ?_; clear hF a; intro a hF
          refine sv hF (v_pickT rfl rfl) rfl ?_; clear hF a; intro a hF
          refine sv hF (v_move rfl) rfl ?_; clear hF a; intro a hF
          refine svg hF rfl ?_
          refine sv hF (v_move rfl) rfl ?_; clear hF a; intro a hF
          refine svg hF rfl ?_
          refine sc hF rfl rfl rfl en50 rfl (May_ok B 0 (some (16, 69643)) fv none 0 [] _ hS.inv hf (Mat.empty _ _ _ _ _ _) (by decide) (by simp)) ?_; clear hF a; intro v w' a hv hF
          obtain ⟨rfl, hS'⟩ := hv
          rw [mayM_no (o := (some (16, 69643))) (a := []) (fun h => by have := h.1; simp at this)] at hF
          replace hAma := (hAma.st hS').mono hS'.ext.size
          replace hf := hf.st hS'
          replace hZ := (hZ.st hS').mono hS'.ext.size
          replace hS := hS.trans hS'
          clear hS'
          refine svg hF rfl ?_
          refine sv hF (v_not rfl) rfl ?_; clear hF a; intro a hF
          refine sv hF (v_pickT rfl rfl) rfl ?_; clear hF a; intro a hF
          refine sv hF (v_move rfl) rfl ?_; clear hF a; intro a hF
          refine svg hF rfl ?_
          refine sv hF (v_move rfl) rfl ?_; clear hF a; intro a hF
          refine svg hF rfl ?_
          refine sc hF rfl rfl rfl en32 rfl (Identity_ok B n _ hS.inv hn) ?_; clear hF a; intro v w' a hv hF
          obtain ⟨obI_, hoI_, hS'⟩ := hv
          obtain ⟨sI_, cI_, rfl, hI_⟩ := hoI_.mat (by decide) (Nat.zero_le _)
          clear hoI_
          replace hAma := (hAma.st hS').mono hS'.ext.size
          replace hf := hf.st hS'
          replace hZ := (hZ.st hS').mono hS'.ext.size
          replace hS := hS.trans hS'
          clear hS'
          refine svg hF rfl ?_
          refine sv hF (v_lenS rfl sl53 rfl) rfl ?_; clear hF a; intro a hF
          refine svg hF rfl ?_
          refine sv hF (v_eql rfl rfl) rfl ?_; clear hF a; intro a hF
          refine svg hF rfl ?_
          refine sv hF (v_move rfl) rfl ?_; clear hF a; intro a hF
          refine svg hF rfl ?_
          refine sv hF ((v_eqlB Try.underlying4 rfl rfl).as (congrArg Value.bool (decide_eq_true (by have hz := identM_zero (n := n); first | (rw [decide_eq_true_iff]; omega) | (rw [decide_eq_decide]; omega))))) rfl ?_; clear hF a; intro a hF
          refine sv hF (v_pickT rfl rfl) rfl ?_; clear hF a; intro a hF
          refine sv hF (v_assign rfl) rfl ?_; clear hF a; intro a hF
          refine WL_nil (hK _ _ ?_)
          clear hK K
          replace hF := hF.sub _ (c_ 4 rfl (n_))
          refine W_ret ?_
          refine ⟨_, _, hF, rfl, ?_⟩
          exact ⟨rfl, hS⟩
        · clear hF a; intro hc4 a hF
          try simp only [decide_eq_true_eq, decide_eq_false_iff_not, Bool.not_eq_true', Bool.not_eq_false', Bool.not_true, Bool.not_false] at hc4
          refine svg hF rfl ?_
          refine sv hF (v_move rfl) rfl ?_; clear hF a; intro a hF
          refine svg hF rfl ?_
          refine sv hF (v_move rfl) rfl ?_; clear hF a; intro a hF
          refine svg hF rfl ?_
          refine sv hF ((v_eql rfl rfl).as (congrArg Value.bool (decide_eq_true (rfl)))) rfl ?_; clear hF a; intro a hF
          refine svg hF rfl ?_
          refine sv hF (v_move rfl) rfl ?_; clear hF a; intro a hF
          refine svg hF rfl ?_
          refine sv hF (v_move rfl) rfl ?_; clear hF a; intro a hF
          refine svg hF rfl ?_
          refine sv hF ((v_eql rfl rfl).as (congrArg Value.bool (decide_eq_true (by rw [pick_odd hfma (List.ne_nil_of_length_pos (by omega)) [0]]; rfl)))) rfl ?_; clear hF a; intro a hF
          refine svg hF rfl ?_
          refine sv hF (v_pickT rfl rfl) rfl ?_; clear hF a; intro a hF
          refine svg hF rfl ?_
          refine sv hF (v_pickF rfl rfl) rfl ?_; clear hF a; intro a hF
          refine sv hF (v_pickT rfl rfl) rfl ?_; clear hF a; intro a hF
          refine sv hF (v_move rfl) rfl ?_; clear hF a; intro a hF
          refine svg hF rfl ?_
          refine sv hF (v_move rfl) rfl ?_; clear hF a; intro a hF
          refine svg hF rfl ?_
          refine sc hF rfl rfl rfl en50 rfl (May_ok B 0 (some (16, 69643)) fv none 0 [] _ hS.inv hf (Mat.empty _ _ _ _ _ _) (by decide) (by simp)) ?_; clear hF a; intro v w' a hv hF
          obtain ⟨rfl, hS'⟩ := hv
          rw [mayM_no (o := (some (16, 69643))) (a := []) (fun h => by have := h.1; simp at this)] at hF
          replace hAma := (hAma.st hS').mono hS'.ext.size
          replace hf := hf.st hS'
          replace hZ := (hZ.st hS').mono hS'.ext.size
          replace hS := hS.trans hS'
          clear hS'
          refine svg hF rfl ?_
          refine sv hF (v_not rfl) rfl ?_; clear hF a; intro a hF
          refine sv hF (v_pickT rfl rfl) rfl ?_; clear hF a; intro a hF
          refine sv hF (v_move rfl) rfl ?_; clear hF a; intro a hF
          refine svg hF rfl ?_
          refine sv hF (v_move rfl) rfl ?_; clear hF a; intro a hF
          refine svg hF rfl ?_
          refine sc hF rfl rfl rfl en32 rfl (Identity_ok B n _ hS.inv hn) ?_; clear hF a; intro v w' a hv hF
          obtain ⟨obI_, hoI_, hS'⟩ := hv
          obtain ⟨sI_, cI_, rfl, hI_⟩ := hoI_.mat (by decide) (Nat.zero_le _)
          clear hoI_
          replace hAma := (hAma.st hS').mono hS'.ext.size
          replace hf := hf.st hS'
          replace hZ := (hZ.st hS').mono hS'.ext.size
          replace hS := hS.trans hS'
          clear hS'
          refine svg hF rfl ?_
          refine sv hF (v_lenS rfl sl53 rfl) rfl ?_; clear hF a; intro a hF
          refine svg hF rfl ?_
          refine sv hF (v_eql rfl rfl) rfl ?_; clear hF a; intro a hF
          refine svg hF rfl ?_
          refine sv hF (v_move rfl) rfl ?_; clear hF a; intro a hF
          refine svg hF rfl ?_
          refine sv hF ((v_eqlB Try.underlying4 rfl rfl).as (congrArg Value.bool (decide_eq_true (by have hz := identM_zero (n := n); first | (rw [decide_eq_true_iff]; omega) | (rw [decide_eq_decide]; omega))))) rfl ?_; clear hF a; intro a hF
          refine sv hF (v_pickT rfl rfl) rfl ?_; clear hF a; intro a hF
          refine sv hF (v_assign rfl) rfl ?_; clear hF a; intro a hF
          refine WL_nil (hK _ _ ?_)
          clear hK K
          replace hF := hF.sub _ (c_ 4 rfl (n_))
          refine W_ret ?_
          refine ⟨_, _, hF, rfl, ?_⟩
          exact ⟨rfl, hS⟩

end Go.Proofs.Ytlkifpmlpnaaoaa
