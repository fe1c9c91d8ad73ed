/- What the statements of layer 5 call first. -/
import Derived.Test.YtcnlooajjnghaaaGreatFInvD
import Derived.Test.YtcnlooajjnghaaaGreatFRef04b
import Derived.Test.YtcnlooajjnghaaaGreatFSame03
import Derived.Test.YtcnlooajjnghaaaGreatGInvL
set_option linter.unusedVariables false
set_option linter.unusedSimpArgs false
namespace Go.Proofs.YtcnlooajjnghaaaGreat
open Go Go.Gam


namespace FxFAw05
theorem en7 : Ent Tryz.prog 7 := ent Tryz.func7 (by kernel_rfl) (by kernel_rfl)
theorem en8 : Ent Tryz.prog 8 := ent Tryz.func8 (by kernel_rfl) (by kernel_rfl)
theorem en10 : Ent Tryz.prog 10 := ent Tryz.func10 (by kernel_rfl) (by kernel_rfl)
theorem en25 : Ent Tryz.prog 25 := ent Tryz.func25 (by kernel_rfl) (by kernel_rfl)
theorem sl22 : Sl Tryz.prog 22 23 (.slice none 0 0) 24 := sl_of Tryz.underlying22 rfl (by kernel_rfl)
theorem sl23 : Sl Tryz.prog 23 3 (.int .i64 0) 8 := sl_of Tryz.underlying23 rfl (by kernel_rfl)
theorem sl30 : Sl Tryz.prog 30 23 (.slice none 0 0) 24 := sl_of Tryz.underlying30 rfl (by kernel_rfl)
end FxFAw05
open FxFAw05

theorem Same4_t (B M : Nat) (pma : Option Addr) (cma : Nat) (ma : Mtx) (pmb : Option Addr) (cmb : Nat) (mb : Mtx) (w : World) (hI : Inv FDx B w) (hAma : Mat FDx B M w pma cma ma) (hAmb : Mat FDx B M w pmb cmb mb) (hlma : ma.length ≤ 1000) (hbma : ∀ r ∈ ma, r.length ≤ 1000) (e : ma = mb) :
    Ret Tryz.prog 14 [.slice pma ma.length cma, .slice pmb mb.length cmb] w fun v w' => v = .bool true ∧ St FDx B w w' :=
  (Same04_ok B M pma cma ma pmb cmb mb w hI hAma hAmb hlma hbma).mono fun v w' h => by rw [decide_eq_true e] at h; exact h

theorem Ints4_t (B M : Nat) (sx sy : Option Addr) (cx cy : Nat) (x y : List Int) (w : World) (hI : Inv FDx B w) (hx : Row FDx B M w (.slice sx x.length cx) (zints x)) (hy : Row FDx B M w (.slice sy y.length cy) (zints y)) (hl : x.length < 1000000) (e : x = y) :
    Ret Tryz.prog 15 [.slice sx x.length cx, .slice sy y.length cy] w fun v w' => v = .bool true ∧ St FDx B w w' :=
  (Ints_ok B M sx sy cx cy x y w hI hx hy hl).mono fun v w' h => by rw [decide_eq_true e] at h; exact h

set_option maxRecDepth 100000 in
set_option maxHeartbeats 1000000 in
theorem field5_ok (B : Nat) (lg : Bool) (w : World) (hI : Inv FDx B w) : Ret Tryz.prog 7 [.bool lg] w fun v w' => ∃ fv, v = .tuple #[fv, .int .i64 ((fq lg).1 : Int), .int .u32 ((fq lg).2 : Int)] ∧ Fo FDx B w' fv (some (fq lg)) ∧ St FDx B w w' := by
  refine enter3 8 [(0, .bool lg)] 2 3 4 Tryz.func7 rfl rfl rfl rfl rfl ?_; intro a hF
  have hS := St.refl hI
  refine W_sr rfl (fun K hK => ?_)
  refine sv hF (v_assign rfl) rfl ?_; clear hF a; intro a hF
  refine sv hF (v_assign rfl) rfl ?_; clear hF a; intro a hF
  refine sv hF (v_assign rfl) rfl ?_; clear hF a; intro a hF
  refine WL_nil (hK _ _ ?_)
  clear hK K
  refine W_seq ?_
  refine W_sr rfl (fun K hK => ?_)
  refine sv hF (v_move rfl) rfl ?_; clear hF a; intro a hF
  refine WL_nil (hK _ _ ?_)
  clear hK K
  replace hF := hF.sub _ (c_ 5 rfl (c_ 4 rfl (c_ 3 rfl (c_ 2 rfl (n_)))))
  refine W_if hF rfl (fun hc1 => ?_) (fun hc1 => ?_)
  · skip
    try simp only [decide_eq_true_eq, decide_eq_false_iff_not, Bool.not_eq_true', Bool.not_eq_false', Bool.not_true, Bool.not_false] at hc1
    obtain rfl : lg = true := by assumption
    refine W_sr rfl (fun K hK => ?_)
    refine sc hF rfl rfl rfl en25 rfl (New_ok B 16 69643 _ hS.inv (by decide) (by decide)) ?_; clear hF a; intro v w' a hv hF
    obtain ⟨hf, hS'⟩ := hv
    obtain ⟨fv, rfl⟩ : ∃ x, x = v := ⟨_, rfl⟩
    rw [show newF 16 69643 = some (16, 69643) from newF_p prm_69643] at hf
    replace hS := hS.trans hS'
    clear hS'
    refine sv hF (v_assign rfl) rfl ?_; clear hF a; intro a hF
    refine sv hF (v_assign rfl) rfl ?_; clear hF a; intro a hF
    refine sv hF (v_assign rfl) rfl ?_; clear hF a; intro a hF
    refine WL_nil (hK _ _ ?_)
    clear hK K
    replace hF := hF.sub _ (c_ 4 rfl (c_ 3 rfl (c_ 2 rfl (n_))))
    refine W_ret ?_
    refine ⟨_, _, _, _, hF, rfl, rfl, rfl, ?_⟩
    exact ⟨fv, rfl, hf, hS⟩
  · skip
    try simp only [decide_eq_true_eq, decide_eq_false_iff_not, Bool.not_eq_true', Bool.not_eq_false', Bool.not_true, Bool.not_false] at hc1
    obtain rfl : lg = false := by assumption
    refine W_skip ?_
    refine W_sr rfl (fun K hK => ?_)
    refine sc hF rfl rfl rfl en25 rfl (New_ok B 8 285 _ hS.inv (by decide) (by decide)) ?_; clear hF a; intro v w' a hv hF
    obtain ⟨hf, hS'⟩ := hv
    obtain ⟨fv, rfl⟩ : ∃ x, x = v := ⟨_, rfl⟩
    rw [show newF 8 285 = some (8, 285) from newF_p prm_285] at hf
    replace hS := hS.trans hS'
    clear hS'
    refine sv hF (v_assign rfl) rfl ?_; clear hF a; intro a hF
    refine sv hF (v_assign rfl) rfl ?_; clear hF a; intro a hF
    refine sv hF (v_assign rfl) rfl ?_; clear hF a; intro a hF
    refine WL_nil (hK _ _ ?_)
    clear hK K
    replace hF := hF.sub _ (c_ 4 rfl (c_ 3 rfl (c_ 2 rfl (n_))))
    refine W_ret ?_
    refine ⟨_, _, _, _, hF, rfl, rfl, rfl, ?_⟩
    exact ⟨fv, rfl, hf, hS⟩

set_option maxRecDepth 100000 in
set_option maxHeartbeats 1000000 in
theorem aw05_ok (B : Nat) (w : World) (hI : Inv FDx B w) : Ret Tryz.prog 5 [] w fun v w' => v = .bool true ∧ St FDx B w w' := by
  refine enter 58 [] 0 Tryz.func5 rfl rfl rfl rfl rfl ?_; intro a hF
  have hS := St.refl hI
  refine W_sr rfl (fun K hK => ?_)
  refine sv hF (v_assign rfl) rfl ?_; clear hF a; intro a hF
  refine WL_nil (hK _ _ ?_)
  clear hK K
  refine W_sr rfl (fun K hK => ?_)
  refine sc hF rfl rfl rfl en7 rfl (field5_ok B false _ hS.inv) ?_; clear hF a; intro v w' a hv hF
  obtain ⟨fv, rfl, hf, hS'⟩ := hv
  rw [show fq false = (8, 285) from rfl] at hf
  replace hS := hS.trans hS'
  clear hS'
  refine sv hF (v_move rfl) rfl ?_; clear hF a; intro a hF
  refine sv hF (v_ext rfl rfl) rfl ?_; clear hF a; intro a hF
  refine sv hF (v_ext rfl rfl) rfl ?_; clear hF a; intro a hF
  refine sv hF (v_ext rfl rfl) rfl ?_; clear hF a; intro a hF
  refine sv hF (v_assign rfl) rfl ?_; clear hF a; intro a hF
  refine sv hF (v_assign rfl) rfl ?_; clear hF a; intro a hF
  refine sv hF (v_assign rfl) rfl ?_; clear hF a; intro a hF
  refine WL_nil (hK _ _ ?_)
  clear hK K
  replace hF := hF.sub _ (c_ 1 rfl (c_ 0 rfl (n_)))
  obtain ⟨x5, hx5, hx5l⟩ := aw5_inv
  refine W_sr rfl (fun K hK => ?_)
  refine sv hF (v_move rfl) rfl ?_; clear hF a; intro a hF
  refine s_bs (D := FDx) (B := B) hF sl23 rfl rfl (by decide) (by simp [Value.cells]) (by decide) hS.inv rfl ?_; clear hF a; intro w' a hm hI' h1 hF
  replace hf := hf.mb hm
  replace hS := hS.mb0 hm
  clear hm hI'
  refine s_bs (D := FDx) (B := B) hF sl23 rfl rfl (by decide) (by simp [Value.cells]) (by decide) hS.inv rfl ?_; clear hF a; intro w' a hm hI' h2 hF
  replace hf := hf.mb hm
  replace h1 := h1.mb hm (fun _ _ => by simp)
  replace hS := hS.mb0 hm
  clear hm hI'
  refine s_bs (D := FDx) (B := B) hF sl30 rfl rfl (by decide) (by simp [Value.cells]) (by decide) hS.inv rfl ?_; clear hF a; intro w' a hm hI' h3 hF
  replace hf := hf.mb hm
  replace h1 := h1.mb hm (fun _ _ => by simp)
  replace h2 := h2.mb hm (fun _ _ => by simp)
  replace hS := hS.mb0 hm
  clear hm hI'
  refine sc hF rfl rfl rfl en8 rfl (Inverse_ok B _ 8 285 prm_285 fv _ _ [[1, 1], [1, 2]] _ hS.inv (Nat.le_refl _) hf (Mat.two h3 (by decide) ((h1.cast (ys := zints [1, 1]) rfl).row (by decide)) ((h2.cast (ys := zints [1, 2]) rfl).row (by decide))) (aw5_len _ _ _ _).1 (aw5_len _ _ _ _).2) ?_; clear hF a; intro v w' a hv hF
  obtain ⟨obX, uX, rfl, hoX, hS'⟩ := hv
  rw [hx5] at hoX hF
  dsimp only at hoX hF
  obtain ⟨sX, cX, rfl, hX⟩ := hoX.mat (by decide) (Nat.zero_le _)
  clear hoX
  replace hf := hf.st hS'
  replace hS := hS.trans hS'
  clear hS'
  refine sv hF (v_move rfl) rfl ?_; clear hF a; intro a hF
  refine sv hF (v_ext rfl rfl) rfl ?_; clear hF a; intro a hF
  refine sv hF (v_ext rfl rfl) rfl ?_; clear hF a; intro a hF
  refine sv hF (v_assign rfl) rfl ?_; clear hF a; intro a hF
  refine sv hF (v_assign rfl) rfl ?_; clear hF a; intro a hF
  refine WL_nil (hK _ _ ?_)
  clear hK K
  replace hF := hF.sub _ (c_ 5 rfl (c_ 4 rfl (c_ 1 rfl (c_ 0 rfl (n_)))))
  refine W_sr rfl (fun K hK => ?_)
  refine sv hF (v_move rfl) rfl ?_; clear hF a; intro a hF
  refine s_bs (D := FDx) (B := B) hF sl23 rfl rfl (by decide) (by simp [Value.cells]) (by decide) hS.inv rfl ?_; clear hF a; intro w' a hm hI' h1 hF
  replace hf := hf.mb hm
  replace hS := hS.mb0 hm
  clear hm hI'
  refine s_bs (D := FDx) (B := B) hF sl23 rfl rfl (by decide) (by simp [Value.cells]) (by decide) hS.inv rfl ?_; clear hF a; intro w' a hm hI' h2 hF
  replace hf := hf.mb hm
  replace h1 := h1.mb hm (fun _ _ => by simp)
  replace hS := hS.mb0 hm
  clear hm hI'
  refine s_bs (D := FDx) (B := B) hF sl30 rfl rfl (by decide) (by simp [Value.cells]) (by decide) hS.inv rfl ?_; clear hF a; intro w' a hm hI' h3 hF
  replace hf := hf.mb hm
  replace h1 := h1.mb hm (fun _ _ => by simp)
  replace h2 := h2.mb hm (fun _ _ => by simp)
  replace hS := hS.mb0 hm
  clear hm hI'
  refine sc hF rfl rfl rfl en8 rfl (Inverse_ok B _ 8 285 prm_285 fv _ _ [[1, 1], [1, 1]] _ hS.inv (Nat.le_refl _) hf (Mat.two h3 (by decide) ((h1.cast (ys := zints [1, 1]) rfl).row (by decide)) ((h2.cast (ys := zints [1, 1]) rfl).row (by decide))) (aw5_len _ _ _ _).1 (aw5_len _ _ _ _).2) ?_; clear hF a; intro v w' a hv hF
  obtain ⟨obY, uY, rfl, hoY, hS'⟩ := hv
  rw [aw5_no] at hoY hF
  dsimp only at hoY hF
  obtain ⟨sY, cY, rfl, hY⟩ := hoY.mat (by decide) (Nat.zero_le _)
  clear hoY
  replace hf := hf.st hS'
  replace hS := hS.trans hS'
  clear hS'
  refine sv hF (v_move rfl) rfl ?_; clear hF a; intro a hF
  refine sv hF (v_ext rfl rfl) rfl ?_; clear hF a; intro a hF
  refine sv hF (v_ext rfl rfl) rfl ?_; clear hF a; intro a hF
  refine sv hF (v_assign rfl) rfl ?_; clear hF a; intro a hF
  refine sv hF (v_assign rfl) rfl ?_; clear hF a; intro a hF
  refine WL_nil (hK _ _ ?_)
  clear hK K
  replace hF := hF.sub _ (c_ 7 rfl (c_ 5 rfl (c_ 4 rfl (c_ 1 rfl (c_ 0 rfl (n_))))))
  refine W_sr rfl (fun K hK => ?_)
  refine sv hF (v_move rfl) rfl ?_; clear hF a; intro a hF
  refine s_bs (D := FDx) (B := B) hF sl23 rfl rfl (by decide) (by simp [Value.cells]) (by decide) hS.inv rfl ?_; clear hF a; intro w' a hm hI' h1 hF
  replace hf := hf.mb hm
  replace hS := hS.mb0 hm
  clear hm hI'
  refine s_bs (D := FDx) (B := B) hF sl23 rfl rfl (by decide) (by simp [Value.cells]) (by decide) hS.inv rfl ?_; clear hF a; intro w' a hm hI' h2 hF
  replace hf := hf.mb hm
  replace h1 := h1.mb hm (fun _ _ => by simp)
  replace hS := hS.mb0 hm
  clear hm hI'
  refine s_bs (D := FDx) (B := B) hF sl30 rfl rfl (by decide) (by simp [Value.cells]) (by decide) hS.inv rfl ?_; clear hF a; intro w' a hm hI' h3 hF
  replace hf := hf.mb hm
  replace h1 := h1.mb hm (fun _ _ => by simp)
  replace h2 := h2.mb hm (fun _ _ => by simp)
  replace hS := hS.mb0 hm
  clear hm hI'
  refine sc hF rfl rfl rfl en10 rfl (Rank_ok B _ 8 285 prm_285 fv _ _ [[1, 1], [1, 1]] _ hS.inv (Nat.le_refl _) hf (Mat.two h3 (by decide) ((h1.cast (ys := zints [1, 1]) rfl).row (by decide)) ((h2.cast (ys := zints [1, 1]) rfl).row (by decide))) (aw5_len _ _ _ _).1 (aw5_len _ _ _ _).2) ?_; clear hF a; intro v w' a hv hF
  obtain ⟨rfl, hS'⟩ := hv
  rw [aw5_rank] at hF
  dsimp only at hF
  replace hf := hf.st hS'
  replace hS := hS.trans hS'
  clear hS'
  refine sv hF (v_move rfl) rfl ?_; clear hF a; intro a hF
  refine sv hF (v_ext rfl rfl) rfl ?_; clear hF a; intro a hF
  refine sv hF (v_ext rfl rfl) rfl ?_; clear hF a; intro a hF
  refine sv hF (v_assign rfl) rfl ?_; clear hF a; intro a hF
  refine sv hF (v_assign rfl) rfl ?_; clear hF a; intro a hF
  refine WL_nil (hK _ _ ?_)
  clear hK K
  replace hF := hF.sub _ (c_ 9 rfl (c_ 8 rfl (c_ 7 rfl (c_ 5 rfl (c_ 4 rfl (c_ 0 rfl (n_)))))))
  refine W_sr rfl (fun K hK => ?_)
  refine sv hF (v_move rfl) rfl ?_; clear hF a; intro a hF
  refine sv hF ((v_eql rfl rfl).as (congrArg Value.bool (decide_eq_true (rfl)))) rfl ?_; clear hF a; intro a hF
  refine sv hF (v_move rfl) rfl ?_; clear hF a; intro a hF
  refine svg hF rfl ?_
  refine sv hF (v_move rfl) rfl ?_; clear hF a; intro a hF
  refine svg hF rfl ?_
  refine sv hF (v_lenS rfl sl30 rfl) rfl ?_; clear hF a; intro a hF
  refine svg hF rfl ?_
  refine sv hF ((v_eql rfl rfl).as (congrArg Value.bool (decide_eq_true (by omega)))) rfl ?_; clear hF a; intro a hF
  refine sv hF (v_pickT rfl rfl) rfl ?_; clear hF a; intro a hF
  refine sv hF (v_move rfl) rfl ?_; clear hF a; intro a hF
  refine svg hF rfl ?_
  refine sv hF (v_move rfl) rfl ?_; clear hF a; intro a hF
  refine svg hF rfl ?_
  refine sv hF ((v_eql rfl rfl).as (congrArg Value.bool (decide_eq_true (rfl)))) rfl ?_; clear hF a; intro a hF
  refine sv hF (v_pickT rfl rfl) rfl ?_; clear hF a; intro a hF
  refine sv hF (v_move rfl) rfl ?_; clear hF a; intro a hF
  refine svg hF rfl ?_
  refine sv hF (v_move rfl) rfl ?_; clear hF a; intro a hF
  refine svg hF rfl ?_
  refine sv hF ((v_eql rfl rfl).as (congrArg Value.bool (decide_eq_true (rfl)))) rfl ?_; clear hF a; intro a hF
  refine sv hF (v_pickT rfl rfl) rfl ?_; clear hF a; intro a hF
  refine sv hF (v_move rfl) rfl ?_; clear hF a; intro a hF
  refine svg hF rfl ?_
  refine sv hF (v_move rfl) rfl ?_; clear hF a; intro a hF
  refine svg hF rfl ?_
  refine sv hF ((v_eql rfl rfl).as (congrArg Value.bool (decide_eq_true (rfl)))) rfl ?_; clear hF a; intro a hF
  refine sv hF (v_pickT rfl rfl) rfl ?_; clear hF a; intro a hF
  refine sv hF (v_assign rfl) rfl ?_; clear hF a; intro a hF
  refine WL_nil (hK _ _ ?_)
  clear hK K
  replace hF := hF.sub _ (c_ 0 rfl (n_))
  refine W_ret ?_
  refine ⟨_, _, hF, rfl, ?_⟩
  exact ⟨rfl, hS⟩

end Go.Proofs.YtcnlooajjnghaaaGreat
