/- The statements of layer 1, walked: each returns true. -/
import Derived.Test.YtfpfgkkcmdfdiaaFAw01
import Derived.Test.YtfpfgkkcmdfdiaaGLaw
set_option linter.unusedVariables false
set_option linter.unusedSimpArgs false
namespace Go.Proofs.Ytfpfgkkcmdfdiaa
open Go Go.Gam


theorem en15 : Ent Try.prog 15 := ent Try.func15 (by kernel_rfl) (by kernel_rfl)
theorem en27 : Ent Try.prog 27 := ent Try.func27 (by kernel_rfl) (by kernel_rfl)
theorem en28 : Ent Try.prog 28 := ent Try.func28 (by kernel_rfl) (by kernel_rfl)
theorem ar24 : ArrOf Try.prog 24 3 := ar_of Try.underlying24 (by kernel_rfl)
theorem ar33 : ArrOf Try.prog 33 4 := ar_of Try.underlying33 (by kernel_rfl)
theorem hmix : Try.prog.follows .mixedOrders = true := by kernel_rfl
theorem sl36 : Sl Try.prog 36 23 (.int .u32 0) 4 := sl_of Try.underlying36 rfl (by kernel_rfl)

set_option maxRecDepth 100000 in
set_option maxHeartbeats 4000000 in
theorem PolyRing_ok (B x y z : Nat) (w : World) (hI : Inv FDx B w) (hx : x < 4294967296) (hy : y < 4294967296) (hz : z < 4294967296) : Ret Try.prog 5 [.int .u32 (x : Int), .int .u32 (y : Int), .int .u32 (z : Int)] w fun v w' => v = .bool true ∧ St FDx B w w'  := by
  refine enter 57 [(0, .int .u32 (x : Int)), (1, .int .u32 (y : Int)), (2, .int .u32 (z : Int))] 6 Try.func5 rfl rfl rfl rfl rfl ?_; intro a hF
  have hS := St.refl hI
  have hyz : y ^^^ z < 4294967296 := Px.xor_lt (k := 32) hy hz
  have hxy := mul_lt64 hx hy
  have hxz := mul_lt64 hx hz
  refine W_sr rfl (fun K hK => ?_)
  refine sv hF (v_assign rfl) rfl ?_; clear hF a; intro a hF
  refine WL_nil (hK _ _ ?_)
  clear hK K
  refine W_sr rfl (fun K hK => ?_)
  refine sc hF rfl rfl rfl en15 rfl (aw01_ok B _ hS.inv) ?_; clear hF a; intro v w' a hv hF
  obtain ⟨rfl, hS'⟩ := hv
  replace hS := hS.trans hS'
  clear hS'
  refine sv hF (v_assign rfl) rfl ?_; clear hF a; intro a hF
  refine WL_nil (hK _ _ ?_)
  clear hK K
  replace hF := hF.sub _ (c_ 7 rfl (c_ 6 rfl (c_ 0 rfl (c_ 1 rfl (c_ 2 rfl (n_))))))
  refine W_sr rfl (fun K hK => ?_)
  refine sv hF (v_move rfl) rfl ?_; clear hF a; intro a hF
  refine sv hF (v_move rfl) rfl ?_; clear hF a; intro a hF
  refine svg hF rfl ?_
  refine sv hF (v_move rfl) rfl ?_; clear hF a; intro a hF
  refine svg hF rfl ?_
  refine sv hF (v_move rfl) rfl ?_; clear hF a; intro a hF
  refine svg hF rfl ?_
  refine sc hF rfl rfl rfl en18 rfl (Mul_ok B x y _ hS.inv hx hy) ?_; clear hF a; intro v w' a hv hF
  obtain ⟨rfl, hS'⟩ := hv
  replace hS := hS.trans hS'
  clear hS'
  refine svg hF rfl ?_
  refine sv hF (v_move rfl) rfl ?_; clear hF a; intro a hF
  refine svg hF rfl ?_
  refine sv hF (v_move rfl) rfl ?_; clear hF a; intro a hF
  refine svg hF rfl ?_
  refine sc hF rfl rfl rfl en18 rfl (Mul_ok B y x _ hS.inv hy hx) ?_; clear hF a; intro v w' a hv hF
  obtain ⟨rfl, hS'⟩ := hv
  replace hS := hS.trans hS'
  clear hS'
  refine svg hF rfl ?_
  refine sv hF ((v_eql rfl rfl).as (congrArg Value.bool (decide_eq_true (by rw [Px.mul_comm])))) rfl ?_; clear hF a; intro a hF
  refine sv hF (v_pickT rfl rfl) rfl ?_; clear hF a; intro a hF
  refine sv hF (v_move rfl) rfl ?_; clear hF a; intro a hF
  refine svg hF rfl ?_
  refine sv hF (v_move rfl) rfl ?_; clear hF a; intro a hF
  refine svg hF rfl ?_
  refine sv hF (v_move rfl) rfl ?_; clear hF a; intro a hF
  refine svg hF rfl ?_
  refine sv hF (v_move rfl) rfl ?_; clear hF a; intro a hF
  refine svg hF rfl ?_
  refine sv hF (v_xorN rfl rfl (fits_u32 (by omega)) (fits_u32 (by omega))) rfl ?_; clear hF a; intro a hF
  refine svg hF rfl ?_
  refine sc hF rfl rfl rfl en18 rfl (Mul_ok B x (y ^^^ z) _ hS.inv hx hyz) ?_; clear hF a; intro v w' a hv hF
  obtain ⟨rfl, hS'⟩ := hv
  replace hS := hS.trans hS'
  clear hS'
  refine svg hF rfl ?_
  refine sv hF (v_move rfl) rfl ?_; clear hF a; intro a hF
  refine svg hF rfl ?_
  refine sv hF (v_move rfl) rfl ?_; clear hF a; intro a hF
  refine svg hF rfl ?_
  refine sc hF rfl rfl rfl en18 rfl (Mul_ok B x y _ hS.inv hx hy) ?_; clear hF a; intro v w' a hv hF
  obtain ⟨rfl, hS'⟩ := hv
  replace hS := hS.trans hS'
  clear hS'
  refine svg hF rfl ?_
  refine sv hF (v_move rfl) rfl ?_; clear hF a; intro a hF
  refine svg hF rfl ?_
  refine sv hF (v_move rfl) rfl ?_; clear hF a; intro a hF
  refine svg hF rfl ?_
  refine sc hF rfl rfl rfl en18 rfl (Mul_ok B x z _ hS.inv hx hz) ?_; clear hF a; intro v w' a hv hF
  obtain ⟨rfl, hS'⟩ := hv
  replace hS := hS.trans hS'
  clear hS'
  refine svg hF rfl ?_
  refine sv hF (v_xorN rfl rfl (fits_u64 (by omega)) (fits_u64 (by omega))) rfl ?_; clear hF a; intro a hF
  refine svg hF rfl ?_
  refine sv hF ((v_eql rfl rfl).as (congrArg Value.bool (decide_eq_true (by rw [Px.mul_xor])))) rfl ?_; clear hF a; intro a hF
  refine sv hF (v_pickT rfl rfl) rfl ?_; clear hF a; intro a hF
  refine sv hF (v_move rfl) rfl ?_; clear hF a; intro a hF
  refine svg hF rfl ?_
  refine sv hF (v_move rfl) rfl ?_; clear hF a; intro a hF
  refine svg hF rfl ?_
  refine sc hF rfl rfl rfl en18 rfl (Mul_ok B x 1 _ hS.inv hx (by decide)) ?_; clear hF a; intro v w' a hv hF
  obtain ⟨rfl, hS'⟩ := hv
  replace hS := hS.trans hS'
  clear hS'
  refine svg hF rfl ?_
  refine sv hF (v_move rfl) rfl ?_; clear hF a; intro a hF
  refine svg hF rfl ?_
  refine sv hF (v_cv Try.underlying23 Try.underlying22 rfl (wrap_u64 _ (by omega))) rfl ?_; clear hF a; intro a hF
  refine svg hF rfl ?_
  refine sv hF ((v_eql rfl rfl).as (congrArg Value.bool (decide_eq_true (by rw [Px.mul_one])))) rfl ?_; clear hF a; intro a hF
  refine sv hF (v_pickT rfl rfl) rfl ?_; clear hF a; intro a hF
  refine sv hF (v_move rfl) rfl ?_; clear hF a; intro a hF
  refine svg hF rfl ?_
  refine sv hF (v_move rfl) rfl ?_; clear hF a; intro a hF
  refine svg hF rfl ?_
  refine sc hF rfl rfl rfl en18 rfl (Mul_ok B x 2 _ hS.inv hx (by decide)) ?_; clear hF a; intro v w' a hv hF
  obtain ⟨rfl, hS'⟩ := hv
  replace hS := hS.trans hS'
  clear hS'
  refine svg hF rfl ?_
  refine sv hF (v_move rfl) rfl ?_; clear hF a; intro a hF
  refine svg hF rfl ?_
  refine sv hF (v_cv Try.underlying23 Try.underlying22 rfl (wrap_u64 _ (by omega))) rfl ?_; clear hF a; intro a hF
  refine svg hF rfl ?_
  refine sv hF ((v_mul rfl rfl).as (congrArg _ (wrap_u64 _ (by omega)))) rfl ?_; clear hF a; intro a hF
  refine svg hF rfl ?_
  refine sv hF ((v_eql rfl rfl).as (congrArg Value.bool (decide_eq_true (by rw [Px.mul_two]; omega)))) rfl ?_; clear hF a; intro a hF
  refine sv hF (v_pickT rfl rfl) rfl ?_; clear hF a; intro a hF
  refine sv hF (v_move rfl) rfl ?_; clear hF a; intro a hF
  refine svg hF rfl ?_
  refine sv hF (v_move rfl) rfl ?_; clear hF a; intro a hF
  refine svg hF rfl ?_
  refine sv hF (v_move rfl) rfl ?_; clear hF a; intro a hF
  refine svg hF rfl ?_
  refine sc hF rfl rfl rfl en18 rfl (Mul_ok B x y _ hS.inv hx hy) ?_; clear hF a; intro v w' a hv hF
  obtain ⟨rfl, hS'⟩ := hv
  replace hS := hS.trans hS'
  clear hS'
  refine svg hF rfl ?_
  refine sv hF (v_move rfl) rfl ?_; clear hF a; intro a hF
  refine svg hF rfl ?_
  refine sc hF rfl rfl rfl en20 rfl (Mod_ok B (Px.mul x y) x _ hS.inv hxy hx) ?_; clear hF a; intro v w' a hv hF
  obtain ⟨rfl, hS'⟩ := hv
  replace hS := hS.trans hS'
  clear hS'
  refine svg hF rfl ?_
  refine sv hF ((v_eql rfl rfl).as (congrArg Value.bool (decide_eq_true (by rw [Px.mul_comm, Px.mod_mul_self]; rfl)))) rfl ?_; clear hF a; intro a hF
  refine sv hF (v_pickT rfl rfl) rfl ?_; clear hF a; intro a hF
  refine sv hF (v_assign rfl) rfl ?_; clear hF a; intro a hF
  refine WL_nil (hK _ _ ?_)
  clear hK K
  replace hF := hF.sub _ (c_ 6 rfl (n_))
  refine W_ret ?_
  refine ⟨_, _, hF, rfl, ?_⟩
  exact ⟨rfl, hS⟩

set_option maxRecDepth 100000 in
set_option maxHeartbeats 4000000 in
theorem PolyDegree_ok (B x y : Nat) (w : World) (hI : Inv FDx B w) (hx : x < 4294967296) (hy : y < 4294967296) : Ret Try.prog 8 [.int .u32 (x : Int), .int .u32 (y : Int)] w fun v w' => v = .bool true ∧ St FDx B w w'  := by
  refine enter 39 [(0, .int .u32 (x : Int)), (1, .int .u32 (y : Int))] 4 Try.func8 rfl rfl rfl rfl rfl ?_; intro a hF
  have hS := St.refl hI
  have hxy := mul_lt64 hx hy
  refine W_sr rfl (fun K hK => ?_)
  refine sv hF (v_assign rfl) rfl ?_; clear hF a; intro a hF
  refine WL_nil (hK _ _ ?_)
  clear hK K
  refine W_sr rfl (fun K hK => ?_)
  refine sc hF rfl rfl rfl en15 rfl (aw01_ok B _ hS.inv) ?_; clear hF a; intro v w' a hv hF
  obtain ⟨rfl, hS'⟩ := hv
  replace hS := hS.trans hS'
  clear hS'
  refine sv hF (v_assign rfl) rfl ?_; clear hF a; intro a hF
  refine WL_nil (hK _ _ ?_)
  clear hK K
  replace hF := hF.sub _ (c_ 5 rfl (c_ 4 rfl (c_ 0 rfl (c_ 1 rfl (n_)))))
  refine W_seq ?_
  refine W_sr rfl (fun K hK => ?_)
  refine sv hF (v_move rfl) rfl ?_; clear hF a; intro a hF
  refine sb hF (v_eql rfl rfl) rfl ?_ ?_
  · clear hF a; intro hc1 a hF
    try simp only [decide_eq_true_eq, decide_eq_false_iff_not, Bool.not_eq_true', Bool.not_eq_false', Bool.not_true, Bool.not_false] at hc1
    refine sv hF (v_move rfl) rfl ?_; clear hF a; intro a hF
    refine svn hF rfl rfl rfl ?_; clear hF a; intro a hF
    refine svn hF rfl rfl rfl ?_; clear hF a; intro a hF
    refine sv hF (v_pickT rfl rfl) rfl ?_; clear hF a; intro a hF
    refine WL_nil (hK _ _ ?_)
    clear hK K
    replace hF := hF.sub _ (c_ 12 rfl (c_ 5 rfl (c_ 4 rfl (c_ 0 rfl (c_ 1 rfl (n_))))))
    refine W_ifT hF rfl ?_
    refine W_sr rfl (fun K hK => ?_)
    refine sv hF (v_move rfl) rfl ?_; clear hF a; intro a hF
    refine sv hF (v_move rfl) rfl ?_; clear hF a; intro a hF
    refine svg hF rfl ?_
    refine sv hF (v_move rfl) rfl ?_; clear hF a; intro a hF
    refine svg hF rfl ?_
    refine sv hF (v_move rfl) rfl ?_; clear hF a; intro a hF
    refine svg hF rfl ?_
    refine sc hF rfl rfl rfl en18 rfl (Mul_ok B x y _ hS.inv hx hy) ?_; clear hF a; intro v w' a hv hF
    obtain ⟨rfl, hS'⟩ := hv
    replace hS := hS.trans hS'
    clear hS'
    refine svg hF rfl ?_
    refine sv hF ((v_eql rfl rfl).as (congrArg Value.bool (decide_eq_true (by rw [mul_z (by omega)]; rfl)))) rfl ?_; clear hF a; intro a hF
    refine sv hF (v_pickT rfl rfl) rfl ?_; clear hF a; intro a hF
    refine sv hF (v_move rfl) rfl ?_; clear hF a; intro a hF
    refine svg hF rfl ?_
    refine sc hF rfl rfl rfl en16 rfl (Deg_ok B 0 _ hS.inv (by decide)) ?_; clear hF a; intro v w' a hv hF
    obtain ⟨rfl, hS'⟩ := hv
    replace hS := hS.trans hS'
    clear hS'
    refine svg hF rfl ?_
    refine sv hF ((v_eql rfl rfl).as (congrArg Value.bool (decide_eq_true rfl))) rfl ?_; clear hF a; intro a hF
    refine sv hF (v_pickT rfl rfl) rfl ?_; clear hF a; intro a hF
    refine sv hF (v_assign rfl) rfl ?_; clear hF a; intro a hF
    refine WL_nil (hK _ _ ?_)
    clear hK K
    replace hF := hF.sub _ (c_ 4 rfl (c_ 5 rfl (c_ 0 rfl (c_ 1 rfl (n_)))))
    refine W_ret ?_
    refine ⟨_, _, hF, rfl, ?_⟩
    exact ⟨rfl, hS⟩
  · clear hF a; intro hc1 a hF
    try simp only [decide_eq_true_eq, decide_eq_false_iff_not, Bool.not_eq_true', Bool.not_eq_false', Bool.not_true, Bool.not_false] at hc1
    refine sv hF (v_move rfl) rfl ?_; clear hF a; intro a hF
    refine svg hF rfl ?_
    refine sv hF (v_move rfl) rfl ?_; clear hF a; intro a hF
    refine svg hF rfl ?_
    refine sv hF (v_eql rfl rfl) rfl ?_; clear hF a; intro a hF
    refine sv hF (v_pickF rfl rfl) rfl ?_; clear hF a; intro a hF
    refine WL_nil (hK _ _ ?_)
    clear hK K
    replace hF := hF.sub _ (c_ 12 rfl (c_ 5 rfl (c_ 4 rfl (c_ 0 rfl (c_ 1 rfl (n_))))))
    refine W_if hF rfl (fun hc2 => ?_) (fun hc2 => ?_)
    · skip
      try simp only [decide_eq_true_eq, decide_eq_false_iff_not, Bool.not_eq_true', Bool.not_eq_false', Bool.not_true, Bool.not_false] at hc2
      refine W_sr rfl (fun K hK => ?_)
      refine sv hF (v_move rfl) rfl ?_; clear hF a; intro a hF
      refine sv hF (v_move rfl) rfl ?_; clear hF a; intro a hF
      refine svg hF rfl ?_
      refine sv hF (v_move rfl) rfl ?_; clear hF a; intro a hF
      refine svg hF rfl ?_
      refine sv hF (v_move rfl) rfl ?_; clear hF a; intro a hF
      refine svg hF rfl ?_
      refine sc hF rfl rfl rfl en18 rfl (Mul_ok B x y _ hS.inv hx hy) ?_; clear hF a; intro v w' a hv hF
      obtain ⟨rfl, hS'⟩ := hv
      replace hS := hS.trans hS'
      clear hS'
      refine svg hF rfl ?_
      refine sv hF ((v_eql rfl rfl).as (congrArg Value.bool (decide_eq_true (by rw [mul_z (by omega)]; rfl)))) rfl ?_; clear hF a; intro a hF
      refine sv hF (v_pickT rfl rfl) rfl ?_; clear hF a; intro a hF
      refine sv hF (v_move rfl) rfl ?_; clear hF a; intro a hF
      refine svg hF rfl ?_
      refine sc hF rfl rfl rfl en16 rfl (Deg_ok B 0 _ hS.inv (by decide)) ?_; clear hF a; intro v w' a hv hF
      obtain ⟨rfl, hS'⟩ := hv
      replace hS := hS.trans hS'
      clear hS'
      refine svg hF rfl ?_
      refine sv hF ((v_eql rfl rfl).as (congrArg Value.bool (decide_eq_true rfl))) rfl ?_; clear hF a; intro a hF
      refine sv hF (v_pickT rfl rfl) rfl ?_; clear hF a; intro a hF
      refine sv hF (v_assign rfl) rfl ?_; clear hF a; intro a hF
      refine WL_nil (hK _ _ ?_)
      clear hK K
      replace hF := hF.sub _ (c_ 4 rfl (c_ 5 rfl (c_ 0 rfl (c_ 1 rfl (n_)))))
      refine W_ret ?_
      refine ⟨_, _, hF, rfl, ?_⟩
      exact ⟨rfl, hS⟩
    · skip
      try simp only [decide_eq_true_eq, decide_eq_false_iff_not, Bool.not_eq_true', Bool.not_eq_false', Bool.not_true, Bool.not_false] at hc2
      refine W_skip ?_
      have hx0 : x ≠ 0 := by omega
      have hy0 : y ≠ 0 := by omega
      have hxy0 := Px.hb_pos (Px.hb_mul (Px.hb_log hx0) (Px.hb_log hy0))
      have hlx := log2_lt hx0 (k := 32) hx
      have hly := log2_lt hy0 (k := 32) hy
      refine W_sr rfl (fun K hK => ?_)
      refine sv hF (v_move rfl) rfl ?_; clear hF a; intro a hF
      refine sv hF (v_move rfl) rfl ?_; clear hF a; intro a hF
      refine svg hF rfl ?_
      refine sv hF (v_move rfl) rfl ?_; clear hF a; intro a hF
      refine svg hF rfl ?_
      refine sv hF (v_move rfl) rfl ?_; clear hF a; intro a hF
      refine svg hF rfl ?_
      refine sc hF rfl rfl rfl en18 rfl (Mul_ok B x y _ hS.inv hx hy) ?_; clear hF a; intro v w' a hv hF
      obtain ⟨rfl, hS'⟩ := hv
      replace hS := hS.trans hS'
      clear hS'
      refine svg hF rfl ?_
      refine sc hF rfl rfl rfl en16 rfl (Deg_ok B (Px.mul x y) _ hS.inv hxy) ?_; clear hF a; intro v w' a hv hF
      obtain ⟨rfl, hS'⟩ := hv
      replace hS := hS.trans hS'
      clear hS'
      refine svg hF rfl ?_
      refine sv hF (v_move rfl) rfl ?_; clear hF a; intro a hF
      refine svg hF rfl ?_
      refine sv hF (v_cv Try.underlying23 Try.underlying22 rfl (wrap_u64 _ (by omega))) rfl ?_; clear hF a; intro a hF
      refine svg hF rfl ?_
      refine sc hF rfl rfl rfl en16 rfl (Deg_ok B x _ hS.inv (by omega)) ?_; clear hF a; intro v w' a hv hF
      obtain ⟨rfl, hS'⟩ := hv
      replace hS := hS.trans hS'
      clear hS'
      refine svg hF rfl ?_
      refine sv hF (v_move rfl) rfl ?_; clear hF a; intro a hF
      refine svg hF rfl ?_
      refine sv hF (v_cv Try.underlying23 Try.underlying22 rfl (wrap_u64 _ (by omega))) rfl ?_; clear hF a; intro a hF
      refine svg hF rfl ?_
      refine sc hF rfl rfl rfl en16 rfl (Deg_ok B y _ hS.inv (by omega)) ?_; clear hF a; intro v w' a hv hF
      obtain ⟨rfl, hS'⟩ := hv
      replace hS := hS.trans hS'
      clear hS'
      refine svg hF rfl ?_
      rw [deg_pos hx0, deg_pos hy0, deg_pos hxy0] at hF
      refine sv hF (v_addI rfl rfl (by omega)) rfl ?_; clear hF a; intro a hF
      refine svg hF rfl ?_
      refine sv hF ((v_eql rfl rfl).as (congrArg Value.bool (decide_eq_true (by rw [Px.log2_mul hx0 hy0]; omega)))) rfl ?_; clear hF a; intro a hF
      refine sv hF (v_pickT rfl rfl) rfl ?_; clear hF a; intro a hF
      refine sv hF (v_assign rfl) rfl ?_; clear hF a; intro a hF
      refine WL_nil (hK _ _ ?_)
      clear hK K
      replace hF := hF.sub _ (c_ 4 rfl (n_))
      refine W_ret ?_
      refine ⟨_, _, hF, rfl, ?_⟩
      exact ⟨rfl, hS⟩

set_option maxRecDepth 100000 in
set_option maxHeartbeats 4000000 in
theorem PolyIrreducible_ok (B p : Nat) (w : World) (hI : Inv FDx B w) (hp : p < 4294967296) : Ret Try.prog 4 [.int .u32 (p : Int)] w fun v w' => v = .bool true ∧ St FDx B w w'  := by
  refine enter 20 [(0, .int .u32 (p : Int))] 2 Try.func4 rfl rfl rfl rfl rfl ?_; intro a hF
  have hS := St.refl hI
  refine W_sr rfl (fun K hK => ?_)
  refine sv hF (v_assign rfl) rfl ?_; clear hF a; intro a hF
  refine WL_nil (hK _ _ ?_)
  clear hK K
  refine W_sr rfl (fun K hK => ?_)
  refine sc hF rfl rfl rfl en15 rfl (aw01_ok B _ hS.inv) ?_; clear hF a; intro v w' a hv hF
  obtain ⟨rfl, hS'⟩ := hv
  replace hS := hS.trans hS'
  clear hS'
  refine sv hF (v_assign rfl) rfl ?_; clear hF a; intro a hF
  refine WL_nil (hK _ _ ?_)
  clear hK K
  replace hF := hF.sub _ (c_ 3 rfl (c_ 2 rfl (c_ 0 rfl (n_))))
  refine W_sr rfl (fun K hK => ?_)
  refine sv hF (v_move rfl) rfl ?_; clear hF a; intro a hF
  refine sv hF (v_move rfl) rfl ?_; clear hF a; intro a hF
  refine svg hF rfl ?_
  refine sv hF (v_move rfl) rfl ?_; clear hF a; intro a hF
  refine svg hF rfl ?_
  refine sc hF rfl rfl rfl en24 rfl (irr_ok B p _ hS.inv hp) ?_; clear hF a; intro v w' a hv hF
  obtain ⟨rfl, hS'⟩ := hv
  replace hS := hS.trans hS'
  clear hS'
  refine svg hF rfl ?_
  refine sv hF (v_move rfl) rfl ?_; clear hF a; intro a hF
  refine svg hF rfl ?_
  refine sc hF rfl rfl rfl en25 rfl (rIrr_ok B p _ hS.inv hp) ?_; clear hF a; intro v w' a hv hF
  obtain ⟨rfl, hS'⟩ := hv
  replace hS := hS.trans hS'
  clear hS'
  refine svg hF rfl ?_
  refine sv hF ((v_eqlB Try.underlying4 rfl rfl).as (congrArg Value.bool (decide_eq_true (by exact irr_same p)))) rfl ?_; clear hF a; intro a hF
  refine sv hF (v_pickT rfl rfl) rfl ?_; clear hF a; intro a hF
  refine sv hF (v_move rfl) rfl ?_; clear hF a; intro a hF
  refine svg hF rfl ?_
  refine sv hF (v_move rfl) rfl ?_; clear hF a; intro a hF
  refine svg hF rfl ?_
  refine sc hF rfl rfl rfl en26 rfl (prim_ok B p _ hS.inv hp) ?_; clear hF a; intro v w' a hv hF
  obtain ⟨rfl, hS'⟩ := hv
  replace hS := hS.trans hS'
  clear hS'
  refine svg hF rfl ?_
  refine sv hF (v_move rfl) rfl ?_; clear hF a; intro a hF
  refine svg hF rfl ?_
  refine sc hF rfl rfl rfl en27 rfl (rPrim_ok B p _ hS.inv hp) ?_; clear hF a; intro v w' a hv hF
  obtain ⟨rfl, hS'⟩ := hv
  replace hS := hS.trans hS'
  clear hS'
  refine svg hF rfl ?_
  refine sv hF ((v_eqlB Try.underlying4 rfl rfl).as (congrArg Value.bool (decide_eq_true (by exact prim_same p)))) rfl ?_; clear hF a; intro a hF
  refine sv hF (v_pickT rfl rfl) rfl ?_; clear hF a; intro a hF
  refine sv hF (v_assign rfl) rfl ?_; clear hF a; intro a hF
  refine WL_nil (hK _ _ ?_)
  clear hK K
  replace hF := hF.sub _ (c_ 2 rfl (n_))
  refine W_ret ?_
  refine ⟨_, _, hF, rfl, ?_⟩
  exact ⟨rfl, hS⟩

set_option maxRecDepth 100000 in
set_option maxHeartbeats 4000000 in
theorem PolyTells_ok (B x b0 b1 b2 : Nat) (w : World) (hI : Inv FDx B w) (hx : x < 18446744073709551616) (h0 : b0 < 4294967296) (h1 : b1 < 4294967296) (h2 : b2 < 4294967296) : Ret Try.prog 3 [.int .u64 (x : Int), .agg #[.int .u32 (b0 : Int), .int .u32 (b1 : Int), .int .u32 (b2 : Int)]] w fun v w' => v = .bool true ∧ St FDx B w w'  := by
  refine enter 56 [(0, .int .u64 (x : Int)), (1, .agg #[.int .u32 (b0 : Int), .int .u32 (b1 : Int), .int .u32 (b2 : Int)])] 4 Try.func3 rfl rfl rfl rfl rfl ?_; intro a hF
  have hS := St.refl hI
  refine W_sr rfl (fun K hK => ?_)
  refine s_box (D := FDx) (B := B) hF rfl (by decide) hS.inv rfl ?_; clear hF a; intro w' a hm hbox hsz hF
  replace hS := hS.mb0 hm
  clear hm
  generalize w.heap.size = g at *
  refine sv hF (v_assign rfl) rfl ?_; clear hF a; intro a hF
  refine WL_nil (hK _ _ ?_)
  clear hK K
  replace hF := hF.sub _ (c_ 4 rfl (c_ 3 rfl (c_ 0 rfl (n_))))
  refine W_sr rfl (fun K hK => ?_)
  refine sc hF rfl rfl rfl en15 rfl (aw01_ok B _ hS.inv) ?_; clear hF a; intro v w' a hv hF
  obtain ⟨rfl, hS'⟩ := hv
  replace hbox := hbox.st (by decide) hS'
  replace hS := hS.trans hS'
  clear hS'
  refine sv hF (v_assign rfl) rfl ?_; clear hF a; intro a hF
  refine WL_nil (hK _ _ ?_)
  clear hK K
  replace hF := hF.sub _ (c_ 5 rfl (c_ 4 rfl (c_ 3 rfl (c_ 0 rfl (n_)))))
  refine W_sd (m := 50) rfl hmix hS.inv (fun K hK w1 hS' hh => ?_)
  replace hbox := hbox.st (by decide) hS'
  replace hS := hS.trans hS'
  clear hS'
  clear hh
  refine a_v (i := 0) rfl (by kernel_rfl) hF (fun w2 hx => v_move rfl) rfl ?_; clear hF a; intro a hF
  refine a_v (i := 1) rfl (by kernel_rfl) hF (fun w2 hx => v_move rfl) rfl ?_; clear hF a; intro a hF
  refine a_vg (i := 2) rfl (by kernel_rfl) hF rfl (fun w2 hx => v_move rfl) rfl ?_; clear hF a; intro a hF
  refine a_vg (i := 4) rfl (by kernel_rfl) hF rfl (fun w2 hx => v_move rfl) rfl ?_; clear hF a; intro a hF
  refine a_e (i := 3) rfl (by kernel_rfl) ?_
  refine svg hF rfl ?_
  refine sc hF rfl rfl rfl en16 rfl (Deg_ok B x _ hS.inv hx) ?_; clear hF a; intro v w' a hv hF
  obtain ⟨rfl, hS'⟩ := hv
  refine WL_nil ⟨hS'.ext, ?_⟩
  replace hbox := hbox.st (by decide) hS'
  replace hS := hS.trans hS'
  clear hS'
  refine a_e (i := 5) rfl (by kernel_rfl) ?_
  refine svg hF rfl ?_
  refine sc hF rfl rfl rfl en17 rfl (rDeg_ok B x _ hS.inv hx) ?_; clear hF a; intro v w' a hv hF
  obtain ⟨rfl, hS'⟩ := hv
  refine WL_nil ⟨hS'.ext, ?_⟩
  replace hbox := hbox.st (by decide) hS'
  replace hS := hS.trans hS'
  clear hS'
  refine a_vg (i := 6) rfl (by kernel_rfl) hF rfl (fun w2 hx => (v_eql rfl rfl).as (congrArg Value.bool (decide_eq_true (by first | rfl | omega)))) rfl ?_; clear hF a; intro a hF
  refine a_v (i := 7) rfl (by kernel_rfl) hF (fun w2 hx => v_pickT rfl rfl) rfl ?_; clear hF a; intro a hF
  refine a_v (i := 8) rfl (by kernel_rfl) hF (fun w2 hx => v_move rfl) rfl ?_; clear hF a; intro a hF
  refine a_vg (i := 9) rfl (by kernel_rfl) hF rfl (fun w2 hx => v_ixA ar24 rfl rfl (by omega) (by omega)) rfl ?_; clear hF a; intro a hF
  refine a_vg (i := 10) rfl (by kernel_rfl) hF rfl (fun w2 hx => v_load sc23 rfl (hbox.ld (by decide) hx 0 rfl)) rfl ?_; clear hF a; intro a hF
  refine a_vg (i := 11) rfl (by kernel_rfl) hF rfl (fun w2 hx => v_ixA ar24 rfl rfl (by omega) (by omega)) rfl ?_; clear hF a; intro a hF
  refine a_vg (i := 12) rfl (by kernel_rfl) hF rfl (fun w2 hx => v_load sc23 rfl (hbox.ld (by decide) hx 1 rfl)) rfl ?_; clear hF a; intro a hF
  refine a_vg (i := 14) rfl (by kernel_rfl) hF rfl (fun w2 hx => v_ixA ar24 rfl rfl (by omega) (by omega)) rfl ?_; clear hF a; intro a hF
  refine a_vg (i := 15) rfl (by kernel_rfl) hF rfl (fun w2 hx => v_load sc23 rfl (hbox.ld (by decide) hx 0 rfl)) rfl ?_; clear hF a; intro a hF
  refine a_vg (i := 16) rfl (by kernel_rfl) hF rfl (fun w2 hx => v_ixA ar24 rfl rfl (by omega) (by omega)) rfl ?_; clear hF a; intro a hF
  refine a_vg (i := 17) rfl (by kernel_rfl) hF rfl (fun w2 hx => v_load sc23 rfl (hbox.ld (by decide) hx 1 rfl)) rfl ?_; clear hF a; intro a hF
  refine a_e (i := 13) rfl (by kernel_rfl) ?_
  refine svg hF rfl ?_
  refine sc hF rfl rfl rfl en18 rfl (Mul_ok B b0 b1 _ hS.inv h0 h1) ?_; clear hF a; intro v w' a hv hF
  obtain ⟨rfl, hS'⟩ := hv
  refine WL_nil ⟨hS'.ext, ?_⟩
  replace hbox := hbox.st (by decide) hS'
  replace hS := hS.trans hS'
  clear hS'
  refine a_e (i := 18) rfl (by kernel_rfl) ?_
  refine svg hF rfl ?_
  refine sc hF rfl rfl rfl en19 rfl (rMul_ok B b0 b1 _ hS.inv h0 h1) ?_; clear hF a; intro v w' a hv hF
  obtain ⟨rfl, hS'⟩ := hv
  refine WL_nil ⟨hS'.ext, ?_⟩
  replace hbox := hbox.st (by decide) hS'
  replace hS := hS.trans hS'
  clear hS'
  refine a_vg (i := 19) rfl (by kernel_rfl) hF rfl (fun w2 hx => (v_eql rfl rfl).as (congrArg Value.bool (decide_eq_true (by first | rfl | omega)))) rfl ?_; clear hF a; intro a hF
  refine a_v (i := 20) rfl (by kernel_rfl) hF (fun w2 hx => v_pickT rfl rfl) rfl ?_; clear hF a; intro a hF
  refine a_v (i := 21) rfl (by kernel_rfl) hF (fun w2 hx => v_move rfl) rfl ?_; clear hF a; intro a hF
  refine a_vg (i := 22) rfl (by kernel_rfl) hF rfl (fun w2 hx => v_move rfl) rfl ?_; clear hF a; intro a hF
  refine a_vg (i := 23) rfl (by kernel_rfl) hF rfl (fun w2 hx => v_ixA ar24 rfl rfl (by omega) (by omega)) rfl ?_; clear hF a; intro a hF
  refine a_vg (i := 24) rfl (by kernel_rfl) hF rfl (fun w2 hx => v_load sc23 rfl (hbox.ld (by decide) hx 2 rfl)) rfl ?_; clear hF a; intro a hF
  refine a_vg (i := 26) rfl (by kernel_rfl) hF rfl (fun w2 hx => v_move rfl) rfl ?_; clear hF a; intro a hF
  refine a_vg (i := 27) rfl (by kernel_rfl) hF rfl (fun w2 hx => v_ixA ar24 rfl rfl (by omega) (by omega)) rfl ?_; clear hF a; intro a hF
  refine a_vg (i := 28) rfl (by kernel_rfl) hF rfl (fun w2 hx => v_load sc23 rfl (hbox.ld (by decide) hx 2 rfl)) rfl ?_; clear hF a; intro a hF
  refine a_e (i := 25) rfl (by kernel_rfl) ?_
  refine svg hF rfl ?_
  refine sc hF rfl rfl rfl en20 rfl (Mod_ok B x b2 _ hS.inv hx h2) ?_; clear hF a; intro v w' a hv hF
  obtain ⟨rfl, hS'⟩ := hv
  refine WL_nil ⟨hS'.ext, ?_⟩
  replace hbox := hbox.st (by decide) hS'
  replace hS := hS.trans hS'
  clear hS'
  refine a_e (i := 29) rfl (by kernel_rfl) ?_
  refine svg hF rfl ?_
  refine sc hF rfl rfl rfl en21 rfl (rMod_ok B x b2 _ hS.inv hx h2) ?_; clear hF a; intro v w' a hv hF
  obtain ⟨rfl, hS'⟩ := hv
  refine WL_nil ⟨hS'.ext, ?_⟩
  replace hbox := hbox.st (by decide) hS'
  replace hS := hS.trans hS'
  clear hS'
  refine a_vg (i := 30) rfl (by kernel_rfl) hF rfl (fun w2 hx => (v_eql rfl rfl).as (congrArg Value.bool (decide_eq_true (by first | rfl | omega)))) rfl ?_; clear hF a; intro a hF
  refine a_v (i := 31) rfl (by kernel_rfl) hF (fun w2 hx => v_pickT rfl rfl) rfl ?_; clear hF a; intro a hF
  refine a_v (i := 32) rfl (by kernel_rfl) hF (fun w2 hx => v_move rfl) rfl ?_; clear hF a; intro a hF
  refine a_vg (i := 33) rfl (by kernel_rfl) hF rfl (fun w2 hx => v_ixA ar24 rfl rfl (by omega) (by omega)) rfl ?_; clear hF a; intro a hF
  refine a_vg (i := 34) rfl (by kernel_rfl) hF rfl (fun w2 hx => v_load sc23 rfl (hbox.ld (by decide) hx 0 rfl)) rfl ?_; clear hF a; intro a hF
  refine a_vg (i := 35) rfl (by kernel_rfl) hF rfl (fun w2 hx => v_ixA ar24 rfl rfl (by omega) (by omega)) rfl ?_; clear hF a; intro a hF
  refine a_vg (i := 36) rfl (by kernel_rfl) hF rfl (fun w2 hx => v_load sc23 rfl (hbox.ld (by decide) hx 1 rfl)) rfl ?_; clear hF a; intro a hF
  refine a_vg (i := 37) rfl (by kernel_rfl) hF rfl (fun w2 hx => v_ixA ar24 rfl rfl (by omega) (by omega)) rfl ?_; clear hF a; intro a hF
  refine a_vg (i := 38) rfl (by kernel_rfl) hF rfl (fun w2 hx => v_load sc23 rfl (hbox.ld (by decide) hx 2 rfl)) rfl ?_; clear hF a; intro a hF
  refine a_vg (i := 40) rfl (by kernel_rfl) hF rfl (fun w2 hx => v_ixA ar24 rfl rfl (by omega) (by omega)) rfl ?_; clear hF a; intro a hF
  refine a_vg (i := 41) rfl (by kernel_rfl) hF rfl (fun w2 hx => v_load sc23 rfl (hbox.ld (by decide) hx 0 rfl)) rfl ?_; clear hF a; intro a hF
  refine a_vg (i := 42) rfl (by kernel_rfl) hF rfl (fun w2 hx => v_ixA ar24 rfl rfl (by omega) (by omega)) rfl ?_; clear hF a; intro a hF
  refine a_vg (i := 43) rfl (by kernel_rfl) hF rfl (fun w2 hx => v_load sc23 rfl (hbox.ld (by decide) hx 1 rfl)) rfl ?_; clear hF a; intro a hF
  refine a_vg (i := 44) rfl (by kernel_rfl) hF rfl (fun w2 hx => v_ixA ar24 rfl rfl (by omega) (by omega)) rfl ?_; clear hF a; intro a hF
  refine a_vg (i := 45) rfl (by kernel_rfl) hF rfl (fun w2 hx => v_load sc23 rfl (hbox.ld (by decide) hx 2 rfl)) rfl ?_; clear hF a; intro a hF
  refine a_e (i := 39) rfl (by kernel_rfl) ?_
  refine svg hF rfl ?_
  refine sc hF rfl rfl rfl en22 rfl (MulMod_ok B b0 b1 b2 _ hS.inv h0 h1 h2) ?_; clear hF a; intro v w' a hv hF
  obtain ⟨rfl, hS'⟩ := hv
  refine WL_nil ⟨hS'.ext, ?_⟩
  replace hbox := hbox.st (by decide) hS'
  replace hS := hS.trans hS'
  clear hS'
  refine a_e (i := 46) rfl (by kernel_rfl) ?_
  refine svg hF rfl ?_
  refine sc hF rfl rfl rfl en23 rfl (rMulMod_ok B b0 b1 b2 _ hS.inv h0 h1 h2) ?_; clear hF a; intro v w' a hv hF
  obtain ⟨rfl, hS'⟩ := hv
  refine WL_nil ⟨hS'.ext, ?_⟩
  replace hbox := hbox.st (by decide) hS'
  replace hS := hS.trans hS'
  clear hS'
  refine a_vg (i := 47) rfl (by kernel_rfl) hF rfl (fun w2 hx => (v_eql rfl rfl).as (congrArg Value.bool (decide_eq_true (by first | rfl | omega)))) rfl ?_; clear hF a; intro a hF
  refine a_v (i := 48) rfl (by kernel_rfl) hF (fun w2 hx => v_pickT rfl rfl) rfl ?_; clear hF a; intro a hF
  refine a_v (i := 49) rfl (by kernel_rfl) hF (fun w2 hx => v_assign rfl) rfl ?_; clear hF a; intro a hF
  refine a_done (by kernel_rfl) (hK _ _ ?_)
  clear hK K
  replace hF := hF.sub _ (c_ 4 rfl (n_))
  refine W_ret ?_
  refine ⟨_, _, hF, rfl, ?_⟩
  exact ⟨rfl, hS⟩

set_option maxRecDepth 100000 in
set_option maxHeartbeats 4000000 in
theorem PolyMod_ok (B x y l0 l1 l2 p : Nat) (w : World) (hI : Inv FDx B w) (hx : x < 18446744073709551616) (hy : y < 18446744073709551616) (h0 : l0 < 4294967296) (h1 : l1 < 4294967296) (h2 : l2 < 4294967296) (hp : p < 4294967296) : Ret Try.prog 6 [.int .u64 (x : Int), .int .u64 (y : Int), .agg #[.int .u32 (l0 : Int), .int .u32 (l1 : Int), .int .u32 (l2 : Int), .int .u32 (p : Int)]] w fun v w' => v = .bool true ∧ St FDx B w w'  := by
  refine enter 87 [(0, .int .u64 (x : Int)), (1, .int .u64 (y : Int)), (2, .agg #[.int .u32 (l0 : Int), .int .u32 (l1 : Int), .int .u32 (l2 : Int), .int .u32 (p : Int)])] 6 Try.func6 rfl rfl rfl rfl rfl ?_; intro a hF
  have hS := St.refl hI
  have hmm := fun c => mod_lt32 c hp
  have hxy : x ^^^ y < 18446744073709551616 := Px.xor_lt (k := 64) hx hy
  refine W_sr rfl (fun K hK => ?_)
  refine s_box (D := FDx) (B := B) hF rfl (by decide) hS.inv rfl ?_; clear hF a; intro w' a hm hbox hsz hF
  replace hS := hS.mb0 hm
  clear hm
  generalize w.heap.size = g at *
  refine sv hF (v_assign rfl) rfl ?_; clear hF a; intro a hF
  refine WL_nil (hK _ _ ?_)
  clear hK K
  replace hF := hF.sub _ (c_ 6 rfl (c_ 5 rfl (c_ 0 rfl (c_ 1 rfl (n_)))))
  refine W_sr rfl (fun K hK => ?_)
  refine sc hF rfl rfl rfl en15 rfl (aw01_ok B _ hS.inv) ?_; clear hF a; intro v w' a hv hF
  obtain ⟨rfl, hS'⟩ := hv
  replace hbox := hbox.st (by decide) hS'
  replace hS := hS.trans hS'
  clear hS'
  refine sv hF (v_assign rfl) rfl ?_; clear hF a; intro a hF
  refine WL_nil (hK _ _ ?_)
  clear hK K
  replace hF := hF.sub _ (c_ 7 rfl (c_ 6 rfl (c_ 5 rfl (c_ 0 rfl (c_ 1 rfl (n_))))))
  refine W_sr rfl (fun K hK => ?_)
  refine sv hF (v_ixA ar33 rfl rfl (by omega) (by omega)) rfl ?_; clear hF a; intro a hF
  refine sv hF (v_load sc23 rfl (hbox.at 3 rfl)) rfl ?_; clear hF a; intro a hF
  refine sv hF (v_assign rfl) rfl ?_; clear hF a; intro a hF
  refine WL_nil (hK _ _ ?_)
  clear hK K
  replace hF := hF.sub _ (c_ 8 rfl (c_ 7 rfl (c_ 6 rfl (c_ 5 rfl (c_ 0 rfl (c_ 1 rfl (n_)))))))
  refine W_seq ?_
  refine W_sr rfl (fun K hK => ?_)
  refine sv hF (v_move rfl) rfl ?_; clear hF a; intro a hF
  refine sv hF (v_eql rfl rfl) rfl ?_; clear hF a; intro a hF
  refine WL_nil (hK _ _ ?_)
  clear hK K
  replace hF := hF.sub _ (c_ 15 rfl (c_ 8 rfl (c_ 7 rfl (c_ 6 rfl (c_ 5 rfl (c_ 0 rfl (c_ 1 rfl (n_))))))))
  refine W_if hF rfl (fun hc1 => ?_) (fun hc1 => ?_)
  · skip
    try simp only [decide_eq_true_eq, decide_eq_false_iff_not, Bool.not_eq_true', Bool.not_eq_false', Bool.not_true, Bool.not_false] at hc1
    refine W_sr rfl (fun K hK => ?_)
    refine sv hF (v_move rfl) rfl ?_; clear hF a; intro a hF
    refine sv hF (v_move rfl) rfl ?_; clear hF a; intro a hF
    refine svg hF rfl ?_
    refine sv hF (v_move rfl) rfl ?_; clear hF a; intro a hF
    refine svg hF rfl ?_
    refine sv hF (v_move rfl) rfl ?_; clear hF a; intro a hF
    refine svg hF rfl ?_
    refine sc hF rfl rfl rfl en20 rfl (Mod_ok B x p _ hS.inv hx hp) ?_; clear hF a; intro v w' a hv hF
    obtain ⟨rfl, hS'⟩ := hv
    replace hbox := hbox.st (by decide) hS'
    replace hS := hS.trans hS'
    clear hS'
    refine svg hF rfl ?_
    refine sv hF ((v_eql rfl rfl).as (congrArg Value.bool (decide_eq_true (by rw [mod_z (by omega)]; rfl)))) rfl ?_; clear hF a; intro a hF
    refine sv hF (v_pickT rfl rfl) rfl ?_; clear hF a; intro a hF
    refine sv hF (v_assign rfl) rfl ?_; clear hF a; intro a hF
    refine WL_nil (hK _ _ ?_)
    clear hK K
    replace hF := hF.sub _ (c_ 6 rfl (c_ 8 rfl (c_ 7 rfl (c_ 5 rfl (c_ 0 rfl (c_ 1 rfl (n_)))))))
    refine W_ret ?_
    refine ⟨_, _, hF, rfl, ?_⟩
    exact ⟨rfl, hS⟩
  · skip
    try simp only [decide_eq_true_eq, decide_eq_false_iff_not, Bool.not_eq_true', Bool.not_eq_false', Bool.not_true, Bool.not_false] at hc1
    refine W_skip ?_
    refine W_sd (m := 11) rfl hmix hS.inv (fun K hK w1 hS' hh => ?_)
    replace hbox := hbox.st (by decide) hS'
    replace hS := hS.trans hS'
    clear hS'
    clear hh
    refine a_v (i := 0) rfl (by kernel_rfl) hF (fun w2 hx => v_ixA ar33 rfl rfl (by omega) (by omega)) rfl ?_; clear hF a; intro a hF
    refine a_v (i := 1) rfl (by kernel_rfl) hF (fun w2 hx => v_load sc23 rfl (hbox.ld (by decide) hx 0 rfl)) rfl ?_; clear hF a; intro a hF
    refine a_v (i := 2) rfl (by kernel_rfl) hF (fun w2 hx => v_ixA ar33 rfl rfl (by omega) (by omega)) rfl ?_; clear hF a; intro a hF
    refine a_v (i := 3) rfl (by kernel_rfl) hF (fun w2 hx => v_load sc23 rfl (hbox.ld (by decide) hx 1 rfl)) rfl ?_; clear hF a; intro a hF
    refine a_v (i := 4) rfl (by kernel_rfl) hF (fun w2 hx => v_move rfl) rfl ?_; clear hF a; intro a hF
    refine a_v (i := 6) rfl (by kernel_rfl) hF (fun w2 hx => v_ixA ar33 rfl rfl (by omega) (by omega)) rfl ?_; clear hF a; intro a hF
    refine a_v (i := 7) rfl (by kernel_rfl) hF (fun w2 hx => v_load sc23 rfl (hbox.ld (by decide) hx 2 rfl)) rfl ?_; clear hF a; intro a hF
    refine a_v (i := 8) rfl (by kernel_rfl) hF (fun w2 hx => v_move rfl) rfl ?_; clear hF a; intro a hF
    refine a_e (i := 5) rfl (by kernel_rfl) ?_
    refine sc hF rfl rfl rfl en22 rfl (MulMod_ok B l0 l1 p _ hS.inv h0 h1 hp) ?_; clear hF a; intro v w' a hv hF
    obtain ⟨rfl, hS'⟩ := hv
    refine WL_nil ⟨hS'.ext, ?_⟩
    replace hbox := hbox.st (by decide) hS'
    replace hS := hS.trans hS'
    clear hS'
    refine a_e (i := 9) rfl (by kernel_rfl) ?_
    refine sc hF rfl rfl rfl en22 rfl (MulMod_ok B _ l2 p _ hS.inv (hmm _) h2 hp) ?_; clear hF a; intro v w' a hv hF
    obtain ⟨rfl, hS'⟩ := hv
    refine WL_nil ⟨hS'.ext, ?_⟩
    replace hbox := hbox.st (by decide) hS'
    replace hS := hS.trans hS'
    clear hS'
    refine a_v (i := 10) rfl (by kernel_rfl) hF (fun w2 hx => v_assign rfl) rfl ?_; clear hF a; intro a hF
    refine a_done (by kernel_rfl) (hK _ _ ?_)
    clear hK K
    replace hF := hF.sub _ (c_ 9 rfl (c_ 8 rfl (c_ 7 rfl (c_ 6 rfl (c_ 5 rfl (c_ 0 rfl (c_ 1 rfl (n_))))))))
    refine W_sd (m := 11) rfl hmix hS.inv (fun K hK w1 hS' hh => ?_)
    replace hbox := hbox.st (by decide) hS'
    replace hS := hS.trans hS'
    clear hS'
    clear hh
    refine a_v (i := 0) rfl (by kernel_rfl) hF (fun w2 hx => v_ixA ar33 rfl rfl (by omega) (by omega)) rfl ?_; clear hF a; intro a hF
    refine a_v (i := 1) rfl (by kernel_rfl) hF (fun w2 hx => v_load sc23 rfl (hbox.ld (by decide) hx 0 rfl)) rfl ?_; clear hF a; intro a hF
    refine a_v (i := 2) rfl (by kernel_rfl) hF (fun w2 hx => v_ixA ar33 rfl rfl (by omega) (by omega)) rfl ?_; clear hF a; intro a hF
    refine a_v (i := 3) rfl (by kernel_rfl) hF (fun w2 hx => v_load sc23 rfl (hbox.ld (by decide) hx 1 rfl)) rfl ?_; clear hF a; intro a hF
    refine a_v (i := 4) rfl (by kernel_rfl) hF (fun w2 hx => v_ixA ar33 rfl rfl (by omega) (by omega)) rfl ?_; clear hF a; intro a hF
    refine a_v (i := 5) rfl (by kernel_rfl) hF (fun w2 hx => v_load sc23 rfl (hbox.ld (by decide) hx 2 rfl)) rfl ?_; clear hF a; intro a hF
    refine a_v (i := 6) rfl (by kernel_rfl) hF (fun w2 hx => v_move rfl) rfl ?_; clear hF a; intro a hF
    refine a_v (i := 8) rfl (by kernel_rfl) hF (fun w2 hx => v_move rfl) rfl ?_; clear hF a; intro a hF
    refine a_e (i := 7) rfl (by kernel_rfl) ?_
    refine sc hF rfl rfl rfl en22 rfl (MulMod_ok B l1 l2 p _ hS.inv h1 h2 hp) ?_; clear hF a; intro v w' a hv hF
    obtain ⟨rfl, hS'⟩ := hv
    refine WL_nil ⟨hS'.ext, ?_⟩
    replace hbox := hbox.st (by decide) hS'
    replace hS := hS.trans hS'
    clear hS'
    refine a_e (i := 9) rfl (by kernel_rfl) ?_
    refine sc hF rfl rfl rfl en22 rfl (MulMod_ok B l0 _ p _ hS.inv h0 (hmm _) hp) ?_; clear hF a; intro v w' a hv hF
    obtain ⟨rfl, hS'⟩ := hv
    refine WL_nil ⟨hS'.ext, ?_⟩
    replace hbox := hbox.st (by decide) hS'
    replace hS := hS.trans hS'
    clear hS'
    refine a_v (i := 10) rfl (by kernel_rfl) hF (fun w2 hx => v_assign rfl) rfl ?_; clear hF a; intro a hF
    refine a_done (by kernel_rfl) (hK _ _ ?_)
    clear hK K
    replace hF := hF.sub _ (c_ 10 rfl (c_ 9 rfl (c_ 8 rfl (c_ 7 rfl (c_ 6 rfl (c_ 0 rfl (c_ 1 rfl (n_))))))))
    have hp0 : p ≠ 0 := by omega
    have hmx := hmm x
    have hmy := hmm y
    refine W_sr rfl (fun K hK => ?_)
    refine sv hF (v_move rfl) rfl ?_; clear hF a; intro a hF
    refine sv hF (v_move rfl) rfl ?_; clear hF a; intro a hF
    refine svg hF rfl ?_
    refine sv hF (v_move rfl) rfl ?_; clear hF a; intro a hF
    refine svg hF rfl ?_
    refine sv hF (v_move rfl) rfl ?_; clear hF a; intro a hF
    refine svg hF rfl ?_
    refine sc hF rfl rfl rfl en20 rfl (Mod_ok B x p _ hS.inv hx hp) ?_; clear hF a; intro v w' a hv hF
    obtain ⟨rfl, hS'⟩ := hv
    replace hbox := hbox.st (by decide) hS'
    replace hS := hS.trans hS'
    clear hS'
    refine svg hF rfl ?_
    refine sv hF (v_cv Try.underlying23 Try.underlying22 rfl (wrap_u64 _ (by omega))) rfl ?_; clear hF a; intro a hF
    refine svg hF rfl ?_
    refine sc hF rfl rfl rfl en16 rfl (Deg_ok B _ _ hS.inv (by have := hmm x; omega)) ?_; clear hF a; intro v w' a hv hF
    obtain ⟨rfl, hS'⟩ := hv
    replace hbox := hbox.st (by decide) hS'
    replace hS := hS.trans hS'
    clear hS'
    refine svg hF rfl ?_
    refine sv hF (v_move rfl) rfl ?_; clear hF a; intro a hF
    refine svg hF rfl ?_
    refine sv hF (v_cv Try.underlying23 Try.underlying22 rfl (wrap_u64 _ (by omega))) rfl ?_; clear hF a; intro a hF
    refine svg hF rfl ?_
    refine sc hF rfl rfl rfl en16 rfl (Deg_ok B p _ hS.inv (by omega)) ?_; clear hF a; intro v w' a hv hF
    obtain ⟨rfl, hS'⟩ := hv
    replace hbox := hbox.st (by decide) hS'
    replace hS := hS.trans hS'
    clear hS'
    refine svg hF rfl ?_
    refine sv hF ((v_lss rfl rfl).as (congrArg Value.bool (decide_eq_true (by rw [deg_pos hp0]; exact deg_lt (Px.mod_lt x hp0))))) rfl ?_; clear hF a; intro a hF
    refine sv hF (v_pickT rfl rfl) rfl ?_; clear hF a; intro a hF
    refine sv hF (v_move rfl) rfl ?_; clear hF a; intro a hF
    refine svg hF rfl ?_
    refine sv hF (v_move rfl) rfl ?_; clear hF a; intro a hF
    refine svg hF rfl ?_
    refine sv hF (v_move rfl) rfl ?_; clear hF a; intro a hF
    refine svg hF rfl ?_
    refine sv hF (v_xorN rfl rfl (fits_u64 (by omega)) (fits_u64 (by omega))) rfl ?_; clear hF a; intro a hF
    refine svg hF rfl ?_
    refine sv hF (v_move rfl) rfl ?_; clear hF a; intro a hF
    refine svg hF rfl ?_
    refine sc hF rfl rfl rfl en20 rfl (Mod_ok B (x ^^^ y) p _ hS.inv hxy hp) ?_; clear hF a; intro v w' a hv hF
    obtain ⟨rfl, hS'⟩ := hv
    replace hbox := hbox.st (by decide) hS'
    replace hS := hS.trans hS'
    clear hS'
    refine svg hF rfl ?_
    refine sv hF (v_move rfl) rfl ?_; clear hF a; intro a hF
    refine svg hF rfl ?_
    refine sv hF (v_move rfl) rfl ?_; clear hF a; intro a hF
    refine svg hF rfl ?_
    refine sc hF rfl rfl rfl en20 rfl (Mod_ok B x p _ hS.inv hx hp) ?_; clear hF a; intro v w' a hv hF
    obtain ⟨rfl, hS'⟩ := hv
    replace hbox := hbox.st (by decide) hS'
    replace hS := hS.trans hS'
    clear hS'
    refine svg hF rfl ?_
    refine sv hF (v_move rfl) rfl ?_; clear hF a; intro a hF
    refine svg hF rfl ?_
    refine sv hF (v_move rfl) rfl ?_; clear hF a; intro a hF
    refine svg hF rfl ?_
    refine sc hF rfl rfl rfl en20 rfl (Mod_ok B y p _ hS.inv hy hp) ?_; clear hF a; intro v w' a hv hF
    obtain ⟨rfl, hS'⟩ := hv
    replace hbox := hbox.st (by decide) hS'
    replace hS := hS.trans hS'
    clear hS'
    refine svg hF rfl ?_
    refine sv hF (v_xorN rfl rfl (fits_u32 (by omega)) (fits_u32 (by omega))) rfl ?_; clear hF a; intro a hF
    refine svg hF rfl ?_
    refine sv hF ((v_eql rfl rfl).as (congrArg Value.bool (decide_eq_true (by rw [Px.xor_mod])))) rfl ?_; clear hF a; intro a hF
    refine sv hF (v_pickT rfl rfl) rfl ?_; clear hF a; intro a hF
    refine sv hF (v_move rfl) rfl ?_; clear hF a; intro a hF
    refine svg hF rfl ?_
    refine sv hF (v_move rfl) rfl ?_; clear hF a; intro a hF
    refine svg hF rfl ?_
    refine sv hF (v_move rfl) rfl ?_; clear hF a; intro a hF
    refine svg hF rfl ?_
    refine sv hF ((v_eql rfl rfl).as (congrArg Value.bool (decide_eq_true (by rw [Px.mulMod_assoc])))) rfl ?_; clear hF a; intro a hF
    refine sv hF (v_pickT rfl rfl) rfl ?_; clear hF a; intro a hF
    refine sv hF (v_move rfl) rfl ?_; clear hF a; intro a hF
    refine svg hF rfl ?_
    refine sv hF (v_move rfl) rfl ?_; clear hF a; intro a hF
    refine svg hF rfl ?_
    refine sv hF (v_move rfl) rfl ?_; clear hF a; intro a hF
    refine svg hF rfl ?_
    refine sc hF rfl rfl rfl en20 rfl (Mod_ok B x p _ hS.inv hx hp) ?_; clear hF a; intro v w' a hv hF
    obtain ⟨rfl, hS'⟩ := hv
    replace hbox := hbox.st (by decide) hS'
    replace hS := hS.trans hS'
    clear hS'
    refine svg hF rfl ?_
    refine sv hF (v_cv Try.underlying23 Try.underlying22 rfl (wrap_u64 _ (by omega))) rfl ?_; clear hF a; intro a hF
    refine svg hF rfl ?_
    refine sv hF (v_move rfl) rfl ?_; clear hF a; intro a hF
    refine svg hF rfl ?_
    refine sc hF rfl rfl rfl en20 rfl (Mod_ok B _ p _ hS.inv (by have := hmm x; omega) hp) ?_; clear hF a; intro v w' a hv hF
    obtain ⟨rfl, hS'⟩ := hv
    replace hbox := hbox.st (by decide) hS'
    replace hS := hS.trans hS'
    clear hS'
    refine svg hF rfl ?_
    refine sv hF (v_move rfl) rfl ?_; clear hF a; intro a hF
    refine svg hF rfl ?_
    refine sv hF (v_move rfl) rfl ?_; clear hF a; intro a hF
    refine svg hF rfl ?_
    refine sc hF rfl rfl rfl en20 rfl (Mod_ok B x p _ hS.inv hx hp) ?_; clear hF a; intro v w' a hv hF
    obtain ⟨rfl, hS'⟩ := hv
    replace hbox := hbox.st (by decide) hS'
    replace hS := hS.trans hS'
    clear hS'
    refine svg hF rfl ?_
    refine sv hF ((v_eql rfl rfl).as (congrArg Value.bool (decide_eq_true (by rw [Px.mod_mod])))) rfl ?_; clear hF a; intro a hF
    refine sv hF (v_pickT rfl rfl) rfl ?_; clear hF a; intro a hF
    refine sv hF (v_assign rfl) rfl ?_; clear hF a; intro a hF
    refine WL_nil (hK _ _ ?_)
    clear hK K
    replace hF := hF.sub _ (c_ 6 rfl (n_))
    refine W_ret ?_
    refine ⟨_, _, hF, rfl, ?_⟩
    exact ⟨rfl, hS⟩

set_option maxRecDepth 100000 in
set_option maxHeartbeats 4000000 in
theorem PolyField_ok (B k x y : Nat) (w : World) (hI : Inv FDx B w) (hk : k < 256) (hx : x < 65536) (hy : y < 65536) : Ret Try.prog 7 [.int .u8 (k : Int), .int .u16 (x : Int), .int .u16 (y : Int)] w fun v w' => v = .bool true ∧ St FDx B w w'  := by
  refine enter 75 [(0, .int .u8 (k : Int)), (1, .int .u16 (x : Int)), (2, .int .u16 (y : Int))] 6 Try.func7 rfl rfl rfl rfl rfl ?_; intro a hF
  have hS := St.refl hI
  refine W_sr rfl (fun K hK => ?_)
  refine sv hF (v_assign rfl) rfl ?_; clear hF a; intro a hF
  refine WL_nil (hK _ _ ?_)
  clear hK K
  refine W_sr rfl (fun K hK => ?_)
  refine sc hF rfl rfl rfl en15 rfl (aw01_ok B _ hS.inv) ?_; clear hF a; intro v w' a hv hF
  obtain ⟨rfl, hS'⟩ := hv
  replace hS := hS.trans hS'
  clear hS'
  refine sv hF (v_assign rfl) rfl ?_; clear hF a; intro a hF
  refine WL_nil (hK _ _ ?_)
  clear hK K
  replace hF := hF.sub _ (c_ 7 rfl (c_ 6 rfl (c_ 0 rfl (c_ 1 rfl (c_ 2 rfl (n_))))))
  refine W_sr rfl (fun K hK => ?_)
  refine s_bs (D := FDx) (B := B) hF sl36 rfl rfl (by decide) (by simp [Value.cells]) (by decide) hS.inv rfl ?_; clear hF a; intro w' a hm hI' hb hF
  replace hS := hS.mb0 hm
  clear hm hI'
  refine sv hF (v_assign rfl) rfl ?_; clear hF a; intro a hF
  refine WL_nil (hK _ _ ?_)
  clear hK K
  replace hF := hF.sub _ (c_ 8 rfl (c_ 7 rfl (c_ 6 rfl (c_ 0 rfl (c_ 1 rfl (c_ 2 rfl (n_)))))))
  obtain ⟨p, hp, hirr⟩ := pick6 k
  have hlog := irr_log hirr
  have hrange := irr_range hirr
  have h16 := two_pow16 hlog.2
  have hp0 : p ≠ 0 := by omega
  have hpos := Nat.two_pow_pos (Nat.log2 p)
  have hx2 : x % 2 ^ Nat.log2 p < 2 ^ Nat.log2 p := Nat.mod_lt _ hpos
  have hy2 : y % 2 ^ Nat.log2 p < 2 ^ Nat.log2 p := Nat.mod_lt _ hpos
  generalize hg : w.heap.size = g at *
  refine W_sr rfl (fun K hK => ?_)
  refine sv hF (v_move rfl) rfl ?_; clear hF a; intro a hF
  refine sv hF (v_move rfl) rfl ?_; clear hF a; intro a hF
  refine sv hF (v_cv Try.underlying5 Try.underlying3 rfl (wrap_i64 _ (by omega))) rfl ?_; clear hF a; intro a hF
  refine sv hF (v_move rfl) rfl ?_; clear hF a; intro a hF
  refine sv hF (v_lenS rfl sl36 rfl) rfl ?_; clear hF a; intro a hF
  refine sv hF (v_remI rfl rfl (by omega) (by omega)) rfl ?_; clear hF a; intro a hF
  refine sv hF (v_ixS sl36 rfl rfl (by omega) (by omega)) rfl ?_; clear hF a; intro a hF
  refine sv hF (v_load sc23 rfl (by have h := (hb.row (by decide)).at hp; obtain ⟨_, g2, o2, e, hc⟩ := h; cases e; exact hc)) rfl ?_; clear hF a; intro a hF
  refine sv hF (v_assign rfl) rfl ?_; clear hF a; intro a hF
  refine WL_nil (hK _ _ ?_)
  clear hK K
  replace hF := hF.sub _ (c_ 9 rfl (c_ 7 rfl (c_ 6 rfl (c_ 1 rfl (c_ 2 rfl (n_))))))
  clear hb
  refine W_sr rfl (fun K hK => ?_)
  refine sv hF (v_move rfl) rfl ?_; clear hF a; intro a hF
  refine sv hF (v_cv Try.underlying23 Try.underlying22 rfl (wrap_u64 _ (by omega))) rfl ?_; clear hF a; intro a hF
  refine sc hF rfl rfl rfl en16 rfl (Deg_ok B p _ hS.inv (by omega)) ?_; clear hF a; intro v w' a hv hF
  obtain ⟨rfl, hS'⟩ := hv
  replace hS := hS.trans hS'
  clear hS'
  rw [deg_pos hp0] at hF
  refine sv hF (v_assign rfl) rfl ?_; clear hF a; intro a hF
  refine WL_nil (hK _ _ ?_)
  clear hK K
  replace hF := hF.sub _ (c_ 10 rfl (c_ 9 rfl (c_ 7 rfl (c_ 6 rfl (c_ 1 rfl (c_ 2 rfl (n_)))))))
  refine W_seq ?_
  refine W_sr rfl (fun K hK => ?_)
  refine sv hF (v_move rfl) rfl ?_; clear hF a; intro a hF
  refine sv hF ((v_lss rfl rfl).as (congrArg Value.bool (decide_eq_false (by omega)))) rfl ?_; clear hF a; intro a hF
  refine sv hF (v_move rfl) rfl ?_; clear hF a; intro a hF
  refine svg hF rfl ?_
  refine sv hF (v_move rfl) rfl ?_; clear hF a; intro a hF
  refine svg hF rfl ?_
  refine sv hF ((v_gtr rfl rfl).as (congrArg Value.bool (decide_eq_false (by omega)))) rfl ?_; clear hF a; intro a hF
  refine sv hF (v_pickF rfl rfl) rfl ?_; clear hF a; intro a hF
  refine WL_nil (hK _ _ ?_)
  clear hK K
  replace hF := hF.sub _ (c_ 32 rfl (c_ 10 rfl (c_ 9 rfl (c_ 7 rfl (c_ 6 rfl (c_ 1 rfl (c_ 2 rfl (n_))))))))
  refine W_ifF hF rfl ?_
  refine W_skip ?_
  refine W_sr rfl (fun K hK => ?_)
  refine sv hF (v_move rfl) rfl ?_; clear hF a; intro a hF
  refine sv hF (v_cv Try.underlying35 Try.underlying23 rfl (wrap_u32 _ (by omega))) rfl ?_; clear hF a; intro a hF
  refine sv hF (v_move rfl) rfl ?_; clear hF a; intro a hF
  refine sv hF (v_cv Try.underlying3 Try.underlying37 rfl (wrap_u64 _ (by omega))) rfl ?_; clear hF a; intro a hF
  refine sv hF ((v_shl rfl rfl (by omega)).as (congrArg _ (shl_u32 (by omega)))) rfl ?_; clear hF a; intro a hF
  refine sv hF ((v_remI rfl rfl (by omega) (by omega)).as (congrArg _ (Int.natCast_emod x _).symm)) rfl ?_; clear hF a; intro a hF
  refine sv hF (v_assign rfl) rfl ?_; clear hF a; intro a hF
  refine WL_nil (hK _ _ ?_)
  clear hK K
  replace hF := hF.sub _ (c_ 11 rfl (c_ 10 rfl (c_ 9 rfl (c_ 7 rfl (c_ 6 rfl (c_ 2 rfl (n_)))))))
  refine W_sr rfl (fun K hK => ?_)
  refine sv hF (v_move rfl) rfl ?_; clear hF a; intro a hF
  refine sv hF (v_cv Try.underlying35 Try.underlying23 rfl (wrap_u32 _ (by omega))) rfl ?_; clear hF a; intro a hF
  refine sv hF (v_move rfl) rfl ?_; clear hF a; intro a hF
  refine sv hF (v_cv Try.underlying3 Try.underlying37 rfl (wrap_u64 _ (by omega))) rfl ?_; clear hF a; intro a hF
  refine sv hF ((v_shl rfl rfl (by omega)).as (congrArg _ (shl_u32 (by omega)))) rfl ?_; clear hF a; intro a hF
  refine sv hF ((v_remI rfl rfl (by omega) (by omega)).as (congrArg _ (Int.natCast_emod y _).symm)) rfl ?_; clear hF a; intro a hF
  refine sv hF (v_assign rfl) rfl ?_; clear hF a; intro a hF
  refine WL_nil (hK _ _ ?_)
  clear hK K
  replace hF := hF.sub _ (c_ 12 rfl (c_ 11 rfl (c_ 10 rfl (c_ 9 rfl (c_ 7 rfl (c_ 6 rfl (n_)))))))
  refine W_sr rfl (fun K hK => ?_)
  refine sv hF (v_move rfl) rfl ?_; clear hF a; intro a hF
  refine sv hF (v_move rfl) rfl ?_; clear hF a; intro a hF
  refine sv hF (v_move rfl) rfl ?_; clear hF a; intro a hF
  refine sc hF rfl rfl rfl en22 rfl (MulMod_ok B (x % 2 ^ Nat.log2 p) (y % 2 ^ Nat.log2 p) p _ hS.inv (by omega) (by omega) (by omega)) ?_; clear hF a; intro v w' a hv hF
  obtain ⟨rfl, hS'⟩ := hv
  replace hS := hS.trans hS'
  clear hS'
  refine sv hF (v_eql rfl rfl) rfl ?_; clear hF a; intro a hF
  refine sv hF (v_assign rfl) rfl ?_; clear hF a; intro a hF
  refine WL_nil (hK _ _ ?_)
  clear hK K
  replace hF := hF.sub _ (c_ 13 rfl (c_ 12 rfl (c_ 11 rfl (c_ 10 rfl (c_ 9 rfl (c_ 7 rfl (c_ 6 rfl (n_))))))))
  refine W_sr rfl (fun K hK => ?_)
  refine sv hF (v_move rfl) rfl ?_; clear hF a; intro a hF
  refine sv hF (v_move rfl) rfl ?_; clear hF a; intro a hF
  refine svg hF rfl ?_
  refine sv hF (v_move rfl) rfl ?_; clear hF a; intro a hF
  refine svg hF rfl ?_
  refine sv hF (v_move rfl) rfl ?_; clear hF a; intro a hF
  refine svg hF rfl ?_
  refine sb hF (v_eql rfl rfl) rfl ?_ ?_
  · clear hF a; intro hc1 a hF
    try simp only [decide_eq_true_eq, decide_eq_false_iff_not, Bool.not_eq_true', Bool.not_eq_false', Bool.not_true, Bool.not_false] at hc1
    refine svg hF rfl ?_
    refine sv hF (v_move rfl) rfl ?_; clear hF a; intro a hF
    refine svn hF rfl rfl rfl ?_; clear hF a; intro a hF
    refine svn hF rfl rfl rfl ?_; clear hF a; intro a hF
    refine svg hF rfl ?_
    refine sv hF (v_pickT rfl rfl) rfl ?_; clear hF a; intro a hF
    refine svg hF rfl ?_
    refine sv hF ((v_eqlB Try.underlying4 rfl rfl).as (congrArg Value.bool (decide_eq_true (by rw [(decide_eq_true (show ((Px.mulMod (x % 2 ^ Nat.log2 p) (y % 2 ^ Nat.log2 p) p : Nat) : Int) = 0 by have := (zero_iff hirr hx2 hy2).2 (.inl (by omega)); omega))])))) rfl ?_; clear hF a; intro a hF
    refine sv hF (v_pickT rfl rfl) rfl ?_; clear hF a; intro a hF
    refine sv hF (v_move rfl) rfl ?_; clear hF a; intro a hF
    refine svg hF rfl ?_
    refine sv hF (v_move rfl) rfl ?_; clear hF a; intro a hF
    refine svg hF rfl ?_
    refine sv hF ((v_eql rfl rfl).as (congrArg Value.bool (decide_eq_true (by omega)))) rfl ?_; clear hF a; intro a hF
    refine svg hF rfl ?_
    refine sv hF (v_move rfl) rfl ?_; clear hF a; intro a hF
    refine svn hF rfl rfl rfl ?_; clear hF a; intro a hF
    refine svn hF rfl rfl rfl ?_; clear hF a; intro a hF
    refine svn hF rfl rfl rfl ?_; clear hF a; intro a hF
    refine svn hF rfl rfl rfl ?_; clear hF a; intro a hF
    refine svn hF rfl rfl rfl ?_; clear hF a; intro a hF
    refine svn hF rfl rfl rfl ?_; clear hF a; intro a hF
    refine svn hF rfl rfl rfl ?_; clear hF a; intro a hF
    refine svn hF rfl rfl rfl ?_; clear hF a; intro a hF
    refine svg hF rfl ?_
    refine sv hF (v_pickT rfl rfl) rfl ?_; clear hF a; intro a hF
    refine sv hF (v_pickT rfl rfl) rfl ?_; clear hF a; intro a hF
    refine sv hF (v_assign rfl) rfl ?_; clear hF a; intro a hF
    refine WL_nil (hK _ _ ?_)
    clear hK K
    replace hF := hF.sub _ (c_ 6 rfl (n_))
    refine W_ret ?_
    refine ⟨_, _, hF, rfl, ?_⟩
    exact ⟨rfl, hS⟩
  · clear hF a; intro hc1 a hF
    try simp only [decide_eq_true_eq, decide_eq_false_iff_not, Bool.not_eq_true', Bool.not_eq_false', Bool.not_true, Bool.not_false] at hc1
    refine svg hF rfl ?_
    refine sv hF (v_move rfl) rfl ?_; clear hF a; intro a hF
    refine svg hF rfl ?_
    refine sv hF (v_move rfl) rfl ?_; clear hF a; intro a hF
    refine svg hF rfl ?_
    refine sv hF (v_eql rfl rfl) rfl ?_; clear hF a; intro a hF
    refine svg hF rfl ?_
    refine sv hF (v_pickF rfl rfl) rfl ?_; clear hF a; intro a hF
    refine svg hF rfl ?_
    refine sv hF ((v_eqlB Try.underlying4 rfl rfl).as (congrArg Value.bool (decide_eq_true (by apply decide_eq_decide.2; have := zero_iff hirr hx2 hy2; omega)))) rfl ?_; clear hF a; intro a hF
    refine sv hF (v_pickT rfl rfl) rfl ?_; clear hF a; intro a hF
    refine sv hF (v_move rfl) rfl ?_; clear hF a; intro a hF
    refine svg hF rfl ?_
    refine sv hF (v_move rfl) rfl ?_; clear hF a; intro a hF
    refine svg hF rfl ?_
    refine sv hF ((v_eql rfl rfl).as (congrArg Value.bool (decide_eq_false (by omega)))) rfl ?_; clear hF a; intro a hF
    refine svg hF rfl ?_
    refine sv hF (v_move rfl) rfl ?_; clear hF a; intro a hF
    refine svg hF rfl ?_
    refine sv hF (v_move rfl) rfl ?_; clear hF a; intro a hF
    refine svg hF rfl ?_
    refine sv hF (v_move rfl) rfl ?_; clear hF a; intro a hF
    refine svg hF rfl ?_
    refine sv hF (v_cv Try.underlying3 Try.underlying37 rfl (wrap_u64 _ (by omega))) rfl ?_; clear hF a; intro a hF
    refine svg hF rfl ?_
    refine sv hF ((v_shl rfl rfl (by omega)).as (congrArg _ (shl_u64 (by omega)))) rfl ?_; clear hF a; intro a hF
    refine svg hF rfl ?_
    refine sv hF ((v_sub rfl rfl).as (congrArg _ ((wrap_u64 _ (by omega)).trans (show ((2 ^ Nat.log2 p : Nat) : Int) - 1 = ((2 ^ Nat.log2 p - 1 : Nat) : Int) by omega)))) rfl ?_; clear hF a; intro a hF
    refine svg hF rfl ?_
    refine sv hF (v_move rfl) rfl ?_; clear hF a; intro a hF
    refine svg hF rfl ?_
    refine sc hF rfl rfl rfl en28 rfl (rPower_ok B (x % 2 ^ Nat.log2 p) (2 ^ Nat.log2 p - 1) p _ hS.inv (by omega) (by omega) (by omega)) ?_; clear hF a; intro v w' a hv hF
    obtain ⟨rfl, hS'⟩ := hv
    replace hS := hS.trans hS'
    clear hS'
    refine svg hF rfl ?_
    refine sv hF ((v_eql rfl rfl).as (congrArg Value.bool (decide_eq_true (by rw [pow_full hirr hx2 (by omega)]; rfl)))) rfl ?_; clear hF a; intro a hF
    refine svg hF rfl ?_
    refine sv hF (v_pickF rfl rfl) rfl ?_; clear hF a; intro a hF
    refine sv hF (v_pickT rfl rfl) rfl ?_; clear hF a; intro a hF
    refine sv hF (v_assign rfl) rfl ?_; clear hF a; intro a hF
    refine WL_nil (hK _ _ ?_)
    clear hK K
    replace hF := hF.sub _ (c_ 6 rfl (n_))
    refine W_ret ?_
    refine ⟨_, _, hF, rfl, ?_⟩
    exact ⟨rfl, hS⟩

end Go.Proofs.Ytfpfgkkcmdfdiaa
