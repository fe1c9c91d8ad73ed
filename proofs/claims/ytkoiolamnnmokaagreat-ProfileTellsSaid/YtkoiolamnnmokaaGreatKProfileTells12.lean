/- Texts of the claim ProfileTells (part 12), put together in the order of their imports. -/
import Derived.Test.YtkoiolamnnmokaaGreatKProfileTells11
/- The walks of gambrelref06: rows of powers. -/
set_option linter.unusedVariables false
set_option linter.unusedSimpArgs false
namespace Go.Proofs.YtkoiolamnnmokaaGreat
open Go Go.Gam
namespace FxFRef06
theorem en61 : Ent Tryz.prog 61 := ent Tryz.func61 (by kernel_rfl) (by kernel_rfl)
theorem en62 : Ent Tryz.prog 62 := ent Tryz.func62 (by kernel_rfl) (by kernel_rfl)
theorem en64 : Ent Tryz.prog 64 := ent Tryz.func64 (by kernel_rfl) (by kernel_rfl)
theorem en67 : Ent Tryz.prog 67 := ent Tryz.func67 (by kernel_rfl) (by kernel_rfl)
theorem en68 : Ent Tryz.prog 68 := ent Tryz.func68 (by kernel_rfl) (by kernel_rfl)
theorem en95 : Ent Tryz.prog 95 := ent Tryz.func95 (by kernel_rfl) (by kernel_rfl)
theorem sl35 : Sl Tryz.prog 35 53 (.slice none 0 0) 24 := sl_of Tryz.underlying35 rfl (by kernel_rfl)
theorem sl53 : Sl Tryz.prog 53 3 (.int .i64 0) 8 := sl_of Tryz.underlying53 rfl (by kernel_rfl)
end FxFRef06
open FxFRef06
theorem pw_cell {wb p : Nat} (hp : Prm wb p) (i j : Nat) : gpow (some (wb, p)) (i : Int) (j : Int) = ((pwT (some (wb, p)) i j : Nat) : Int) := (pwT_nn (fun wb' p' e => by cases e; exact hp) _ _).symm
theorem exp_cell {wb p : Nat} (hp : Prm wb p) (i j : Nat) : gexp (some (wb, p)) ((i * j : Nat) : Int) = ((isT (some (wb, p)) i j : Nat) : Int) := by
 rw [gexp_nat hp, isT_pow hp, hp.fld.pow_mul, hp.pw_pow]
set_option maxRecDepth 100000 in
set_option maxHeartbeats 1000000 in
theorem rRaw_ok (B wb p : Nat) (hp : Prm wb p) (k m : Int) (w : World) (hI : Inv FDx B w) : Ret Tryz.prog 68 [.int .i64 (wb : Int), .int .u32 (p : Int), .int .i64 k, .int .i64 m] w fun v w' => ∃ ob u, v = .tuple #[u, .bool (rawM (some (wb, p)) k m).isSome] ∧ MOwn FDx B w.heap.size 0 w'.heap.size w' 53 u ob ((rawM (some (wb, p)) k m).getD []) ∧ St FDx B w w' := by
 refine enter2 51 [(0, .int .i64 (wb : Int)), (1, .int .u32 (p : Int)), (2, .int .i64 k), (3, .int .i64 m)] 8 9 Tryz.func68 rfl rfl rfl rfl rfl ?_; intro a hF
 have hS := St.refl hI
 refine W_sr rfl fun K hK => ?_
 refine sv2w hK hF (v_assign rfl) (v_assign rfl) rfl rfl ?_; clear hF a hK K; intro a hF
 refine W_seq ?_
 refine W_sr rfl fun K hK => ?_
 refine sv hF (v_move rfl) rfl ?_; clear hF a; intro a hF
 refine sb hF (v_lss rfl rfl) rfl ?_ ?_
 ·
  clear hF a; intro hc1 a hF
  try simp only [dcl] at hc1
  refine sv hF (v_move rfl) rfl ?_; clear hF a; intro a hF
  refine svn2 hF rfl rfl rfl rfl rfl rfl ?_; clear hF a; intro a hF
  refine sv2 hF (v_pickT rfl rfl) (v_move rfl) rfl rfl ?_; clear hF a; intro a hF
  refine svn2 hF rfl rfl rfl rfl rfl rfl ?_; clear hF a; intro a hF
  refine sv2 hF (v_pickT rfl rfl) (v_move rfl) rfl rfl ?_; clear hF a; intro a hF
  refine svn2 hF rfl rfl rfl rfl rfl rfl ?_; clear hF a; intro a hF
  refine svw hK hF (v_pickT rfl rfl) rfl ?_; clear hF a hK K; intro a hF
  replace hF := hF.sub _ (c_ 27 rfl (c_ 9 rfl (c_ 8 rfl (c_ 0 rfl (c_ 1 rfl (c_ 2 rfl (c_ 3 rfl (n_))))))))
  refine W_ifT hF rfl ?_
  refine W_sr rfl fun K hK => ?_
  refine sv2w hK hF (v_assign rfl) (v_assign rfl) rfl rfl ?_; clear hF a hK K; intro a hF
  replace hF := hF.sub _ (c_ 9 rfl (c_ 8 rfl (c_ 0 rfl (c_ 1 rfl (c_ 2 rfl (c_ 3 rfl (n_)))))))
  refine W_ret ?_
  refine ⟨_, _, _, hF, rfl, rfl, ?_⟩
  rw [rawM_no (show rawB (some (wb, p)) k m = false by unfold rawB; rw [decide_eq_false (by omega)]; rfl)]
  exact ⟨none, _, rfl, MOwn.nil _ _ _ _ _ _ _ (Nat.zero_le _), hS⟩
 ·
  clear hF a; intro hc1 a hF
  try simp only [dcl] at hc1
  refine sv hF (v_move rfl) rfl ?_; clear hF a; intro a hF
  refine svg hF rfl ?_
  refine sv hF (v_move rfl) rfl ?_; clear hF a; intro a hF
  refine svg hF rfl ?_
  refine sb hF (v_gtr rfl rfl) rfl ?_ ?_
  ·
   clear hF a; intro hc2 a hF
   try simp only [dcl] at hc2
   refine sv2 hF (v_pickF rfl rfl) (v_move rfl) rfl rfl ?_; clear hF a; intro a hF
   refine svn2 hF rfl rfl rfl rfl rfl rfl ?_; clear hF a; intro a hF
   refine sv2 hF (v_pickT rfl rfl) (v_move rfl) rfl rfl ?_; clear hF a; intro a hF
   refine svn2 hF rfl rfl rfl rfl rfl rfl ?_; clear hF a; intro a hF
   refine svw hK hF (v_pickT rfl rfl) rfl ?_; clear hF a hK K; intro a hF
   replace hF := hF.sub _ (c_ 27 rfl (c_ 9 rfl (c_ 8 rfl (c_ 0 rfl (c_ 1 rfl (c_ 2 rfl (c_ 3 rfl (n_))))))))
   refine W_ifT hF rfl ?_
   refine W_sr rfl fun K hK => ?_
   refine sv2w hK hF (v_assign rfl) (v_assign rfl) rfl rfl ?_; clear hF a hK K; intro a hF
   replace hF := hF.sub _ (c_ 9 rfl (c_ 8 rfl (c_ 0 rfl (c_ 1 rfl (c_ 2 rfl (c_ 3 rfl (n_)))))))
   refine W_ret ?_
   refine ⟨_, _, _, hF, rfl, rfl, ?_⟩
   rw [rawM_no (show rawB (some (wb, p)) k m = false by unfold rawB; rw [decide_eq_false (by omega)]; rfl)]
   exact ⟨none, _, rfl, MOwn.nil _ _ _ _ _ _ _ (Nat.zero_le _), hS⟩
  ·
   clear hF a; intro hc2 a hF
   try simp only [dcl] at hc2
   refine sv2 hF (v_pickF rfl rfl) (v_move rfl) rfl rfl ?_; clear hF a; intro a hF
   refine svg hF rfl ?_
   refine sv hF (v_move rfl) rfl ?_; clear hF a; intro a hF
   refine svg hF rfl ?_
   refine sb hF (v_lss rfl rfl) rfl ?_ ?_
   ·
    clear hF a; intro hc3 a hF
    try simp only [dcl] at hc3
    refine sv2 hF (v_pickF rfl rfl) (v_move rfl) rfl rfl ?_; clear hF a; intro a hF
    refine svn2 hF rfl rfl rfl rfl rfl rfl ?_; clear hF a; intro a hF
    refine svw hK hF (v_pickT rfl rfl) rfl ?_; clear hF a hK K; intro a hF
    replace hF := hF.sub _ (c_ 27 rfl (c_ 9 rfl (c_ 8 rfl (c_ 0 rfl (c_ 1 rfl (c_ 2 rfl (c_ 3 rfl (n_))))))))
    refine W_ifT hF rfl ?_
    refine W_sr rfl fun K hK => ?_
    refine sv2w hK hF (v_assign rfl) (v_assign rfl) rfl rfl ?_; clear hF a hK K; intro a hF
    replace hF := hF.sub _ (c_ 9 rfl (c_ 8 rfl (c_ 0 rfl (c_ 1 rfl (c_ 2 rfl (c_ 3 rfl (n_)))))))
    refine W_ret ?_
    refine ⟨_, _, _, hF, rfl, rfl, ?_⟩
    rw [rawM_no (show rawB (some (wb, p)) k m = false by unfold rawB; rw [decide_eq_false (by omega)]; rfl)]
    exact ⟨none, _, rfl, MOwn.nil _ _ _ _ _ _ _ (Nat.zero_le _), hS⟩
   ·
    clear hF a; intro hc3 a hF
    try simp only [dcl] at hc3
    refine sv2 hF (v_pickF rfl rfl) (v_move rfl) rfl rfl ?_; clear hF a; intro a hF
    refine svg hF rfl ?_
    refine sv hF (v_move rfl) rfl ?_; clear hF a; intro a hF
    refine svg hF rfl ?_
    refine sv2w hK hF (v_gtr rfl rfl) (v_pickF rfl rfl) rfl rfl ?_; clear hF a hK K; intro a hF
    replace hF := hF.sub _ (c_ 27 rfl (c_ 9 rfl (c_ 8 rfl (c_ 0 rfl (c_ 1 rfl (c_ 2 rfl (c_ 3 rfl (n_))))))))
    refine W_if hF rfl (fun hc4 => ?_) (fun hc4 => ?_)
    ·
     skip
     try simp only [dcl] at hc4
     refine W_sr rfl fun K hK => ?_
     refine sv2w hK hF (v_assign rfl) (v_assign rfl) rfl rfl ?_; clear hF a hK K; intro a hF
     replace hF := hF.sub _ (c_ 9 rfl (c_ 8 rfl (c_ 0 rfl (c_ 1 rfl (c_ 2 rfl (c_ 3 rfl (n_)))))))
     refine W_ret ?_
     refine ⟨_, _, _, hF, rfl, rfl, ?_⟩
     rw [rawM_no (show rawB (some (wb, p)) k m = false by unfold rawB; rw [decide_eq_false (by omega)]; rfl)]
     exact ⟨none, _, rfl, MOwn.nil _ _ _ _ _ _ _ (Nat.zero_le _), hS⟩
    ·
     skip
     try simp only [dcl] at hc4
     have hb : rawB (some (wb, p)) k m = true := by unfold rawB; rw [decide_eq_true (by omega)]; rfl
     obtain ⟨kn, rfl⟩ : ∃ n : Nat, k = (n : Int) := ⟨k.toNat, by omega⟩
     obtain ⟨mn, rfl⟩ : ∃ n : Nat, m = (n : Int) := ⟨m.toNat, by omega⟩
     refine W_skip ?_
     refine W_sr rfl fun K hK => ?_
     refine svw hK hF (v_assign rfl) rfl ?_; clear hF a hK K; intro a hF
     replace hF := hF.sub _ (c_ 10 rfl (c_ 9 rfl (c_ 8 rfl (c_ 0 rfl (c_ 1 rfl (c_ 2 rfl (c_ 3 rfl (n_))))))))
     refine W_seq ?_
     refine W_sr rfl fun K hK => ?_
     refine svw hK hF (v_assign rfl) rfl ?_; clear hF a hK K; intro a hF
     refine W_block ?_
     refine W_loop (fun q a w1 => ∃ (i : Nat) (v10 : Value) (b10 : Option Nat), Fr 51 [(0, .int .i64 (wb : Int)), (1, .int .u32 (p : Int)), (2, .int .i64 (kn : Int)), (3, .int .i64 (mn : Int)), (10, v10), (11, .int .i64 (i : Int))] a ∧ (St FDx B w w1) ∧ (MOwn FDx B w.heap.size 0 w1.heap.size w1 53 v10 b10 ((List.range i).map (trow mn (pwT (some (wb, p)))))) ∧ (i ≤ kn) ∧ (q + i = kn)) (kn) ?_ ?_
     ·
      skip
      exact ⟨0, _, none, hF.sub _ (c_ 0 rfl (c_ 1 rfl (c_ 2 rfl (c_ 3 rfl (c_ 10 rfl (c_ 11 rfl (n_))))))), hS, MOwn.nil _ _ _ _ _ _ _ (Nat.zero_le _), by omega, by omega⟩
     ·
      skip
      clear hF
      clear hS
      rintro q a w1 ⟨i, v10, b10, hF, hS, hMO, hi, hq⟩
      refine W_seq ?_
      obtain ⟨KM, hKe⟩ : ∃ KM, KM = w1.heap.size := ⟨_, rfl⟩
      rw [← hKe] at hMO
      have hKs : KM ≤ w1.heap.size := by omega
      have hNK : w.heap.size ≤ KM := by have := hS.ext.size; omega
      clear hKe
      refine W_sr rfl fun K hK => ?_
      refine sv3w hK hF (v_move rfl) (v_move rfl) (v_lss rfl rfl) rfl rfl rfl ?_; clear hF a hK K; intro a hF
      replace hF := hF.sub _ (c_ 30 rfl (c_ 0 rfl (c_ 1 rfl (c_ 2 rfl (c_ 3 rfl (c_ 10 rfl (c_ 11 rfl (n_))))))))
      refine W_if hF rfl (fun hc5 => ?_) (fun hc5 => ?_)
      ·
       skip
       try simp only [dcl] at hc5
       have hlt : i < kn := by omega
       refine W_skip ?_
       refine W_seq ?_
       refine W_block ?_
       refine W_sr rfl fun K hK => ?_
       refine svw hK hF (v_assign rfl) rfl ?_; clear hF a hK K; intro a hF
       replace hF := hF.sub _ (c_ 12 rfl (c_ 0 rfl (c_ 1 rfl (c_ 2 rfl (c_ 3 rfl (c_ 10 rfl (c_ 11 rfl (n_))))))))
       refine W_seq ?_
       refine W_sr rfl fun K hK => ?_
       refine svw hK hF (v_assign rfl) rfl ?_; clear hF a hK K; intro a hF
       refine W_block ?_
       refine W_loop (fun q2 a w2 => ∃ (j : Nat) (v12 : Value) (b12 : Option Nat), Fr 51 [(0, .int .i64 (wb : Int)), (1, .int .u32 (p : Int)), (2, .int .i64 (kn : Int)), (3, .int .i64 (mn : Int)), (10, v10), (11, .int .i64 (i : Int)), (12, v12), (13, .int .i64 (j : Int))] a ∧ (St FDx B w w2) ∧ (MOwn FDx B w.heap.size 0 KM w2 53 v10 b10 ((List.range i).map (trow mn (pwT (some (wb, p)))))) ∧ (KM ≤ w2.heap.size) ∧ (Gam.Own FDx B KM w2 FDx.E v12 b12 (zints ((List.range j).map fun j => (((pwT (some (wb, p))) i j : Nat) : Int)))) ∧ (j ≤ mn) ∧ (q2 + j = mn)) (mn) ?_ ?_
       ·
        skip
        exact ⟨0, _, none, hF.sub _ (c_ 0 rfl (c_ 1 rfl (c_ 2 rfl (c_ 3 rfl (c_ 10 rfl (c_ 11 rfl (c_ 12 rfl (c_ 13 rfl (n_))))))))), hS, hMO, hKs, Gam.Own.nil _ _ _ _ _, by omega, by omega⟩
       ·
        skip
        clear hF
        clear hS hMO hKs
        rintro q2 a w2 ⟨j, v12, b12, hF, hS, hMO, hKs, hO, hj, hq2⟩
        refine W_seq ?_
        refine W_sr rfl fun K hK => ?_
        refine sv3w hK hF (v_move rfl) (v_move rfl) (v_lss rfl rfl) rfl rfl rfl ?_; clear hF a hK K; intro a hF
        replace hF := hF.sub _ (c_ 35 rfl (c_ 0 rfl (c_ 1 rfl (c_ 2 rfl (c_ 3 rfl (c_ 10 rfl (c_ 11 rfl (c_ 12 rfl (c_ 13 rfl (n_))))))))))
        refine W_if hF rfl (fun hc6 => ?_) (fun hc6 => ?_)
        ·
         skip
         try simp only [dcl] at hc6
         have hlt2 : j < mn := by omega
         refine W_skip ?_
         refine W_seq ?_
         refine W_block ?_
         refine W_reg rfl fun K hK => ?_
         refine sv5 hF (v_move rfl) (v_move rfl) (v_move rfl) (v_move rfl) (v_move rfl) rfl rfl rfl rfl rfl ?_; clear hF a; intro a hF
         refine sc hF rfl rfl rfl en95 rfl (rPow_gf B wb p (i : Int) (j : Int) _ hS.inv hp (by omega)) ?_; clear hF a; intro v w' a hv hF
         obtain ⟨rfl, hS'⟩ := hv
         replace hMO := hMO.st (by decide) hS'
         replace hKs := Nat.le_trans hKs hS'.ext.size
         replace hO := hO.st (by decide) hS'
         replace hS := hS.trans hS'
         clear hS'
         rw [pw_cell hp] at hF
         refine s_bs (D := FDx) (B := B) hF sl53 rfl rfl (by decide) (by simp [Value.cells]) (by decide) hS.inv rfl ?_; clear hF a; intro w' a hm hI' hL hF
         replace hMO := hMO.mb0 hm
         replace hKs := Nat.le_trans hKs hm.size
         replace hO := hO.mb hm (fun _ _ => by simp)
         replace hS := hS.mb0 hm
         clear hm hI'
         refine s_app (D := FDx) (B := B) hF rfl sl53 rfl rfl hO (hL.row (by decide)) (by simp [Value.oneCell']) (by simp; omega) (by simp [maxLen]; omega) (hKs) (by decide) hS.inv rfl ?_; clear hF a; intro v' b' w' a ho' hm hI' hb' hF
         replace hMO := hMO.mbo hm hO (by decide) (Nat.le_refl _) (Nat.zero_le _)
         replace hKs := Nat.le_trans hKs hm.size
         replace hS := hS.mb hm (fun k h => Nat.le_trans (hNK) (hO.lt k h).1)
         replace hO := ho'
         clear hm hI' ho'
         refine svw hK hF (v_assign rfl) rfl ?_; clear hF a hK K; intro a hF
         replace hF := hF.sub _ (c_ 12 rfl (c_ 0 rfl (c_ 1 rfl (c_ 2 rfl (c_ 3 rfl (c_ 10 rfl (c_ 11 rfl (c_ 13 rfl (n_)))))))))
         refine W_reg rfl fun K hK => ?_
         refine sv3w hK hF (v_move rfl) (v_addI rfl rfl (by omega)) (v_assign rfl) rfl rfl rfl ?_; clear hF a hK K; intro a hF
         exact ⟨q2 - 1, by omega, j + 1, _, _, hF.sub _ (c_ 0 rfl (c_ 1 rfl (c_ 2 rfl (c_ 3 rfl (c_ 10 rfl (c_ 11 rfl (c_ 12 rfl (c_ 13 rfl (n_))))))))), hS, hMO, hKs, hO.cast (by rw [List.range_succ, List.map_append]; simp [zints]), by omega, by omega⟩
        ·
         skip
         try simp only [dcl] at hc6
         have hjm : j = mn := by omega
         rw [hjm] at hO
         refine W_exit rfl ?_
         refine W_reg rfl fun K hK => ?_
         refine sv2 hF (v_move rfl) (v_move rfl) rfl rfl ?_; clear hF a; intro a hF
         obtain ⟨a_, c_r, rfl⟩ := hO.shape
         refine s_bs (D := FDx) (B := B) hF sl35 rfl rfl (by decide) (by simp [Value.cells]) (by decide) hS.inv rfl ?_; clear hF a; intro w' a hm hI' hL hF
         replace hMO := hMO.mb0 hm
         replace hKs := Nat.le_trans hKs hm.size
         replace hO := hO.mb hm (fun _ _ => by simp)
         replace hS := hS.mb0 hm
         clear hm hI'
         replace hMO := hMO.up hKs
         clear hKs
         refine s_appM (D := FDx) (B := B) hF rfl sl35 rfl rfl hMO hL (.of (r := trow mn (pwT (some (wb, p))) i) hO (Nat.zero_le _)) rfl rfl (by simp; omega) (hS.ext.size) (by decide) (by decide) hS.inv rfl ?_; clear hF a; intro v' b' w' a ho' hm hI' hF
         replace hS := hS.mb hm (fun k h => (hMO.lt k h).1)
         have hKm := hm.size
         replace hMO := ho'
         clear hm hI' ho' hL
         refine svw hK hF (v_assign rfl) rfl ?_; clear hF a hK K; intro a hF
         replace hF := hF.sub _ (c_ 10 rfl (c_ 49 rfl (c_ 48 rfl (c_ 47 rfl (c_ 46 rfl (c_ 0 rfl (c_ 1 rfl (c_ 2 rfl (c_ 3 rfl (c_ 11 rfl (c_ 12 rfl (c_ 13 rfl (n_)))))))))))))
         refine W_reg rfl fun K hK => ?_
         refine sv3w hK hF (v_move rfl) (v_addI rfl rfl (by omega)) (v_assign rfl) rfl rfl rfl ?_; clear hF a hK K; intro a hF
         exact ⟨q - 1, by omega, i + 1, _, _, hF.sub _ (c_ 0 rfl (c_ 1 rfl (c_ 2 rfl (c_ 3 rfl (c_ 10 rfl (c_ 11 rfl (n_))))))), hS, (hMO.up hKm).cast (by rw [List.range_succ, List.map_append]; rfl), by omega, by omega⟩
      ·
       skip
       try simp only [dcl] at hc5
       refine W_exit rfl ?_
       refine W_sr rfl fun K hK => ?_
       refine sv3w hK hF (v_move rfl) (v_assign rfl) (v_assign rfl) rfl rfl rfl ?_; clear hF a hK K; intro a hF
       replace hF := hF.sub _ (c_ 9 rfl (c_ 8 rfl (c_ 50 rfl (c_ 0 rfl (c_ 1 rfl (c_ 2 rfl (c_ 3 rfl (c_ 10 rfl (c_ 11 rfl (n_))))))))))
       refine W_ret ?_
       refine ⟨_, _, _, hF, rfl, rfl, ?_⟩
       obtain rfl : i = kn := by omega
       rw [show rawM (some (wb, p)) (i : Int) (mn : Int) = some (tab i mn (pwT (some (wb, p)))) by unfold rawM; rw [if_pos hb]; rfl]
       exact ⟨_, _, rfl, (hMO.up hKs).cast rfl, hS⟩
set_option maxRecDepth 100000 in
set_option maxHeartbeats 1000000 in
theorem rFits_ok (wb p : Nat) (k m : Int) (w : World) : Ret Tryz.prog 64 [.int .i64 k, .int .i64 m] w fun v w' => v = .bool (fitB (some (wb, p)) k m) ∧ w' = w := by
 refine enter 25 [(0, .int .i64 k), (1, .int .i64 m)] 4 Tryz.func64 rfl rfl rfl rfl rfl ?_; intro a hF
 refine W_sr rfl fun K hK => ?_
 refine svw hK hF (v_assign rfl) rfl ?_; clear hF a hK K; intro a hF
 refine W_sr rfl fun K hK => ?_
 refine sv hF (v_move rfl) rfl ?_; clear hF a; intro a hF
 refine sb hF (v_geq rfl rfl) rfl ?_ ?_
 ·
  clear hF a; intro hc1 a hF
  try simp only [dcl] at hc1
  refine sv hF (v_move rfl) rfl ?_; clear hF a; intro a hF
  refine svg hF rfl ?_
  refine sv hF (v_move rfl) rfl ?_; clear hF a; intro a hF
  refine svg hF rfl ?_
  refine sb hF (v_leq rfl rfl) rfl ?_ ?_
  ·
   clear hF a; intro hc2 a hF
   try simp only [dcl] at hc2
   refine sv2 hF (v_pickT rfl rfl) (v_move rfl) rfl rfl ?_; clear hF a; intro a hF
   refine svg hF rfl ?_
   refine sv hF (v_move rfl) rfl ?_; clear hF a; intro a hF
   refine svg hF rfl ?_
   refine sb hF (v_geq rfl rfl) rfl ?_ ?_
   ·
    clear hF a; intro hc3 a hF
    try simp only [dcl] at hc3
    refine sv2 hF (v_pickT rfl rfl) (v_move rfl) rfl rfl ?_; clear hF a; intro a hF
    refine svg hF rfl ?_
    refine sv hF (v_move rfl) rfl ?_; clear hF a; intro a hF
    refine svg hF rfl ?_
    refine sb hF (v_leq rfl rfl) rfl ?_ ?_
    ·
     clear hF a; intro hc4 a hF
     try simp only [dcl] at hc4
     refine sv2 hF (v_pickT rfl rfl) (v_move rfl) rfl rfl ?_; clear hF a; intro a hF
     refine svg hF rfl ?_
     refine sv hF (v_move rfl) rfl ?_; clear hF a; intro a hF
     refine svg hF rfl ?_
     refine sv hF (v_move rfl) rfl ?_; clear hF a; intro a hF
     refine svg hF rfl ?_
     refine sv hF (v_addI rfl rfl (by omega)) rfl ?_; clear hF a; intro a hF
     refine svg hF rfl ?_
     refine sv3w hK hF (v_leq rfl rfl) (v_pickT rfl rfl) (v_assign rfl) rfl rfl rfl ?_; clear hF a hK K; intro a hF
     replace hF := hF.sub _ (c_ 4 rfl (n_))
     refine W_ret ?_
     refine ⟨_, _, hF, rfl, ?_⟩
     refine ⟨congrArg Value.bool ?_, rfl⟩
     unfold fitB
     simp only [Option.isSome_some, Bool.true_and]
     first | (symm; rw [decide_eq_false_iff_not]; omega) | (rw [decide_eq_decide]; omega)
    ·
     clear hF a; intro hc4 a hF
     try simp only [dcl] at hc4
     refine sv2 hF (v_pickT rfl rfl) (v_move rfl) rfl rfl ?_; clear hF a; intro a hF
     refine svn4 hF rfl rfl rfl rfl rfl rfl rfl rfl rfl rfl rfl rfl ?_; clear hF a; intro a hF
     refine sv2w hK hF (v_pickF rfl rfl) (v_assign rfl) rfl rfl ?_; clear hF a hK K; intro a hF
     replace hF := hF.sub _ (c_ 4 rfl (n_))
     refine W_ret ?_
     refine ⟨_, _, hF, rfl, ?_⟩
     refine ⟨congrArg Value.bool ?_, rfl⟩
     unfold fitB
     simp only [Option.isSome_some, Bool.true_and]
     first | (symm; rw [decide_eq_false_iff_not]; omega) | (rw [decide_eq_decide]; omega)
   ·
    clear hF a; intro hc3 a hF
    try simp only [dcl] at hc3
    refine sv2 hF (v_pickT rfl rfl) (v_move rfl) rfl rfl ?_; clear hF a; intro a hF
    refine svn2 hF rfl rfl rfl rfl rfl rfl ?_; clear hF a; intro a hF
    refine sv2 hF (v_pickF rfl rfl) (v_move rfl) rfl rfl ?_; clear hF a; intro a hF
    refine svn4 hF rfl rfl rfl rfl rfl rfl rfl rfl rfl rfl rfl rfl ?_; clear hF a; intro a hF
    refine sv2w hK hF (v_pickF rfl rfl) (v_assign rfl) rfl rfl ?_; clear hF a hK K; intro a hF
    replace hF := hF.sub _ (c_ 4 rfl (n_))
    refine W_ret ?_
    refine ⟨_, _, hF, rfl, ?_⟩
    refine ⟨congrArg Value.bool ?_, rfl⟩
    unfold fitB
    simp only [Option.isSome_some, Bool.true_and]
    first | (symm; rw [decide_eq_false_iff_not]; omega) | (rw [decide_eq_decide]; omega)
  ·
   clear hF a; intro hc2 a hF
   try simp only [dcl] at hc2
   refine sv2 hF (v_pickT rfl rfl) (v_move rfl) rfl rfl ?_; clear hF a; intro a hF
   refine svn2 hF rfl rfl rfl rfl rfl rfl ?_; clear hF a; intro a hF
   refine sv2 hF (v_pickF rfl rfl) (v_move rfl) rfl rfl ?_; clear hF a; intro a hF
   refine svn2 hF rfl rfl rfl rfl rfl rfl ?_; clear hF a; intro a hF
   refine sv2 hF (v_pickF rfl rfl) (v_move rfl) rfl rfl ?_; clear hF a; intro a hF
   refine svn4 hF rfl rfl rfl rfl rfl rfl rfl rfl rfl rfl rfl rfl ?_; clear hF a; intro a hF
   refine sv2w hK hF (v_pickF rfl rfl) (v_assign rfl) rfl rfl ?_; clear hF a hK K; intro a hF
   replace hF := hF.sub _ (c_ 4 rfl (n_))
   refine W_ret ?_
   refine ⟨_, _, hF, rfl, ?_⟩
   refine ⟨congrArg Value.bool ?_, rfl⟩
   unfold fitB
   simp only [Option.isSome_some, Bool.true_and]
   first | (symm; rw [decide_eq_false_iff_not]; omega) | (rw [decide_eq_decide]; omega)
 ·
  clear hF a; intro hc1 a hF
  try simp only [dcl] at hc1
  refine sv hF (v_move rfl) rfl ?_; clear hF a; intro a hF
  refine svn2 hF rfl rfl rfl rfl rfl rfl ?_; clear hF a; intro a hF
  refine sv2 hF (v_pickF rfl rfl) (v_move rfl) rfl rfl ?_; clear hF a; intro a hF
  refine svn2 hF rfl rfl rfl rfl rfl rfl ?_; clear hF a; intro a hF
  refine sv2 hF (v_pickF rfl rfl) (v_move rfl) rfl rfl ?_; clear hF a; intro a hF
  refine svn2 hF rfl rfl rfl rfl rfl rfl ?_; clear hF a; intro a hF
  refine sv2 hF (v_pickF rfl rfl) (v_move rfl) rfl rfl ?_; clear hF a; intro a hF
  refine svn4 hF rfl rfl rfl rfl rfl rfl rfl rfl rfl rfl rfl rfl ?_; clear hF a; intro a hF
  refine sv2w hK hF (v_pickF rfl rfl) (v_assign rfl) rfl rfl ?_; clear hF a hK K; intro a hF
  replace hF := hF.sub _ (c_ 4 rfl (n_))
  refine W_ret ?_
  refine ⟨_, _, hF, rfl, ?_⟩
  refine ⟨congrArg Value.bool ?_, rfl⟩
  unfold fitB
  simp only [Option.isSome_some, Bool.true_and]
  first | (symm; rw [decide_eq_false_iff_not]; omega) | (rw [decide_eq_decide]; omega)
set_option maxRecDepth 100000 in
set_option maxHeartbeats 1000000 in
theorem rIsal_ok (B wb p : Nat) (hp : Prm wb p) (k m : Int) (w : World) (hI : Inv FDx B w) : Ret Tryz.prog 33 [.int .i64 (wb : Int), .int .u32 (p : Int), .int .i64 k, .int .i64 m] w fun v w' => ∃ ob u, v = .tuple #[u, .bool (isalM (some (wb, p)) k m).isSome] ∧ MOwn FDx B w.heap.size 0 w'.heap.size w' 53 u ob ((isalM (some (wb, p)) k m).getD []) ∧ St FDx B w w' := by
 refine enter2 42 [(0, .int .i64 (wb : Int)), (1, .int .u32 (p : Int)), (2, .int .i64 k), (3, .int .i64 m)] 8 9 Tryz.func33 rfl rfl rfl rfl rfl ?_; intro a hF
 have hS := St.refl hI
 refine W_sr rfl fun K hK => ?_
 refine sv2w hK hF (v_assign rfl) (v_assign rfl) rfl rfl ?_; clear hF a hK K; intro a hF
 refine W_seq ?_
 refine W_sr rfl fun K hK => ?_
 refine sv2 hF (v_move rfl) (v_move rfl) rfl rfl ?_; clear hF a; intro a hF
 refine sc hF rfl rfl rfl en64 rfl (rFits_ok wb p k m _) ?_; clear hF a; intro v w' a hv hF
 obtain ⟨rfl, hw⟩ := hv
 obtain rfl := hw.symm
 have hS' := St.refl hS.inv
 replace hS := hS.trans hS'
 clear hS'
 refine svw hK hF (v_not rfl) rfl ?_; clear hF a hK K; intro a hF
 replace hF := hF.sub _ (c_ 17 rfl (c_ 9 rfl (c_ 8 rfl (c_ 0 rfl (c_ 1 rfl (c_ 2 rfl (c_ 3 rfl (n_))))))))
 refine W_if hF rfl (fun hc1 => ?_) (fun hc1 => ?_)
 ·
  skip
  try simp only [dcl] at hc1
  refine W_sr rfl fun K hK => ?_
  refine sv2w hK hF (v_assign rfl) (v_assign rfl) rfl rfl ?_; clear hF a hK K; intro a hF
  replace hF := hF.sub _ (c_ 9 rfl (c_ 8 rfl (c_ 0 rfl (c_ 1 rfl (c_ 2 rfl (c_ 3 rfl (n_)))))))
  refine W_ret ?_
  refine ⟨_, _, _, hF, rfl, rfl, ?_⟩
  rw [isalM_no (show fitB (some (wb, p)) k m = false by simpa using hc1)]
  exact ⟨none, _, rfl, MOwn.nil _ _ _ _ _ _ _ (Nat.zero_le _), hS⟩
 ·
  skip
  try simp only [dcl] at hc1
  refine W_skip ?_
  have hb : fitB (some (wb, p)) k m = true := by simpa using hc1
  obtain ⟨-, hb2⟩ := fitB_iff.1 hb
  obtain ⟨kn, rfl⟩ : ∃ n : Nat, k = (n : Int) := ⟨k.toNat, by omega⟩
  obtain ⟨mn, rfl⟩ : ∃ n : Nat, m = (n : Int) := ⟨m.toNat, by omega⟩
  refine W_sr rfl fun K hK => ?_
  refine svw hK hF (v_assign rfl) rfl ?_; clear hF a hK K; intro a hF
  replace hF := hF.sub _ (c_ 10 rfl (c_ 9 rfl (c_ 8 rfl (c_ 0 rfl (c_ 1 rfl (c_ 2 rfl (c_ 3 rfl (n_))))))))
  refine W_seq ?_
  refine W_sr rfl fun K hK => ?_
  refine svw hK hF (v_assign rfl) rfl ?_; clear hF a hK K; intro a hF
  refine W_block ?_
  refine W_loop (fun q a w1 => ∃ (i : Nat) (v10 : Value) (b10 : Option Nat), Fr 42 [(0, .int .i64 (wb : Int)), (1, .int .u32 (p : Int)), (2, .int .i64 (kn : Int)), (3, .int .i64 (mn : Int)), (10, v10), (11, .int .i64 (i : Int))] a ∧ (St FDx B w w1) ∧ (MOwn FDx B w.heap.size 0 w1.heap.size w1 53 v10 b10 ((List.range i).map (trow kn (isT (some (wb, p)))))) ∧ (i ≤ mn) ∧ (q + i = mn)) (mn) ?_ ?_
  ·
   skip
   exact ⟨0, _, none, hF.sub _ (c_ 0 rfl (c_ 1 rfl (c_ 2 rfl (c_ 3 rfl (c_ 10 rfl (c_ 11 rfl (n_))))))), hS, MOwn.nil _ _ _ _ _ _ _ (Nat.zero_le _), by omega, by omega⟩
  ·
   skip
   clear hF
   clear hS
   rintro q a w1 ⟨i, v10, b10, hF, hS, hMO, hi, hq⟩
   refine W_seq ?_
   obtain ⟨KM, hKe⟩ : ∃ KM, KM = w1.heap.size := ⟨_, rfl⟩
   rw [← hKe] at hMO
   have hKs : KM ≤ w1.heap.size := by omega
   have hNK : w.heap.size ≤ KM := by have := hS.ext.size; omega
   clear hKe
   refine W_sr rfl fun K hK => ?_
   refine sv3w hK hF (v_move rfl) (v_move rfl) (v_lss rfl rfl) rfl rfl rfl ?_; clear hF a hK K; intro a hF
   replace hF := hF.sub _ (c_ 20 rfl (c_ 0 rfl (c_ 1 rfl (c_ 2 rfl (c_ 3 rfl (c_ 10 rfl (c_ 11 rfl (n_))))))))
   refine W_if hF rfl (fun hc2 => ?_) (fun hc2 => ?_)
   ·
    skip
    try simp only [dcl] at hc2
    have hlt : i < mn := by omega
    refine W_skip ?_
    refine W_seq ?_
    refine W_block ?_
    refine W_sr rfl fun K hK => ?_
    refine svw hK hF (v_assign rfl) rfl ?_; clear hF a hK K; intro a hF
    replace hF := hF.sub _ (c_ 12 rfl (c_ 0 rfl (c_ 1 rfl (c_ 2 rfl (c_ 3 rfl (c_ 10 rfl (c_ 11 rfl (n_))))))))
    refine W_seq ?_
    refine W_sr rfl fun K hK => ?_
    refine svw hK hF (v_assign rfl) rfl ?_; clear hF a hK K; intro a hF
    refine W_block ?_
    refine W_loop (fun q2 a w2 => ∃ (j : Nat) (v12 : Value) (b12 : Option Nat), Fr 42 [(0, .int .i64 (wb : Int)), (1, .int .u32 (p : Int)), (2, .int .i64 (kn : Int)), (3, .int .i64 (mn : Int)), (10, v10), (11, .int .i64 (i : Int)), (12, v12), (13, .int .i64 (j : Int))] a ∧ (St FDx B w w2) ∧ (MOwn FDx B w.heap.size 0 KM w2 53 v10 b10 ((List.range i).map (trow kn (isT (some (wb, p)))))) ∧ (KM ≤ w2.heap.size) ∧ (Gam.Own FDx B KM w2 FDx.E v12 b12 (zints ((List.range j).map fun j => (((isT (some (wb, p))) i j : Nat) : Int)))) ∧ (j ≤ kn) ∧ (q2 + j = kn)) (kn) ?_ ?_
    ·
     skip
     exact ⟨0, _, none, hF.sub _ (c_ 0 rfl (c_ 1 rfl (c_ 2 rfl (c_ 3 rfl (c_ 10 rfl (c_ 11 rfl (c_ 12 rfl (c_ 13 rfl (n_))))))))), hS, hMO, hKs, Gam.Own.nil _ _ _ _ _, by omega, by omega⟩
    ·
     skip
     clear hF
     clear hS hMO hKs
     rintro q2 a w2 ⟨j, v12, b12, hF, hS, hMO, hKs, hO, hj, hq2⟩
     refine W_seq ?_
     refine W_sr rfl fun K hK => ?_
     refine sv3w hK hF (v_move rfl) (v_move rfl) (v_lss rfl rfl) rfl rfl rfl ?_; clear hF a hK K; intro a hF
     replace hF := hF.sub _ (c_ 25 rfl (c_ 0 rfl (c_ 1 rfl (c_ 2 rfl (c_ 3 rfl (c_ 10 rfl (c_ 11 rfl (c_ 12 rfl (c_ 13 rfl (n_))))))))))
     refine W_if hF rfl (fun hc3 => ?_) (fun hc3 => ?_)
     ·
      skip
      try simp only [dcl] at hc3
      have hlt2 : j < kn := by omega
      have hij : i * j ≤ 20 * 20 := Nat.mul_le_mul (by omega) (by omega)
      refine W_skip ?_
      refine W_seq ?_
      refine W_block ?_
      refine W_reg rfl fun K hK => ?_
      refine sv5 hF (v_move rfl) (v_move rfl) (v_move rfl) (v_move rfl) (v_move rfl) rfl rfl rfl rfl rfl ?_; clear hF a; intro a hF
      have hje : (i : Int) * (j : Int) = ((i * j : Nat) : Int) := by simp
      refine sv hF ((v_mulI rfl rfl (by rw [hje]; omega)).as (congrArg _ hje)) rfl ?_; clear hF a; intro a hF
      refine sc hF rfl rfl rfl en67 rfl (rExp_gf B wb p ((i * j : Nat) : Int) _ hS.inv hp (by omega)) ?_; clear hF a; intro v w' a hv hF
      obtain ⟨rfl, hS'⟩ := hv
      replace hMO := hMO.st (by decide) hS'
      replace hKs := Nat.le_trans hKs hS'.ext.size
      replace hO := hO.st (by decide) hS'
      replace hS := hS.trans hS'
      clear hS'
      rw [exp_cell hp] at hF
      refine s_bs (D := FDx) (B := B) hF sl53 rfl rfl (by decide) (by simp [Value.cells]) (by decide) hS.inv rfl ?_; clear hF a; intro w' a hm hI' hL hF
      replace hMO := hMO.mb0 hm
      replace hKs := Nat.le_trans hKs hm.size
      replace hO := hO.mb hm (fun _ _ => by simp)
      replace hS := hS.mb0 hm
      clear hm hI'
      refine s_app (D := FDx) (B := B) hF rfl sl53 rfl rfl hO (hL.row (by decide)) (by simp [Value.oneCell']) (by simp; omega) (by simp [maxLen]; omega) (hKs) (by decide) hS.inv rfl ?_; clear hF a; intro v' b' w' a ho' hm hI' hb' hF
      replace hMO := hMO.mbo hm hO (by decide) (Nat.le_refl _) (Nat.zero_le _)
      replace hKs := Nat.le_trans hKs hm.size
      replace hS := hS.mb hm (fun k h => Nat.le_trans (hNK) (hO.lt k h).1)
      replace hO := ho'
      clear hm hI' ho'
      refine svw hK hF (v_assign rfl) rfl ?_; clear hF a hK K; intro a hF
      replace hF := hF.sub _ (c_ 12 rfl (c_ 0 rfl (c_ 1 rfl (c_ 2 rfl (c_ 3 rfl (c_ 10 rfl (c_ 11 rfl (c_ 13 rfl (n_)))))))))
      refine W_reg rfl fun K hK => ?_
      refine sv3w hK hF (v_move rfl) (v_addI rfl rfl (by omega)) (v_assign rfl) rfl rfl rfl ?_; clear hF a hK K; intro a hF
      exact ⟨q2 - 1, by omega, j + 1, _, _, hF.sub _ (c_ 0 rfl (c_ 1 rfl (c_ 2 rfl (c_ 3 rfl (c_ 10 rfl (c_ 11 rfl (c_ 12 rfl (c_ 13 rfl (n_))))))))), hS, hMO, hKs, hO.cast (by rw [List.range_succ, List.map_append]; simp [zints]), by omega, by omega⟩
     ·
      skip
      try simp only [dcl] at hc3
      have hjm : j = kn := by omega
      rw [hjm] at hO
      refine W_exit rfl ?_
      refine W_reg rfl fun K hK => ?_
      refine sv2 hF (v_move rfl) (v_move rfl) rfl rfl ?_; clear hF a; intro a hF
      obtain ⟨a_, c_r, rfl⟩ := hO.shape
      refine s_bs (D := FDx) (B := B) hF sl35 rfl rfl (by decide) (by simp [Value.cells]) (by decide) hS.inv rfl ?_; clear hF a; intro w' a hm hI' hL hF
      replace hMO := hMO.mb0 hm
      replace hKs := Nat.le_trans hKs hm.size
      replace hO := hO.mb hm (fun _ _ => by simp)
      replace hS := hS.mb0 hm
      clear hm hI'
      replace hMO := hMO.up hKs
      clear hKs
      refine s_appM (D := FDx) (B := B) hF rfl sl35 rfl rfl hMO hL (.of (r := trow kn (isT (some (wb, p))) i) hO (Nat.zero_le _)) rfl rfl (by simp; omega) (hS.ext.size) (by decide) (by decide) hS.inv rfl ?_; clear hF a; intro v' b' w' a ho' hm hI' hF
      replace hS := hS.mb hm (fun k h => (hMO.lt k h).1)
      have hKm := hm.size
      replace hMO := ho'
      clear hm hI' ho' hL
      refine svw hK hF (v_assign rfl) rfl ?_; clear hF a hK K; intro a hF
      replace hF := hF.sub _ (c_ 10 rfl (c_ 40 rfl (c_ 39 rfl (c_ 38 rfl (c_ 37 rfl (c_ 0 rfl (c_ 1 rfl (c_ 2 rfl (c_ 3 rfl (c_ 11 rfl (c_ 12 rfl (c_ 13 rfl (n_)))))))))))))
      refine W_reg rfl fun K hK => ?_
      refine sv3w hK hF (v_move rfl) (v_addI rfl rfl (by omega)) (v_assign rfl) rfl rfl rfl ?_; clear hF a hK K; intro a hF
      exact ⟨q - 1, by omega, i + 1, _, _, hF.sub _ (c_ 0 rfl (c_ 1 rfl (c_ 2 rfl (c_ 3 rfl (c_ 10 rfl (c_ 11 rfl (n_))))))), hS, (hMO.up hKm).cast (by rw [List.range_succ, List.map_append]; rfl), by omega, by omega⟩
   ·
    skip
    try simp only [dcl] at hc2
    refine W_exit rfl ?_
    refine W_sr rfl fun K hK => ?_
    refine sv3w hK hF (v_move rfl) (v_assign rfl) (v_assign rfl) rfl rfl rfl ?_; clear hF a hK K; intro a hF
    replace hF := hF.sub _ (c_ 9 rfl (c_ 8 rfl (c_ 41 rfl (c_ 0 rfl (c_ 1 rfl (c_ 2 rfl (c_ 3 rfl (c_ 10 rfl (c_ 11 rfl (n_))))))))))
    refine W_ret ?_
    refine ⟨_, _, _, hF, rfl, rfl, ?_⟩
    obtain rfl : i = mn := by omega
    rw [show isalM (some (wb, p)) (kn : Int) (i : Int) = some (tab i kn (isT (some (wb, p)))) by unfold isalM; rw [if_pos hb]; rfl]
    exact ⟨_, _, rfl, (hMO.up hKs).cast rfl, hS⟩
set_option maxRecDepth 100000 in
set_option maxHeartbeats 1000000 in
theorem rSystem_ok (B wb p : Nat) (hp : Prm wb p) (k m : Int) (w : World) (hI : Inv FDx B w) : Ret Tryz.prog 35 [.int .i64 (wb : Int), .int .u32 (p : Int), .int .i64 k, .int .i64 m] w fun v w' => ∃ ob u, v = .tuple #[u, .bool (sysM hp k m).isSome] ∧ MOwn FDx B w.heap.size 0 w'.heap.size w' 53 u ob ((sysM hp k m).getD []) ∧ St FDx B w w' := by
 refine enter2 44 [(0, .int .i64 (wb : Int)), (1, .int .u32 (p : Int)), (2, .int .i64 k), (3, .int .i64 m)] 8 9 Tryz.func35 rfl rfl rfl rfl rfl ?_; intro a hF
 have hS := St.refl hI
 refine W_sr rfl fun K hK => ?_
 refine sv2w hK hF (v_assign rfl) (v_assign rfl) rfl rfl ?_; clear hF a hK K; intro a hF
 refine W_seq ?_
 refine W_sr rfl fun K hK => ?_
 refine sv2 hF (v_move rfl) (v_move rfl) rfl rfl ?_; clear hF a; intro a hF
 refine sc hF rfl rfl rfl en64 rfl (rFits_ok wb p k m _) ?_; clear hF a; intro v w' a hv hF
 obtain ⟨rfl, hw⟩ := hv
 obtain rfl := hw.symm
 have hS' := St.refl hS.inv
 replace hS := hS.trans hS'
 clear hS'
 refine svw hK hF (v_not rfl) rfl ?_; clear hF a hK K; intro a hF
 replace hF := hF.sub _ (c_ 17 rfl (c_ 9 rfl (c_ 8 rfl (c_ 0 rfl (c_ 1 rfl (c_ 2 rfl (c_ 3 rfl (n_))))))))
 refine W_if hF rfl (fun hc1 => ?_) (fun hc1 => ?_)
 ·
  skip
  try simp only [dcl] at hc1
  refine W_sr rfl fun K hK => ?_
  refine sv2w hK hF (v_assign rfl) (v_assign rfl) rfl rfl ?_; clear hF a hK K; intro a hF
  replace hF := hF.sub _ (c_ 9 rfl (c_ 8 rfl (c_ 0 rfl (c_ 1 rfl (c_ 2 rfl (c_ 3 rfl (n_)))))))
  refine W_ret ?_
  refine ⟨_, _, _, hF, rfl, rfl, ?_⟩
  rw [show sysM hp k m = none by unfold sysM; rw [if_neg (by simpa using hc1)]]
  exact ⟨none, _, rfl, MOwn.nil _ _ _ _ _ _ _ (Nat.zero_le _), hS⟩
 ·
  skip
  try simp only [dcl] at hc1
  refine W_skip ?_
  have hb : fitB (some (wb, p)) k m = true := by simpa using hc1
  obtain ⟨-, hb2⟩ := fitB_iff.1 hb
  obtain ⟨kn, rfl⟩ : ∃ n : Nat, k = (n : Int) := ⟨k.toNat, by omega⟩
  obtain ⟨mn, rfl⟩ : ∃ n : Nat, m = (n : Int) := ⟨m.toNat, by omega⟩
  have hraw : rawM (some (wb, p)) ((kn + mn : Nat) : Int) (kn : Int) = some (tab (kn + mn) kn (pwT (some (wb, p)))) := by unfold rawM rawB; rw [if_pos (by rw [decide_eq_true (by omega)]; rfl)]; rfl
  have hinv := raw_inv hp (k := kn) (by omega) (by omega)
  have hmul := sys_mul hp (k := kn) (m := mn) (by omega) (by omega) (by omega)
  refine W_sr rfl fun K hK => ?_
  refine sv4 hF (v_move rfl) (v_move rfl) (v_move rfl) (v_move rfl) rfl rfl rfl rfl ?_; clear hF a; intro a hF
  refine sv hF ((v_addI rfl rfl (by omega)).as (show Value.int .i64 ((kn : Int) + (mn : Int)) = .int .i64 ((kn + mn : Nat) : Int) by simp)) rfl ?_; clear hF a; intro a hF
  refine sv hF (v_move rfl) rfl ?_; clear hF a; intro a hF
  refine sc hF rfl rfl rfl en68 rfl (rRaw_ok B wb p hp ((kn + mn : Nat) : Int) (kn : Int) _ hS.inv) ?_; clear hF a; intro v w' a hv hF
  obtain ⟨obX, uX, rfl, hoX, hS'⟩ := hv
  rw [hraw] at hoX hF
  try simp only [Option.getD_some, Option.getD_none] at hoX
  obtain ⟨sX, cX, rfl, hX⟩ := hoX.mat (by decide) (Nat.zero_le _)
  clear hoX
  replace hS := hS.trans hS'
  clear hS'
  refine sv5w hK hF (v_move rfl) (v_ext rfl rfl) (v_ext rfl rfl) (v_assign rfl) (v_assign rfl) rfl rfl rfl rfl rfl ?_; clear hF a hK K; intro a hF
  replace hF := hF.sub _ (c_ 10 rfl (c_ 9 rfl (c_ 8 rfl (c_ 0 rfl (c_ 1 rfl (c_ 2 rfl (n_)))))))
  have hcap := hX.capd
  have hxl : (tab (kn + mn) kn (pwT (some (wb, p)))).length = kn + mn := tab_length _ _ _
  rw [hxl] at hcap
  have hX1 := hX.to (b := tab kn kn (pwT (some (wb, p)))) (hi := kn) (by omega) (tab_take (by omega)).symm
  have hl1 : ∀ n, n ≤ 20 → (tab n kn (pwT (some (wb, p)))).length ≤ maxLen ∧ ∀ r ∈ tab n kn (pwT (some (wb, p))), r.length ≤ maxLen := fun n hn => len20 ⟨by rw [tab_length]; exact hn, fun r hr => by obtain ⟨i, _, rfl⟩ := List.mem_map.1 hr; simp; omega⟩
  have hkl : (tab kn kn (pwT (some (wb, p)))).length = kn := tab_length _ _ _
  refine W_sr rfl fun K hK => ?_
  refine sv5 hF (v_move rfl) (v_move rfl) (v_move rfl) (v_move rfl) (v_slHi sl35 rfl rfl (by omega) (by omega)) rfl rfl rfl rfl rfl ?_; clear hF a; intro a hF
  rw [show (Value.slice sX kn cX) = .slice sX (tab kn kn (pwT (some (wb, p)))).length cX by rw [hkl]] at hF
  refine sc hF rfl rfl rfl en61 rfl (rInverse_ok B _ wb p hp _ _ (tab kn kn (pwT (some (wb, p)))) _ hS.inv (Nat.le_refl _) hX1 (hl1 _ (by omega)).1 (hl1 _ (by omega)).2) ?_; clear hF a; intro v w' a hv hF
  obtain ⟨sY, cY, rfl, hY, hS'⟩ := hv
  rw [hinv] at hY hF
  dsimp only at hY hF
  clear hX1
  replace hX := (hX.st hS').mono hS'.ext.size
  replace hS := hS.trans hS'
  clear hS'
  refine sv5w hK hF (v_move rfl) (v_ext rfl rfl) (v_ext rfl rfl) (v_assign rfl) (v_assign rfl) rfl rfl rfl rfl rfl ?_; clear hF a hK K; intro a hF
  replace hF := hF.sub _ (c_ 12 rfl (c_ 10 rfl (c_ 9 rfl (c_ 8 rfl (c_ 0 rfl (c_ 1 rfl (n_)))))))
  have hl2 : (tab kn kn (vinv hp kn)).length ≤ 1000 ∧ ∀ r ∈ tab kn kn (vinv hp kn), r.length ≤ 1000 := len1k ⟨by rw [tab_length]; omega, fun r hr => by obtain ⟨i, _, rfl⟩ := List.mem_map.1 hr; simp; omega⟩
  have hl3 : (tab (kn + mn) kn (pwT (some (wb, p)))).length ≤ 1000 ∧ ∀ r ∈ (tab (kn + mn) kn (pwT (some (wb, p)))), r.length ≤ 1000 := len1k ⟨by rw [tab_length]; omega, fun r hr => by obtain ⟨i, _, rfl⟩ := List.mem_map.1 hr; simp; omega⟩
  refine W_sr rfl fun K hK => ?_
  refine sv4 hF (v_move rfl) (v_move rfl) (v_move rfl) (v_move rfl) rfl rfl rfl rfl ?_; clear hF a; intro a hF
  refine sc hF rfl rfl rfl en62 rfl (rMulM_ok B _ wb p hp _ _ (tab (kn + mn) kn (pwT (some (wb, p)))) _ _ (tab kn kn (vinv hp kn)) _ hS.inv (Nat.le_refl _) hX hl3.1 hl3.2 hY hl2.1 hl2.2) ?_; clear hF a; intro v w' a hv hF
  obtain ⟨ob, u, rfl, hMO, hS'⟩ := hv
  rw [hmul] at hMO hF
  simp only [Option.getD_some] at hMO
  replace hMO := hMO.le hS.ext.size (Nat.zero_le _)
  replace hS := hS.trans hS'
  clear hS'
  refine sv4w hK hF (v_ext rfl rfl) (v_ext rfl rfl) (v_assign rfl) (v_assign rfl) rfl rfl rfl rfl ?_; clear hF a hK K; intro a hF
  replace hF := hF.sub _ (c_ 9 rfl (c_ 8 rfl (n_)))
  refine W_ret ?_
  refine ⟨_, _, _, hF, rfl, rfl, ?_⟩
  rw [show sysM hp (kn : Int) (mn : Int) = some (tab (kn + mn) kn (sysT hp kn)) by unfold sysM; rw [if_pos hb]; rfl]
  exact ⟨_, _, rfl, hMO, hS⟩
end Go.Proofs.YtkoiolamnnmokaaGreat

/- The walks of gambrelref07: rows of powers, parity rows. -/
namespace Go.Proofs.YtkoiolamnnmokaaGreat
open Go Go.Gam
namespace FxFRef07
theorem en64 : Ent Tryz.prog 64 := ent Tryz.func64 (by kernel_rfl) (by kernel_rfl)
theorem en68 : Ent Tryz.prog 68 := ent Tryz.func68 (by kernel_rfl) (by kernel_rfl)
theorem en91 : Ent Tryz.prog 91 := ent Tryz.func91 (by kernel_rfl) (by kernel_rfl)
theorem on53 : Gam.One Tryz.prog 53 := by unfold Gam.One; kernel_rfl
theorem sl35 : Sl Tryz.prog 35 53 (.slice none 0 0) 24 := sl_of Tryz.underlying35 rfl (by kernel_rfl)
theorem sl53 : Sl Tryz.prog 53 3 (.int .i64 0) 8 := sl_of Tryz.underlying53 rfl (by kernel_rfl)
end FxFRef07
open FxFRef07
theorem gdiv_fld {wb p a b : Nat} (hp : Prm wb p) (ha : a < 2 ^ wb) (hb : b < 2 ^ wb) (h0 : b ≠ 0) : gdiv (some (wb, p)) (a : Int) (b : Int) = ((hp.fld.mul a (hp.fld.inv b) : Nat) : Int) := by
 have hib := hp.fld.inv_lt b
 rw [hp.fld_w] at hib
 rw [gdiv_in (by rw [gdivb_nat hp ha hb]; exact decide_eq_true h0), ginv_fld hp hb h0, gmul_num hp ha hib]
theorem ext_set {wb p k m : Nat} (hk : 1 ≤ k) : (tab (k + m) k (pwT (some (wb, p)))).set (k + m - 1) (trow k (extT (some (wb, p)) k m) (k + m - 1)) = tab (k + m) k (extT (some (wb, p)) k m) :=
 tab_set rfl fun a ha hne j hj => by unfold extT; rw [if_neg hne]
theorem ext_part {wb p k m j : Nat} : ((extT (some (wb, p)) k m (k + m - 1) j : Nat) : Int) = if j = k - 1 then 1 else 0 := by
 unfold extT; rw [if_pos rfl]; split <;> rfl
theorem par_scaled {wb p k m i j : Nat} (hp : Prm wb p) (hk : 1 ≤ k) (hm : 1 ≤ m) (h20 : k + m ≤ 20) (hi : i < m) (hj : j < k) : hp.fld.mul (jC hp k m i j) (hp.fld.inv (jC hp k m i 0)) = parT hp k m i j := by
 by_cases e : i = 0
 ·
  subst e
  have h1 : ∀ j, j < k → jC hp k m 0 j = 1 := fun j hj => by rw [← parT_zero hp]; exact parT_top hp hk hm h20 hj
  have h2 : hp.fld.mul (hp.fld.inv 1) 1 = 1 := hp.fld.inv_mul hp.fld.one_lt (by decide)
  rw [h1 j hj, h1 0 (by omega), parT_zero hp, h1 j hj, hp.fld.comm]
  exact h2
 ·
  rw [parT_pos hp e]
set_option maxRecDepth 100000 in
set_option maxHeartbeats 1000000 in
theorem over_ok (B wb p x y : Nat) (hp : Prm wb p) (w : World) (hI : Inv FDx B w) (ha : x < 2 ^ wb) (hb : y < 2 ^ wb) (h0 : y ≠ 0) : Ret Tryz.prog 63 [.int .i64 (wb : Int), .int .u32 (p : Int), .int .i64 (x : Int), .int .i64 (y : Int)] w fun v w' => v = .int .i64 ((hp.fld.mul x (hp.fld.inv y) : Nat) : Int) ∧ St FDx B w w' := by
 refine enter 20 [(0, .int .i64 (wb : Int)), (1, .int .u32 (p : Int)), (2, .int .i64 (x : Int)), (3, .int .i64 (y : Int))] 8 Tryz.func63 rfl rfl rfl rfl rfl ?_; intro a hF
 have hS := St.refl hI
 refine W_sr rfl fun K hK => ?_
 refine svw hK hF (v_assign rfl) rfl ?_; clear hF a hK K; intro a hF
 refine W_sr rfl fun K hK => ?_
 refine sv4 hF (v_move rfl) (v_move rfl) (v_move rfl) (v_move rfl) rfl rfl rfl rfl ?_; clear hF a; intro a hF
 refine sc hF rfl rfl rfl en91 rfl (rDiv_gf B wb p (x : Int) (y : Int) _ hS.inv hp) ?_; clear hF a; intro v w' a hv hF
 obtain ⟨rfl, hS'⟩ := hv
 replace hS := hS.trans hS'
 clear hS'
 rw [gdiv_fld hp ha hb h0] at hF
 refine sv5w hK hF (v_move rfl) (v_ext rfl rfl) (v_ext rfl rfl) (v_assign rfl) (v_assign rfl) rfl rfl rfl rfl rfl ?_; clear hF a hK K; intro a hF
 replace hF := hF.sub _ (c_ 9 rfl (c_ 8 rfl (n_)))
 refine W_sr rfl fun K hK => ?_
 refine sv2w hK hF (v_move rfl) (v_assign rfl) rfl rfl ?_; clear hF a hK K; intro a hF
 replace hF := hF.sub _ (c_ 8 rfl (n_))
 refine W_ret ?_
 refine ⟨_, _, hF, rfl, ?_⟩
 exact ⟨rfl, hS⟩
set_option maxRecDepth 100000 in
set_option maxHeartbeats 1000000 in
theorem rExtended_ok (B wb p : Nat) (hp : Prm wb p) (k m : Int) (w : World) (hI : Inv FDx B w) : Ret Tryz.prog 60 [.int .i64 (wb : Int), .int .u32 (p : Int), .int .i64 k, .int .i64 m] w fun v w' => ∃ ob u, v = .tuple #[u, .bool (extM (some (wb, p)) k m).isSome] ∧ MOwn FDx B w.heap.size 0 w'.heap.size w' 53 u ob ((extM (some (wb, p)) k m).getD []) ∧ St FDx B w w' := by
 refine enter2 50 [(0, .int .i64 (wb : Int)), (1, .int .u32 (p : Int)), (2, .int .i64 k), (3, .int .i64 m)] 8 9 Tryz.func60 rfl rfl rfl rfl rfl ?_; intro a hF
 have hS := St.refl hI
 refine W_sr rfl fun K hK => ?_
 refine sv2w hK hF (v_assign rfl) (v_assign rfl) rfl rfl ?_; clear hF a hK K; intro a hF
 refine W_seq ?_
 refine W_sr rfl fun K hK => ?_
 refine sv2 hF (v_move rfl) (v_move rfl) rfl rfl ?_; clear hF a; intro a hF
 refine sc hF rfl rfl rfl en64 rfl (rFits_ok wb p k m _) ?_; clear hF a; intro v w' a hv hF
 obtain ⟨rfl, hw⟩ := hv
 obtain rfl := hw.symm
 have hS' := St.refl hS.inv
 replace hS := hS.trans hS'
 clear hS'
 refine svw hK hF (v_not rfl) rfl ?_; clear hF a hK K; intro a hF
 replace hF := hF.sub _ (c_ 18 rfl (c_ 9 rfl (c_ 8 rfl (c_ 0 rfl (c_ 1 rfl (c_ 2 rfl (c_ 3 rfl (n_))))))))
 refine W_if hF rfl (fun hc1 => ?_) (fun hc1 => ?_)
 ·
  skip
  try simp only [dcl] at hc1
  refine W_sr rfl fun K hK => ?_
  refine sv2w hK hF (v_assign rfl) (v_assign rfl) rfl rfl ?_; clear hF a hK K; intro a hF
  replace hF := hF.sub _ (c_ 9 rfl (c_ 8 rfl (c_ 0 rfl (c_ 1 rfl (c_ 2 rfl (c_ 3 rfl (n_)))))))
  refine W_ret ?_
  refine ⟨_, _, _, hF, rfl, rfl, ?_⟩
  rw [extM_no (show fitB (some (wb, p)) k m = false by simpa using hc1)]
  exact ⟨none, _, rfl, MOwn.nil _ _ _ _ _ _ _ (Nat.zero_le _), hS⟩
 ·
  skip
  try simp only [dcl] at hc1
  refine W_skip ?_
  have hb : fitB (some (wb, p)) k m = true := by simpa using hc1
  obtain ⟨-, hb2⟩ := fitB_iff.1 hb
  obtain ⟨kn, rfl⟩ : ∃ n : Nat, k = (n : Int) := ⟨k.toNat, by omega⟩
  obtain ⟨mn, rfl⟩ : ∃ n : Nat, m = (n : Int) := ⟨m.toNat, by omega⟩
  have hraw : rawM (some (wb, p)) ((kn + mn : Nat) : Int) (kn : Int) = some (tab (kn + mn) kn (pwT (some (wb, p)))) := by unfold rawM rawB; rw [if_pos (by rw [decide_eq_true (by omega)]; rfl)]; rfl
  refine W_sr rfl fun K hK => ?_
  refine sv4 hF (v_move rfl) (v_move rfl) (v_move rfl) (v_move rfl) rfl rfl rfl rfl ?_; clear hF a; intro a hF
  refine sv hF ((v_addI rfl rfl (by omega)).as (show Value.int .i64 ((kn : Int) + (mn : Int)) = .int .i64 ((kn + mn : Nat) : Int) by simp)) rfl ?_; clear hF a; intro a hF
  refine sv hF (v_move rfl) rfl ?_; clear hF a; intro a hF
  refine sc hF rfl rfl rfl en68 rfl (rRaw_ok B wb p hp ((kn + mn : Nat) : Int) (kn : Int) _ hS.inv) ?_; clear hF a; intro v w' a hv hF
  obtain ⟨ob, u, rfl, hMO, hS'⟩ := hv
  rw [hraw] at hMO hF
  simp only [Option.getD_some] at hMO
  replace hMO := hMO.le hS.ext.size (Nat.zero_le _)
  obtain ⟨go, cap, rfl, rfl⟩ := hMO.ptr (by rw [tab_length]; omega)
  rw [tab_length] at hMO hF
  obtain ⟨KM, hKe⟩ : ∃ K, K = w'.heap.size := ⟨_, rfl⟩
  rw [← hKe] at hMO
  have hKs : KM ≤ w'.heap.size := by omega
  have hNK : w.heap.size ≤ KM := by have := hS'.ext.size; have := hS.ext.size; omega
  clear hKe
  replace hS := hS.trans hS'
  clear hS'
  refine sv5w hK hF (v_move rfl) (v_ext rfl rfl) (v_ext rfl rfl) (v_assign rfl) (v_assign rfl) rfl rfl rfl rfl rfl ?_; clear hF a hK K; intro a hF
  replace hF := hF.sub _ (c_ 10 rfl (c_ 9 rfl (c_ 8 rfl (c_ 2 rfl (c_ 3 rfl (n_))))))
  refine W_sr rfl fun K hK => ?_
  refine svw hK hF (v_assign rfl) rfl ?_; clear hF a hK K; intro a hF
  refine W_seq ?_
  refine W_sr rfl fun K hK => ?_
  refine svw hK hF (v_assign rfl) rfl ?_; clear hF a hK K; intro a hF
  refine W_block ?_
  refine W_loop (fun q a w1 => ∃ (j : Nat) (v12 : Value) (b12 : Option Nat), Fr 50 [(2, .int .i64 (kn : Int)), (3, .int .i64 (mn : Int)), (10, .slice (some ⟨go, 0, none⟩) (kn + mn) cap), (12, v12), (13, .int .i64 (j : Int))] a ∧ (St FDx B w w1) ∧ (MOwn FDx B w.heap.size 0 KM w1 53 (.slice (some ⟨go, 0, none⟩) (kn + mn) cap) (some go) (tab (kn + mn) kn (pwT (some (wb, p))))) ∧ (KM ≤ w1.heap.size) ∧ (Gam.Own FDx B KM w1 FDx.E v12 b12 (zints ((List.range j).map fun j => ((extT (some (wb, p)) kn mn (kn + mn - 1) j : Nat) : Int)))) ∧ (j ≤ kn) ∧ (q + j = kn)) (kn) ?_ ?_
  ·
   skip
   exact ⟨0, _, none, hF.sub _ (c_ 2 rfl (c_ 3 rfl (c_ 10 rfl (c_ 12 rfl (c_ 13 rfl (n_)))))), hS, hMO, hKs, Gam.Own.nil _ _ _ _ _, by omega, by omega⟩
  ·
   skip
   clear hF
   clear hS hMO hKs
   rintro q a w1 ⟨j, v12, b12, hF, hS, hMO, hKs, hO, hj, hq⟩
   refine W_seq ?_
   refine W_sr rfl fun K hK => ?_
   refine sv3w hK hF (v_move rfl) (v_move rfl) (v_lss rfl rfl) rfl rfl rfl ?_; clear hF a hK K; intro a hF
   replace hF := hF.sub _ (c_ 31 rfl (c_ 2 rfl (c_ 3 rfl (c_ 10 rfl (c_ 12 rfl (c_ 13 rfl (n_)))))))
   refine W_if hF rfl (fun hc2 => ?_) (fun hc2 => ?_)
   ·
    skip
    try simp only [dcl] at hc2
    have hlt : j < kn := by omega
    refine W_skip ?_
    refine W_seq ?_
    refine W_block ?_
    refine W_sr rfl fun K hK => ?_
    refine svw hK hF (v_assign rfl) rfl ?_; clear hF a hK K; intro a hF
    replace hF := hF.sub _ (c_ 14 rfl (c_ 2 rfl (c_ 3 rfl (c_ 10 rfl (c_ 12 rfl (c_ 13 rfl (n_)))))))
    refine W_seq ?_
    refine W_sr rfl fun K hK => ?_
    refine sv4w hK hF (v_move rfl) (v_move rfl) (v_subI rfl rfl (by omega)) (v_eql rfl rfl) rfl rfl rfl rfl ?_; clear hF a hK K; intro a hF
    replace hF := hF.sub _ (c_ 37 rfl (c_ 14 rfl (c_ 2 rfl (c_ 3 rfl (c_ 10 rfl (c_ 12 rfl (c_ 13 rfl (n_))))))))
    refine W_if hF rfl (fun hc3 => ?_) (fun hc3 => ?_)
    ·
     skip
     try simp only [dcl] at hc3
     have hcell : List.map (fun j => ((extT (some (wb, p)) kn mn (kn + mn - 1) j : Nat) : Int)) [j] = [1] := by simp only [List.map_cons, List.map_nil]; rw [ext_part, if_pos (by omega)]
     refine W_reg rfl fun K hK => ?_
     refine svw hK hF (v_assign rfl) rfl ?_; clear hF a hK K; intro a hF
     replace hF := hF.sub _ (c_ 14 rfl (c_ 2 rfl (c_ 3 rfl (c_ 10 rfl (c_ 12 rfl (c_ 13 rfl (n_)))))))
     refine W_reg rfl fun K hK => ?_
     refine sv2 hF (v_move rfl) (v_move rfl) rfl rfl ?_; clear hF a; intro a hF
     refine s_bs (D := FDx) (B := B) hF sl53 rfl rfl (by decide) (by simp [Value.cells]) (by decide) hS.inv rfl ?_; clear hF a; intro w' a hm hI' hL hF
     replace hMO := hMO.mb0 hm
     replace hKs := Nat.le_trans hKs hm.size
     replace hO := hO.mb hm (fun _ _ => by simp)
     replace hS := hS.mb0 hm
     clear hm hI'
     refine s_app (D := FDx) (B := B) hF rfl sl53 rfl rfl hO (hL.row (by decide)) (by simp [Value.oneCell']) (by simp; omega) (by simp [maxLen]; omega) (hKs) (by decide) hS.inv rfl ?_; clear hF a; intro v' b' w' a ho' hm hI' hb' hF
     replace hMO := hMO.mbo hm hO (by decide) (Nat.le_refl _) (Nat.zero_le _)
     replace hKs := Nat.le_trans hKs hm.size
     replace hS := hS.mb hm (fun k h => Nat.le_trans (hNK) (hO.lt k h).1)
     replace hO := ho'
     clear hm hI' ho'
     refine svw hK hF (v_assign rfl) rfl ?_; clear hF a hK K; intro a hF
     replace hF := hF.sub _ (c_ 12 rfl (c_ 2 rfl (c_ 3 rfl (c_ 10 rfl (c_ 13 rfl (n_))))))
     refine W_reg rfl fun K hK => ?_
     refine sv3w hK hF (v_move rfl) (v_addI rfl rfl (by omega)) (v_assign rfl) rfl rfl rfl ?_; clear hF a hK K; intro a hF
     exact ⟨q - 1, by omega, j + 1, _, _, hF.sub _ (c_ 2 rfl (c_ 3 rfl (c_ 10 rfl (c_ 12 rfl (c_ 13 rfl (n_)))))), hS, hMO, hKs, hO.cast (by rw [List.range_succ, List.map_append, hcell]; simp [zints]), by omega, by omega⟩
    ·
     skip
     try simp only [dcl] at hc3
     have hcell : List.map (fun j => ((extT (some (wb, p)) kn mn (kn + mn - 1) j : Nat) : Int)) [j] = [0] := by simp only [List.map_cons, List.map_nil]; rw [ext_part, if_neg (by omega)]
     refine W_skip ?_
     refine W_reg rfl fun K hK => ?_
     refine sv2 hF (v_move rfl) (v_move rfl) rfl rfl ?_; clear hF a; intro a hF
     refine s_bs (D := FDx) (B := B) hF sl53 rfl rfl (by decide) (by simp [Value.cells]) (by decide) hS.inv rfl ?_; clear hF a; intro w' a hm hI' hL hF
     replace hMO := hMO.mb0 hm
     replace hKs := Nat.le_trans hKs hm.size
     replace hO := hO.mb hm (fun _ _ => by simp)
     replace hS := hS.mb0 hm
     clear hm hI'
     refine s_app (D := FDx) (B := B) hF rfl sl53 rfl rfl hO (hL.row (by decide)) (by simp [Value.oneCell']) (by simp; omega) (by simp [maxLen]; omega) (hKs) (by decide) hS.inv rfl ?_; clear hF a; intro v' b' w' a ho' hm hI' hb' hF
     replace hMO := hMO.mbo hm hO (by decide) (Nat.le_refl _) (Nat.zero_le _)
     replace hKs := Nat.le_trans hKs hm.size
     replace hS := hS.mb hm (fun k h => Nat.le_trans (hNK) (hO.lt k h).1)
     replace hO := ho'
     clear hm hI' ho'
     refine svw hK hF (v_assign rfl) rfl ?_; clear hF a hK K; intro a hF
     replace hF := hF.sub _ (c_ 12 rfl (c_ 2 rfl (c_ 3 rfl (c_ 10 rfl (c_ 13 rfl (n_))))))
     refine W_reg rfl fun K hK => ?_
     refine sv3w hK hF (v_move rfl) (v_addI rfl rfl (by omega)) (v_assign rfl) rfl rfl rfl ?_; clear hF a hK K; intro a hF
     exact ⟨q - 1, by omega, j + 1, _, _, hF.sub _ (c_ 2 rfl (c_ 3 rfl (c_ 10 rfl (c_ 12 rfl (c_ 13 rfl (n_)))))), hS, hMO, hKs, hO.cast (by rw [List.range_succ, List.map_append, hcell]; simp [zints]), by omega, by omega⟩
   ·
    skip
    try simp only [dcl] at hc2
    have hje : j = kn := by omega
    rw [hje] at hO
    obtain ⟨aV, cV, rfl⟩ := hO.shape
    refine W_exit rfl ?_
    refine W_sr rfl fun K hK => ?_
    refine sv3 hF (v_move rfl) (v_move rfl) (v_move rfl) rfl rfl rfl ?_; clear hF a; intro a hF
    refine sv hF ((v_addI rfl rfl (by omega)).as (show Value.int .i64 ((kn : Int) + (mn : Int)) = .int .i64 ((kn + mn : Nat) : Int) by simp)) rfl ?_; clear hF a; intro a hF
    refine sv hF ((v_subI rfl rfl (by omega)).as (show Value.int .i64 (((kn + mn : Nat) : Int) - 1) = .int .i64 ((kn + mn - 1 : Nat) : Int) by congr 1; omega)) rfl ?_; clear hF a; intro a hF
    refine sv2 hF (v_move rfl) (v_ixS sl35 rfl rfl (by omega) (by omega)) rfl rfl ?_; clear hF a; intro a hF
    replace hMO := hMO.up hKs
    refine s_setM (D := FDx) (B := B) hF on53 rfl (by rw [toNat_c, tab_length]; omega) rfl rfl hMO (.of (r := trow kn (extT (some (wb, p)) kn mn) (kn + mn - 1)) hO (Nat.zero_le _)) (by decide) (by decide) hS.inv ?_; intro w' hm hI' ho'
    replace hS := hS.mb hm (fun k h => (hMO.lt k h).1)
    have hKz := hm.size
    replace hMO := ho'
    rw [toNat_c, Nat.zero_add, ext_set (by omega)] at hMO
    clear hm hI' ho' hO
    refine wn hK ?_
    clear hK K
    replace hF := hF.sub _ (c_ 48 rfl (c_ 47 rfl (c_ 46 rfl (c_ 45 rfl (c_ 44 rfl (c_ 43 rfl (c_ 42 rfl (c_ 2 rfl (c_ 3 rfl (c_ 10 rfl (c_ 12 rfl (c_ 13 rfl (n_)))))))))))))
    refine W_sr rfl fun K hK => ?_
    refine sv3w hK hF (v_move rfl) (v_assign rfl) (v_assign rfl) rfl rfl rfl ?_; clear hF a hK K; intro a hF
    refine W_ret ?_
    refine ⟨_, _, _, hF, rfl, rfl, ?_⟩
    rw [show extM (some (wb, p)) (kn : Int) (mn : Int) = some (tab (kn + mn) kn (extT (some (wb, p)) kn mn)) by unfold extM; rw [if_pos hb]; rfl]
    exact ⟨_, _, rfl, hMO.up hKz, hS⟩
end Go.Proofs.YtkoiolamnnmokaaGreat

/- Rows of inverses: any of them, of as many columns, have an inverse. Choices of numbers that rise; rows that are safe. No program in sight. -/
set_option linter.unusedSectionVars false
namespace Go.Gam
open Px
namespace Fld
variable (F : Fld)
end Fld
theorem zints_one (l : List Int) : ∀ u ∈ zints l, u.oneCell' = true := by
  intro u hu
  unfold zints at hu
  obtain ⟨_, _, rfl⟩ := List.mem_map.1 hu
  rfl
/-! ### choices -/
def ch (to : Nat) : Nat → Nat → List (List Nat)
  | 0, _ => [[]]
  | m + 1, fr => ((List.range (to - m - fr)).map fun d => (ch to m (fr + d + 1)).map fun l => (fr + d) :: l).flatten
def chP (to m fr i : Nat) : List (List Nat) := ((List.range i).map fun d => (ch to m (fr + d + 1)).map fun l => (fr + d) :: l).flatten
/-! ### rows that are safe -/
section
variable {wb p : Nat} (hp : Prm wb p)
def okC (f : Tb) (s : Nat) (R C : List Nat) : Prop := (invR hp (tab (s + 1) (s + 1) (mnr f R C))).1 = 0
def okR (f : Tb) (m s : Nat) (R : List Nat) : Prop := ∀ C ∈ ch m (s + 1) 0, okC hp f s R C
def safeB (n m : Nat) (f : Tb) : Bool := (List.range (min n m)).all fun s => (ch n (s + 1) 0).all fun R => (ch m (s + 1) 0).all fun C => decide ((invR hp (tab (s + 1) (s + 1) (mnr f R C))).1 = 0)
def safeM (mt : Mtx) : Bool × Int := if mayM (some (wb, p)) mt = true ∧ mt.length ≤ 5 ∧ wid mt ≤ 8 then (safeB hp mt.length (wid mt) (en mt), 0) else (false, 1)
end
end Go.Gam

/- Plain laws of layer 8: which rows are safe. No program in sight. -/
set_option linter.unusedSectionVars false
namespace Go.Gam
open Px
section
variable {wb p : Nat} (hp : Prm wb p)
end
/-! ### the smallest ones -/
end Go.Gam

/- The walks of gambrelref08: rows of inverses. -/
namespace Go.Proofs.YtkoiolamnnmokaaGreat
open Go Go.Gam
namespace FxFRef08
theorem en64 : Ent Tryz.prog 64 := ent Tryz.func64 (by kernel_rfl) (by kernel_rfl)
theorem en65 : Ent Tryz.prog 65 := ent Tryz.func65 (by kernel_rfl) (by kernel_rfl)
theorem en66 : Ent Tryz.prog 66 := ent Tryz.func66 (by kernel_rfl) (by kernel_rfl)
theorem en92 : Ent Tryz.prog 92 := ent Tryz.func92 (by kernel_rfl) (by kernel_rfl)
theorem en93 : Ent Tryz.prog 93 := ent Tryz.func93 (by kernel_rfl) (by kernel_rfl)
theorem hmix : Tryz.prog.follows .mixedOrders = true := by kernel_rfl
theorem sc3 : Scalar Tryz.prog 3 := ⟨_, Tryz.underlying3, by simp, by simp⟩
theorem sl35 : Sl Tryz.prog 35 53 (.slice none 0 0) 24 := sl_of Tryz.underlying35 rfl (by kernel_rfl)
theorem sl53 : Sl Tryz.prog 53 3 (.int .i64 0) 8 := sl_of Tryz.underlying53 rfl (by kernel_rfl)
end FxFRef08
open FxFRef08
set_option maxRecDepth 100000 in
set_option maxHeartbeats 1000000 in
theorem rfrom_ok (B fr many : Nat) (w : World) (hI : Inv FDx B w) (hm : fr ≤ 1000 ∧ many ≤ 1000) : Ret Tryz.prog 66 [.int .i64 (fr : Int), .int .i64 (many : Int)] w fun v w' => ∃ ob, Gam.Own FDx B w.heap.size w' FDx.E v ob (zints (rnL fr many)) ∧ St FDx B w w' := by
 refine enter 19 [(0, .int .i64 (fr : Int)), (1, .int .i64 (many : Int))] 4 Tryz.func66 rfl rfl rfl rfl rfl ?_; intro a hF
 have hS := St.refl hI
 refine W_sr rfl fun K hK => ?_
 refine svw hK hF (v_assign rfl) rfl ?_; clear hF a hK K; intro a hF
 refine W_sr rfl fun K hK => ?_
 refine svw hK hF (v_assign rfl) rfl ?_; clear hF a hK K; intro a hF
 refine W_seq ?_
 refine W_sr rfl fun K hK => ?_
 refine svw hK hF (v_assign rfl) rfl ?_; clear hF a hK K; intro a hF
 refine W_block ?_
 refine W_loop (fun q a w1 => ∃ (i : Nat) (v5 : Value) (b5 : Option Nat), Fr 19 [(0, .int .i64 (fr : Int)), (1, .int .i64 (many : Int)), (5, v5), (6, .int .i64 (i : Int))] a ∧ (St FDx B w w1) ∧ (Gam.Own FDx B w.heap.size w1 FDx.E v5 b5 (zints (rnL fr i))) ∧ (i ≤ many) ∧ (q + i = many)) (many) ?_ ?_
 ·
  skip
  exact ⟨0, _, none, hF.sub _ (c_ 0 rfl (c_ 1 rfl (c_ 5 rfl (c_ 6 rfl (n_))))), hS, Gam.Own.nil _ _ _ _ _, by omega, by omega⟩
 ·
  skip
  clear hF
  clear hS
  rintro q a w1 ⟨i, v5, b5, hF, hS, hO, hi, hq⟩
  refine W_seq ?_
  refine W_sr rfl fun K hK => ?_
  refine sv3w hK hF (v_move rfl) (v_move rfl) (v_lss rfl rfl) rfl rfl rfl ?_; clear hF a hK K; intro a hF
  replace hF := hF.sub _ (c_ 9 rfl (c_ 0 rfl (c_ 1 rfl (c_ 5 rfl (c_ 6 rfl (n_))))))
  refine W_if hF rfl (fun hc1 => ?_) (fun hc1 => ?_)
  ·
   skip
   try simp only [dcl] at hc1
   have hlt : i < many := by omega
   have hrl : (zints (rnL fr i)).length = i := by rw [zints_length, rnL_length]
   refine W_skip ?_
   refine W_seq ?_
   refine W_block ?_
   refine W_reg rfl fun K hK => ?_
   refine sv3 hF (v_move rfl) (v_move rfl) (v_move rfl) rfl rfl rfl ?_; clear hF a; intro a hF
   refine sv hF ((v_addI rfl rfl (by omega)).as (show Value.int .i64 ((fr : Int) + (i : Int)) = .int .i64 ((fr + i : Nat) : Int) by simp)) rfl ?_; clear hF a; intro a hF
   refine s_bs (D := FDx) (B := B) hF sl53 rfl rfl (by decide) (by simp [Value.cells]) (by decide) hS.inv rfl ?_; clear hF a; intro w' a hm hI' hL hF
   replace hO := hO.mb hm (fun _ _ => by simp)
   replace hS := hS.mb0 hm
   clear hm hI'
   refine s_app (D := FDx) (B := B) hF rfl sl53 rfl rfl hO (hL.row (by decide)) (by simp [Value.oneCell']) (by rw [hrl]; simp; omega) (by rw [hrl]; simp [maxLen]; omega) (hS.ext.size) (by decide) hS.inv rfl ?_; clear hF a; intro v' b' w' a ho' hm hI' hb' hF
   replace hS := hS.mb hm (fun k h => Nat.le_trans (Nat.le_refl _) (hO.lt k h).1)
   replace hO := ho'
   clear hm hI' ho'
   refine svw hK hF (v_assign rfl) rfl ?_; clear hF a hK K; intro a hF
   replace hF := hF.sub _ (c_ 5 rfl (c_ 0 rfl (c_ 1 rfl (c_ 6 rfl (n_)))))
   refine W_reg rfl fun K hK => ?_
   refine sv3w hK hF (v_move rfl) (v_addI rfl rfl (by omega)) (v_assign rfl) rfl rfl rfl ?_; clear hF a hK K; intro a hF
   exact ⟨q - 1, by omega, i + 1, _, _, hF.sub _ (c_ 0 rfl (c_ 1 rfl (c_ 5 rfl (c_ 6 rfl (n_))))), hS, hO.cast (by unfold rnL; rw [List.range_succ, List.map_append]; simp [zints]), by omega, by omega⟩
  ·
   skip
   try simp only [dcl] at hc1
   refine W_exit rfl ?_
   refine W_sr rfl fun K hK => ?_
   refine sv2w hK hF (v_move rfl) (v_assign rfl) rfl rfl ?_; clear hF a hK K; intro a hF
   replace hF := hF.sub _ (c_ 4 rfl (c_ 18 rfl (c_ 0 rfl (c_ 1 rfl (c_ 5 rfl (c_ 6 rfl (n_)))))))
   refine W_ret ?_
   refine ⟨_, _, hF, rfl, ?_⟩
   obtain rfl : i = many := by omega
   exact ⟨_, hO, hS⟩
set_option maxRecDepth 100000 in
set_option maxHeartbeats 1000000 in
theorem rOf_ok (B M wb p : Nat) (hp : Prm wb p) (px py : Option Addr) (cx cy : Nat) (x y : List Int) (w : World) (hI : Inv FDx B w) (hM : M ≤ w.heap.size) (hx : Row FDx B M w (.slice px x.length cx) (zints x)) (hy : Row FDx B M w (.slice py y.length cy) (zints y)) (hl : x.length ≤ maxLen ∧ y.length ≤ maxLen) : Ret Tryz.prog 65 [.int .i64 (wb : Int), .int .u32 (p : Int), .slice px x.length cx, .slice py y.length cy] w fun v w' => ∃ ob u, v = .tuple #[u, .bool (ofM hp x y).isSome] ∧ MOwn FDx B w.heap.size 0 w'.heap.size w' 53 u ob ((ofM hp x y).getD []) ∧ St FDx B w w' := by
 refine enter2 106 [(0, .int .i64 (wb : Int)), (1, .int .u32 (p : Int)), (2, .slice px x.length cx), (3, .slice py y.length cy)] 8 9 Tryz.func65 rfl rfl rfl rfl rfl ?_; intro a hF
 have hS := St.refl hI
 have hl2 := hl
 simp only [maxLen] at hl2
 have h16 : 2 ^ wb ≤ 65536 := by rcases hp.w with h | h <;> rw [h] <;> decide
 have hwb : wb ≤ 16 := by rcases hp.w with h | h <;> omega
 refine W_sr rfl fun K hK => ?_
 refine sv2w hK hF (v_assign rfl) (v_assign rfl) rfl rfl ?_; clear hF a hK K; intro a hF
 refine W_seq ?_
 refine W_sr rfl fun K hK => ?_
 refine sv2 hF (v_move rfl) (v_lenS rfl sl53 rfl) rfl rfl ?_; clear hF a; intro a hF
 refine sb hF (v_lss rfl rfl) rfl ?_ ?_
 ·
  clear hF a; intro hc1 a hF
  try simp only [dcl] at hc1
  refine sv hF (v_move rfl) rfl ?_; clear hF a; intro a hF
  refine svn3 hF rfl rfl rfl rfl rfl rfl rfl rfl rfl ?_; clear hF a; intro a hF
  refine sv2 hF (v_pickT rfl rfl) (v_move rfl) rfl rfl ?_; clear hF a; intro a hF
  refine svn3 hF rfl rfl rfl rfl rfl rfl rfl rfl rfl ?_; clear hF a; intro a hF
  refine sv2 hF (v_pickT rfl rfl) (v_move rfl) rfl rfl ?_; clear hF a; intro a hF
  refine svn3 hF rfl rfl rfl rfl rfl rfl rfl rfl rfl ?_; clear hF a; intro a hF
  refine svw hK hF (v_pickT rfl rfl) rfl ?_; clear hF a hK K; intro a hF
  replace hF := hF.sub _ (c_ 36 rfl (c_ 9 rfl (c_ 8 rfl (c_ 0 rfl (c_ 1 rfl (c_ 2 rfl (c_ 3 rfl (n_))))))))
  refine W_ifT hF rfl ?_
  refine W_sr rfl fun K hK => ?_
  refine sv2w hK hF (v_assign rfl) (v_assign rfl) rfl rfl ?_; clear hF a hK K; intro a hF
  replace hF := hF.sub _ (c_ 9 rfl (c_ 8 rfl (c_ 0 rfl (c_ 1 rfl (c_ 2 rfl (c_ 3 rfl (n_)))))))
  refine W_ret ?_
  refine ⟨_, _, _, hF, rfl, rfl, ?_⟩
  rw [ofM_no hp (ofB_len (by omega))]
  exact ⟨none, _, rfl, MOwn.nil _ _ _ _ _ _ _ (Nat.zero_le _), hS⟩
 ·
  clear hF a; intro hc1 a hF
  try simp only [dcl] at hc1
  refine sv hF (v_move rfl) rfl ?_; clear hF a; intro a hF
  refine svg hF rfl ?_
  refine sv hF (v_move rfl) rfl ?_; clear hF a; intro a hF
  refine svg hF rfl ?_
  refine sv hF (v_lenS rfl sl53 rfl) rfl ?_; clear hF a; intro a hF
  refine svg hF rfl ?_
  refine sb hF (v_gtr rfl rfl) rfl ?_ ?_
  ·
   clear hF a; intro hc2 a hF
   try simp only [dcl] at hc2
   refine sv2 hF (v_pickF rfl rfl) (v_move rfl) rfl rfl ?_; clear hF a; intro a hF
   refine svn3 hF rfl rfl rfl rfl rfl rfl rfl rfl rfl ?_; clear hF a; intro a hF
   refine sv2 hF (v_pickT rfl rfl) (v_move rfl) rfl rfl ?_; clear hF a; intro a hF
   refine svn3 hF rfl rfl rfl rfl rfl rfl rfl rfl rfl ?_; clear hF a; intro a hF
   refine svw hK hF (v_pickT rfl rfl) rfl ?_; clear hF a hK K; intro a hF
   replace hF := hF.sub _ (c_ 36 rfl (c_ 9 rfl (c_ 8 rfl (c_ 0 rfl (c_ 1 rfl (c_ 2 rfl (c_ 3 rfl (n_))))))))
   refine W_ifT hF rfl ?_
   refine W_sr rfl fun K hK => ?_
   refine sv2w hK hF (v_assign rfl) (v_assign rfl) rfl rfl ?_; clear hF a hK K; intro a hF
   replace hF := hF.sub _ (c_ 9 rfl (c_ 8 rfl (c_ 0 rfl (c_ 1 rfl (c_ 2 rfl (c_ 3 rfl (n_)))))))
   refine W_ret ?_
   refine ⟨_, _, _, hF, rfl, rfl, ?_⟩
   rw [ofM_no hp (ofB_len (by omega))]
   exact ⟨none, _, rfl, MOwn.nil _ _ _ _ _ _ _ (Nat.zero_le _), hS⟩
  ·
   clear hF a; intro hc2 a hF
   try simp only [dcl] at hc2
   refine sv2 hF (v_pickF rfl rfl) (v_move rfl) rfl rfl ?_; clear hF a; intro a hF
   refine svg hF rfl ?_
   refine sv hF (v_move rfl) rfl ?_; clear hF a; intro a hF
   refine svg hF rfl ?_
   refine sv hF (v_lenS rfl sl53 rfl) rfl ?_; clear hF a; intro a hF
   refine svg hF rfl ?_
   refine sb hF (v_lss rfl rfl) rfl ?_ ?_
   ·
    clear hF a; intro hc3 a hF
    try simp only [dcl] at hc3
    refine sv2 hF (v_pickF rfl rfl) (v_move rfl) rfl rfl ?_; clear hF a; intro a hF
    refine svn3 hF rfl rfl rfl rfl rfl rfl rfl rfl rfl ?_; clear hF a; intro a hF
    refine svw hK hF (v_pickT rfl rfl) rfl ?_; clear hF a hK K; intro a hF
    replace hF := hF.sub _ (c_ 36 rfl (c_ 9 rfl (c_ 8 rfl (c_ 0 rfl (c_ 1 rfl (c_ 2 rfl (c_ 3 rfl (n_))))))))
    refine W_ifT hF rfl ?_
    refine W_sr rfl fun K hK => ?_
    refine sv2w hK hF (v_assign rfl) (v_assign rfl) rfl rfl ?_; clear hF a hK K; intro a hF
    replace hF := hF.sub _ (c_ 9 rfl (c_ 8 rfl (c_ 0 rfl (c_ 1 rfl (c_ 2 rfl (c_ 3 rfl (n_)))))))
    refine W_ret ?_
    refine ⟨_, _, _, hF, rfl, rfl, ?_⟩
    rw [ofM_no hp (ofB_len (by omega))]
    exact ⟨none, _, rfl, MOwn.nil _ _ _ _ _ _ _ (Nat.zero_le _), hS⟩
   ·
    clear hF a; intro hc3 a hF
    try simp only [dcl] at hc3
    refine sv2 hF (v_pickF rfl rfl) (v_move rfl) rfl rfl ?_; clear hF a; intro a hF
    refine svg hF rfl ?_
    refine sv hF (v_move rfl) rfl ?_; clear hF a; intro a hF
    refine svg hF rfl ?_
    refine sv hF (v_lenS rfl sl53 rfl) rfl ?_; clear hF a; intro a hF
    refine svg hF rfl ?_
    refine sv2w hK hF (v_gtr rfl rfl) (v_pickF rfl rfl) rfl rfl ?_; clear hF a hK K; intro a hF
    replace hF := hF.sub _ (c_ 36 rfl (c_ 9 rfl (c_ 8 rfl (c_ 0 rfl (c_ 1 rfl (c_ 2 rfl (c_ 3 rfl (n_))))))))
    refine W_if hF rfl (fun hc4 => ?_) (fun hc4 => ?_)
    ·
     skip
     try simp only [dcl] at hc4
     refine W_sr rfl fun K hK => ?_
     refine sv2w hK hF (v_assign rfl) (v_assign rfl) rfl rfl ?_; clear hF a hK K; intro a hF
     replace hF := hF.sub _ (c_ 9 rfl (c_ 8 rfl (c_ 0 rfl (c_ 1 rfl (c_ 2 rfl (c_ 3 rfl (n_)))))))
     refine W_ret ?_
     refine ⟨_, _, _, hF, rfl, rfl, ?_⟩
     rw [ofM_no hp (ofB_len (by omega))]
     exact ⟨none, _, rfl, MOwn.nil _ _ _ _ _ _ _ (Nat.zero_le _), hS⟩
    ·
     skip
     try simp only [dcl] at hc4
     refine W_skip ?_
     have hln : 1 ≤ x.length ∧ x.length ≤ 20 ∧ 1 ≤ y.length ∧ y.length ≤ 20 := by omega
     refine W_sr rfl fun K hK => ?_
     have hs0 := hS.ext.size
     refine s_bs (D := FDx) (B := B) hF sl53 rfl rfl (by decide) (by simp [Value.cells]) (by decide) hS.inv rfl ?_; clear hF a; intro w' a hm hI' hC hF
     replace hx := hx.mb hm (fun _ h => by cases h)
     replace hy := hy.mb hm (fun _ h => by cases h)
     replace hS := hS.mb0 hm
     clear hm hI'
     replace hC := hC.le hs0
     clear hs0
     refine sv hF (v_move rfl) rfl ?_; clear hF a; intro a hF
     refine s_app (D := FDx) (B := B) hF rfl sl53 rfl rfl hC (hx) (zints_one _) (by simp; omega) (by simp [maxLen]; omega) (hS.ext.size) (by decide) hS.inv rfl ?_; clear hF a; intro v' b' w' a ho' hm hI' hb' hF
     replace hx := hx.mb hm (fun k h => Nat.le_trans (hM) (hC.lt k h).1)
     replace hy := hy.mb hm (fun k h => Nat.le_trans (hM) (hC.lt k h).1)
     replace hS := hS.mb hm (fun k h => Nat.le_trans (Nat.le_refl _) (hC.lt k h).1)
     replace hC := ho'
     clear hm hI' ho'
     replace hC := hC.cast (ys := zints x) (by simp)
     refine svw hK hF (v_assign rfl) rfl ?_; clear hF a hK K; intro a hF
     replace hF := hF.sub _ (c_ 10 rfl (c_ 9 rfl (c_ 8 rfl (c_ 0 rfl (c_ 1 rfl (c_ 2 rfl (c_ 3 rfl (n_))))))))
     refine W_sr rfl fun K hK => ?_
     refine sv2 hF (v_move rfl) (v_move rfl) rfl rfl ?_; clear hF a; intro a hF
     refine s_app (D := FDx) (B := B) hF rfl sl53 rfl rfl hC (hy) (zints_one _) (by simp; omega) (by simp [maxLen]; omega) (hS.ext.size) (by decide) hS.inv rfl ?_; clear hF a; intro v' b' w' a ho' hm hI' hb' hF
     replace hx := hx.mb hm (fun k h => Nat.le_trans (hM) (hC.lt k h).1)
     replace hy := hy.mb hm (fun k h => Nat.le_trans (hM) (hC.lt k h).1)
     replace hS := hS.mb hm (fun k h => Nat.le_trans (Nat.le_refl _) (hC.lt k h).1)
     replace hC := ho'
     clear hm hI' ho'
     replace hC := hC.cast (ys := zints (x ++ y)) (by simp [zints])
     obtain ⟨gL, cL, rfl, rfl⟩ := hC.ptr (by simp; omega)
     rw [zints_length, List.length_append] at hC hF
     refine svw hK hF (v_assign rfl) rfl ?_; clear hF a hK K; intro a hF
     replace hF := hF.sub _ (c_ 10 rfl (c_ 9 rfl (c_ 8 rfl (c_ 0 rfl (c_ 1 rfl (c_ 2 rfl (c_ 3 rfl (n_))))))))
     refine W_seq ?_
     refine W_sr rfl fun K hK => ?_
     refine svw hK hF (v_assign rfl) rfl ?_; clear hF a hK K; intro a hF
     refine W_block ?_
     refine W_loop (fun q a w1 => ∃ (i : Nat), Fr 106 [(0, .int .i64 (wb : Int)), (1, .int .u32 (p : Int)), (2, .slice px x.length cx), (3, .slice py y.length cy), (10, .slice (some ⟨gL, 0, none⟩) (x.length + y.length) cL), (11, .int .i64 (i : Int))] a ∧ (St FDx B w w1) ∧ (Row FDx B M w1 (.slice px x.length cx) (zints x)) ∧ (Row FDx B M w1 (.slice py y.length cy) (zints y)) ∧ (Gam.Own FDx B w.heap.size w1 FDx.E (.slice (some ⟨gL, 0, none⟩) (x.length + y.length) cL) (some gL) (zints (x ++ y))) ∧ (((x ++ y).take i).Nodup) ∧ (∀ z ∈ (x ++ y).take i, 0 ≤ z ∧ z < ((2 ^ wb : Nat) : Int)) ∧ (i ≤ x.length + y.length) ∧ (q + i = x.length + y.length)) (x.length + y.length) ?_ ?_
     ·
      skip
      exact ⟨0, hF.sub _ (c_ 0 rfl (c_ 1 rfl (c_ 2 rfl (c_ 3 rfl (c_ 10 rfl (c_ 11 rfl (n_))))))), hS, hx, hy, hC, List.nodup_nil, (fun z hz => by simp at hz), by omega, by omega⟩
     ·
      skip
      clear hF
      clear hS hx hy hC
      rintro q a w1 ⟨i, hF, hS, hx, hy, hC, hnd, hbd, hi, hq⟩
      refine W_seq ?_
      refine W_sr rfl fun K hK => ?_
      refine sv4w hK hF (v_move rfl) (v_move rfl) (v_lenS rfl sl53 rfl) (v_lss rfl rfl) rfl rfl rfl rfl ?_; clear hF a hK K; intro a hF
      replace hF := hF.sub _ (c_ 46 rfl (c_ 0 rfl (c_ 1 rfl (c_ 2 rfl (c_ 3 rfl (c_ 10 rfl (c_ 11 rfl (n_))))))))
      refine W_if hF rfl (fun hc5 => ?_) (fun hc5 => ?_)
      ·
       skip
       try simp only [dcl] at hc5
       have hlt : i < (x ++ y).length := by rw [List.length_append]; omega
       obtain ⟨a_, ha⟩ : ∃ z, (x ++ y)[i]? = some z := ⟨_, List.getElem?_eq_getElem hlt⟩
       refine W_skip ?_
       refine W_seq ?_
       refine W_block ?_
       refine W_seq ?_
       refine W_sr rfl fun K hK => ?_
       refine sv4 hF (v_move rfl) (v_move rfl) (v_move rfl) (v_ixS sl53 rfl rfl (by omega) (by omega)) rfl rfl rfl rfl ?_; clear hF a; intro a hF
       refine sv hF (v_load sc3 rfl (by rw [toNat_c]; exact (hC.kc (by decide) (zints_at ha)).c)) rfl ?_; clear hF a; intro a hF
       refine sc hF rfl rfl rfl en92 rfl (rIn_ok B wb p a_ _ hS.inv hwb) ?_; clear hF a; intro v w' a hv hF
       obtain ⟨rfl, hw⟩ := hv
       obtain rfl := hw.symm
       have hS' := St.refl hS.inv
       replace hx := hx.st hS'
       replace hy := hy.st hS'
       replace hC := hC.st (by decide) hS'
       replace hS := hS.trans hS'
       clear hS'
       refine svw hK hF (v_not rfl) rfl ?_; clear hF a hK K; intro a hF
       replace hF := hF.sub _ (c_ 55 rfl (c_ 0 rfl (c_ 1 rfl (c_ 2 rfl (c_ 3 rfl (c_ 10 rfl (c_ 11 rfl (n_))))))))
       refine W_if hF rfl (fun hc6 => ?_) (fun hc6 => ?_)
       ·
        skip
        try simp only [dcl] at hc6
        have hinb : inF (some (wb, p)) a_ = false := by assumption
        have hin : ¬ (0 ≤ a_ ∧ a_ < ((2 ^ wb : Nat) : Int)) := fun h => by rw [inF_some.2 h] at hinb; cases hinb
        refine W_sr rfl fun K hK => ?_
        refine sv2w hK hF (v_assign rfl) (v_assign rfl) rfl rfl ?_; clear hF a hK K; intro a hF
        replace hF := hF.sub _ (c_ 9 rfl (c_ 8 rfl (c_ 0 rfl (c_ 1 rfl (c_ 2 rfl (c_ 3 rfl (c_ 10 rfl (c_ 11 rfl (n_)))))))))
        refine W_ret ?_
        refine ⟨_, _, _, hF, rfl, rfl, ?_⟩
        rw [ofM_no hp (ofB_bad ha ((Int.lt_or_le a_ 0).elim .inl fun h0 => .inr (.inl (Int.not_lt.1 fun h => hin ⟨h0, h⟩))))]
        exact ⟨none, _, rfl, MOwn.nil _ _ _ _ _ _ _ (Nat.zero_le _), hS⟩
       ·
        skip
        try simp only [dcl] at hc6
        have hin : 0 ≤ a_ ∧ a_ < ((2 ^ wb : Nat) : Int) := inF_some.1 (show inF (some (wb, p)) a_ = true by assumption)
        refine W_skip ?_
        refine W_sr rfl fun K hK => ?_
        refine svw hK hF (v_assign rfl) rfl ?_; clear hF a hK K; intro a hF
        replace hF := hF.sub _ (c_ 12 rfl (c_ 0 rfl (c_ 1 rfl (c_ 2 rfl (c_ 3 rfl (c_ 10 rfl (c_ 11 rfl (n_))))))))
        refine W_block ?_
        refine W_loop (fun q2 a w2 => ∃ (k : Nat), Fr 106 [(0, .int .i64 (wb : Int)), (1, .int .u32 (p : Int)), (2, .slice px x.length cx), (3, .slice py y.length cy), (10, .slice (some ⟨gL, 0, none⟩) (x.length + y.length) cL), (11, .int .i64 (i : Int)), (12, .int .i64 (k : Int))] a ∧ (St FDx B w w2) ∧ (Row FDx B M w2 (.slice px x.length cx) (zints x)) ∧ (Row FDx B M w2 (.slice py y.length cy) (zints y)) ∧ (Gam.Own FDx B w.heap.size w2 FDx.E (.slice (some ⟨gL, 0, none⟩) (x.length + y.length) cL) (some gL) (zints (x ++ y))) ∧ (k ≤ i) ∧ (a_ ∉ (x ++ y).take k) ∧ (q2 + k = i)) (i) ?_ ?_
        ·
         skip
         exact ⟨0, hF.sub _ (c_ 0 rfl (c_ 1 rfl (c_ 2 rfl (c_ 3 rfl (c_ 10 rfl (c_ 11 rfl (c_ 12 rfl (n_)))))))), hS, hx, hy, hC, by omega, by simp, by omega⟩
        ·
         skip
         clear hF
         clear hS hx hy hC
         rintro q2 a w2 ⟨k, hF, hS, hx, hy, hC, hk, hno, hq2⟩
         refine W_seq ?_
         refine W_sr rfl fun K hK => ?_
         refine sv3w hK hF (v_move rfl) (v_move rfl) (v_lss rfl rfl) rfl rfl rfl ?_; clear hF a hK K; intro a hF
         replace hF := hF.sub _ (c_ 58 rfl (c_ 0 rfl (c_ 1 rfl (c_ 2 rfl (c_ 3 rfl (c_ 10 rfl (c_ 11 rfl (c_ 12 rfl (n_)))))))))
         refine W_if hF rfl (fun hc7 => ?_) (fun hc7 => ?_)
         ·
          skip
          try simp only [dcl] at hc7
          have hklt : k < i := by omega
          obtain ⟨b_, hb⟩ : ∃ z, (x ++ y)[k]? = some z := ⟨_, List.getElem?_eq_getElem (by omega)⟩
          refine W_skip ?_
          refine W_seq ?_
          refine W_block ?_
          have hka := hC.kc (by decide) (zints_at ha)
          have hkb := hC.kc (by decide) (zints_at hb)
          refine W_sd (m := 9) rfl hmix hS.inv (fun K hK w1 hS' hh => ?_)
          replace hx := hx.st hS'
          replace hy := hy.st hS'
          replace hC := hC.st (by decide) hS'
          replace hka := hka.st hS'
          replace hkb := hkb.st hS'
          replace hS := hS.trans hS'
          clear hS'
          clear hh
          refine a_v (i := 0) rfl (by kernel_rfl) hF (fun w2 hx => v_move rfl) rfl ?_; clear hF a; intro a hF
          refine a_v (i := 1) rfl (by kernel_rfl) hF (fun w2 hx => v_move rfl) rfl ?_; clear hF a; intro a hF
          refine a_v (i := 2) rfl (by kernel_rfl) hF (fun w2 hx => v_ixS sl53 rfl rfl (by omega) (by omega)) rfl ?_; clear hF a; intro a hF
          refine a_v (i := 3) rfl (by kernel_rfl) hF (fun w2 hx => v_load sc3 rfl (by rw [toNat_c]; exact KC.ld hka (by assumption))) rfl ?_; clear hF a; intro a hF
          refine a_v (i := 4) rfl (by kernel_rfl) hF (fun w2 hx => v_move rfl) rfl ?_; clear hF a; intro a hF
          refine a_v (i := 5) rfl (by kernel_rfl) hF (fun w2 hx => v_move rfl) rfl ?_; clear hF a; intro a hF
          refine a_v (i := 6) rfl (by kernel_rfl) hF (fun w2 hx => v_ixS sl53 rfl rfl (by omega) (by omega)) rfl ?_; clear hF a; intro a hF
          refine a_v (i := 7) rfl (by kernel_rfl) hF (fun w2 hx => v_load sc3 rfl (by rw [toNat_c]; exact KC.ld hkb (by assumption))) rfl ?_; clear hF a; intro a hF
          refine a_v (i := 8) rfl (by kernel_rfl) hF (fun w2 hx => v_eql rfl rfl) rfl ?_; clear hF a; intro a hF
          refine a_done (by kernel_rfl) (hK _ _ ?_)
          clear hK K
          replace hF := hF.sub _ (c_ 69 rfl (c_ 0 rfl (c_ 1 rfl (c_ 2 rfl (c_ 3 rfl (c_ 10 rfl (c_ 11 rfl (c_ 12 rfl (n_)))))))))
          refine W_if hF rfl (fun hc8 => ?_) (fun hc8 => ?_)
          ·
           skip
           try simp only [dcl] at hc8
           have heq : a_ = b_ := by assumption
           have hmem : a_ ∈ (x ++ y).take i := List.mem_of_getElem? (show ((x ++ y).take i)[k]? = some a_ by rw [List.getElem?_take, if_pos hklt, hb, heq])
           refine W_sr rfl fun K hK => ?_
           refine sv2w hK hF (v_assign rfl) (v_assign rfl) rfl rfl ?_; clear hF a hK K; intro a hF
           replace hF := hF.sub _ (c_ 9 rfl (c_ 8 rfl (c_ 0 rfl (c_ 1 rfl (c_ 2 rfl (c_ 3 rfl (c_ 10 rfl (c_ 11 rfl (c_ 12 rfl (n_))))))))))
           refine W_ret ?_
           refine ⟨_, _, _, hF, rfl, rfl, ?_⟩
           rw [ofM_no hp (ofB_bad ha (.inr (.inr hmem)))]
           exact ⟨none, _, rfl, MOwn.nil _ _ _ _ _ _ _ (Nat.zero_le _), hS⟩
          ·
           skip
           try simp only [dcl] at hc8
           have hne : ¬ a_ = b_ := by assumption
           refine W_skip ?_
           refine W_reg rfl fun K hK => ?_
           refine sv3w hK hF (v_move rfl) (v_addI rfl rfl (by omega)) (v_assign rfl) rfl rfl rfl ?_; clear hF a hK K; intro a hF
           replace hF := hF.sub _ (c_ 12 rfl (c_ 60 rfl (c_ 59 rfl (c_ 0 rfl (c_ 1 rfl (c_ 2 rfl (c_ 3 rfl (c_ 10 rfl (c_ 11 rfl (n_))))))))))
           exact ⟨q2 - 1, by omega, k + 1, hF.sub _ (c_ 0 rfl (c_ 1 rfl (c_ 2 rfl (c_ 3 rfl (c_ 10 rfl (c_ 11 rfl (c_ 12 rfl (n_)))))))), hS, hx, hy, hC, by omega, (fun h => by rw [take_snoc hb, List.mem_append, List.mem_singleton] at h; rcases h with h | h; exact hno h; exact hne h), by omega⟩
         ·
          skip
          try simp only [dcl] at hc7
          have hke : k = i := by omega
          have hnin : a_ ∉ (x ++ y).take i := by rw [← hke]; exact hno
          refine W_exit rfl ?_
          refine W_reg rfl fun K hK => ?_
          refine sv3w hK hF (v_move rfl) (v_addI rfl rfl (by omega)) (v_assign rfl) rfl rfl rfl ?_; clear hF a hK K; intro a hF
          replace hF := hF.sub _ (c_ 11 rfl (c_ 48 rfl (c_ 47 rfl (c_ 0 rfl (c_ 1 rfl (c_ 2 rfl (c_ 3 rfl (c_ 10 rfl (c_ 12 rfl (n_))))))))))
          exact ⟨q - 1, by omega, i + 1, hF.sub _ (c_ 0 rfl (c_ 1 rfl (c_ 2 rfl (c_ 3 rfl (c_ 10 rfl (c_ 11 rfl (n_))))))), hS, hx, hy, hC, nodup_snoc hnd ha (fun z hz e => hnin (e ▸ hz)), (fun z hz => by rw [take_snoc ha, List.mem_append, List.mem_singleton] at hz; rcases hz with hz | rfl; exact hbd _ hz; omega), by omega, by omega⟩
      ·
       skip
       try simp only [dcl] at hc5
       have hie : i = (x ++ y).length := by rw [List.length_append]; omega
       rw [hie, List.take_length] at hnd hbd
       clear hC
       refine W_exit rfl ?_
       refine W_sr rfl fun K hK => ?_
       refine svw hK hF (v_assign rfl) rfl ?_; clear hF a hK K; intro a hF
       replace hF := hF.sub _ (c_ 13 rfl (c_ 0 rfl (c_ 1 rfl (c_ 2 rfl (c_ 3 rfl (c_ 10 rfl (c_ 11 rfl (n_))))))))
       refine W_seq ?_
       refine W_sr rfl fun K hK => ?_
       refine svw hK hF (v_assign rfl) rfl ?_; clear hF a hK K; intro a hF
       refine W_block ?_
       refine W_loop (fun q2 a w2 => ∃ (i : Nat) (v13 : Value) (b13 : Option Nat), Fr 106 [(0, .int .i64 (wb : Int)), (1, .int .u32 (p : Int)), (2, .slice px x.length cx), (3, .slice py y.length cy), (13, v13), (14, .int .i64 (i : Int))] a ∧ (St FDx B w w2) ∧ (Row FDx B M w2 (.slice px x.length cx) (zints x)) ∧ (Row FDx B M w2 (.slice py y.length cy) (zints y)) ∧ (MOwn FDx B w.heap.size 0 w2.heap.size w2 53 v13 b13 ((List.range i).map (trow y.length (ofT hp x y)))) ∧ (i ≤ x.length) ∧ (q2 + i = x.length)) (x.length) ?_ ?_
       ·
        skip
        exact ⟨0, _, none, hF.sub _ (c_ 0 rfl (c_ 1 rfl (c_ 2 rfl (c_ 3 rfl (c_ 13 rfl (c_ 14 rfl (n_))))))), hS, hx, hy, MOwn.nil _ _ _ _ _ _ _ (Nat.zero_le _), by omega, by omega⟩
       ·
        skip
        clear hF
        clear hS hx hy
        rintro q2 a w2 ⟨i, v13, b13, hF, hS, hx, hy, hMO, hi2, hq2⟩
        refine W_seq ?_
        obtain ⟨KM, hKe⟩ : ∃ K, K = w2.heap.size := ⟨_, rfl⟩
        rw [← hKe] at hMO
        have hKs : KM ≤ w2.heap.size := by omega
        have hNK : w.heap.size ≤ KM := by have := hS.ext.size; omega
        clear hKe
        refine W_sr rfl fun K hK => ?_
        refine sv4w hK hF (v_move rfl) (v_move rfl) (v_lenS rfl sl53 rfl) (v_lss rfl rfl) rfl rfl rfl rfl ?_; clear hF a hK K; intro a hF
        refine W_if hF rfl (fun hc9 => ?_) (fun hc9 => ?_)
        ·
         skip
         try simp only [dcl] at hc9
         have hlt : i < x.length := by omega
         refine W_skip ?_
         refine W_seq ?_
         refine W_block ?_
         refine W_sr rfl fun K hK => ?_
         refine svw hK hF (v_assign rfl) rfl ?_; clear hF a hK K; intro a hF
         refine W_seq ?_
         refine W_sr rfl fun K hK => ?_
         refine svw hK hF (v_assign rfl) rfl ?_; clear hF a hK K; intro a hF
         refine W_block ?_
         refine W_loop (fun q3 a w3 => ∃ (j : Nat) (v15 : Value) (b15 : Option Nat), Fr 106 [(0, .int .i64 (wb : Int)), (1, .int .u32 (p : Int)), (2, .slice px x.length cx), (3, .slice py y.length cy), (13, v13), (14, .int .i64 (i : Int)), (15, v15), (16, .int .i64 (j : Int))] a ∧ (St FDx B w w3) ∧ (Row FDx B M w3 (.slice px x.length cx) (zints x)) ∧ (Row FDx B M w3 (.slice py y.length cy) (zints y)) ∧ (MOwn FDx B w.heap.size 0 KM w3 53 v13 b13 ((List.range i).map (trow y.length (ofT hp x y)))) ∧ (KM ≤ w3.heap.size) ∧ (Gam.Own FDx B KM w3 FDx.E v15 b15 (zints ((List.range j).map fun j => (((ofT hp x y) i j : Nat) : Int)))) ∧ (j ≤ y.length) ∧ (q3 + j = y.length)) (y.length) ?_ ?_
         ·
          skip
          exact ⟨0, _, none, hF.sub _ (c_ 0 rfl (c_ 1 rfl (c_ 2 rfl (c_ 3 rfl (c_ 13 rfl (c_ 14 rfl (c_ 15 rfl (c_ 16 rfl (n_))))))))), hS, hx, hy, hMO, hKs, Gam.Own.nil _ _ _ _ _, by omega, by omega⟩
         ·
          skip
          clear hF
          clear hS hx hy hMO hKs
          rintro q3 a w3 ⟨j, v15, b15, hF, hS, hx, hy, hMO, hKs, hO, hj, hq3⟩
          refine W_seq ?_
          refine W_sr rfl fun K hK => ?_
          refine sv4w hK hF (v_move rfl) (v_move rfl) (v_lenS rfl sl53 rfl) (v_lss rfl rfl) rfl rfl rfl rfl ?_; clear hF a hK K; intro a hF
          refine W_if hF rfl (fun hc10 => ?_) (fun hc10 => ?_)
          ·
           skip
           try simp only [dcl] at hc10
           have hlt2 : j < y.length := by omega
           obtain ⟨an, bn, hxa, hyb, han, hbn, hxl, hx0⟩ := of_cell hnd hbd hlt hlt2
           obtain ⟨ga, oa, hga, hka, -⟩ := hx.kat (zints_at hxa)
           obtain ⟨gb, ob_, hgb, hkb, -⟩ := hy.kat (zints_at hyb)
           have hcell := ofT_at hp hxa hyb
           refine W_skip ?_
           refine W_seq ?_
           refine W_block ?_
           rw [hga, hgb] at hF
           refine W_sd (m := 17) rfl hmix hS.inv (fun K hK w1 hS' hh => ?_)
           replace hx := hx.st hS'
           replace hy := hy.st hS'
           replace hMO := hMO.st (by decide) hS'
           replace hKs := Nat.le_trans hKs hS'.ext.size
           replace hO := hO.st (by decide) hS'
           replace hka := hka.st hS'
           replace hkb := hkb.st hS'
           replace hS := hS.trans hS'
           clear hS'
           clear hh
           refine a_v (i := 0) rfl (by kernel_rfl) hF (fun w2 hx => v_move rfl) rfl ?_; clear hF a; intro a hF
           refine a_v (i := 1) rfl (by kernel_rfl) hF (fun w2 hx => v_move rfl) rfl ?_; clear hF a; intro a hF
           refine a_v (i := 2) rfl (by kernel_rfl) hF (fun w2 hx => v_move rfl) rfl ?_; clear hF a; intro a hF
           refine a_v (i := 3) rfl (by kernel_rfl) hF (fun w2 hx => v_move rfl) rfl ?_; clear hF a; intro a hF
           refine a_v (i := 4) rfl (by kernel_rfl) hF (fun w2 hx => v_ixS sl53 rfl rfl (by omega) (by omega)) rfl ?_; clear hF a; intro a hF
           refine a_v (i := 5) rfl (by kernel_rfl) hF (fun w2 hx => v_load sc3 rfl (by rw [toNat_c]; exact KC.ld hka (by assumption))) rfl ?_; clear hF a; intro a hF
           refine a_v (i := 6) rfl (by kernel_rfl) hF (fun w2 hx => v_move rfl) rfl ?_; clear hF a; intro a hF
           refine a_v (i := 7) rfl (by kernel_rfl) hF (fun w2 hx => v_move rfl) rfl ?_; clear hF a; intro a hF
           refine a_v (i := 8) rfl (by kernel_rfl) hF (fun w2 hx => v_ixS sl53 rfl rfl (by omega) (by omega)) rfl ?_; clear hF a; intro a hF
           refine a_v (i := 9) rfl (by kernel_rfl) hF (fun w2 hx => v_load sc3 rfl (by rw [toNat_c]; exact KC.ld hkb (by assumption))) rfl ?_; clear hF a; intro a hF
           refine a_v (i := 10) rfl (by kernel_rfl) hF (fun w2 hx => v_xorN rfl rfl (fits_i64 (by omega)) (fits_i64 (by omega))) rfl ?_; clear hF a; intro a hF
           refine a_e (i := 11) rfl (by kernel_rfl) ?_
           refine sc hF rfl rfl rfl en93 rfl (rInv_gf B wb p ((an ^^^ bn : Nat) : Int) _ hS.inv hp) ?_; clear hF a; intro v w' a hv hF
           obtain ⟨rfl, hS'⟩ := hv
           refine WL_nil ⟨hS'.ext, ?_⟩
           replace hx := hx.st hS'
           replace hy := hy.st hS'
           replace hMO := hMO.st (by decide) hS'
           replace hKs := Nat.le_trans hKs hS'.ext.size
           replace hO := hO.st (by decide) hS'
           replace hka := hka.st hS'
           replace hkb := hkb.st hS'
           replace hS := hS.trans hS'
           clear hS'
           refine a_v (i := 12) rfl (by kernel_rfl) hF (fun w2 hx => v_move rfl) rfl ?_; clear hF a; intro a hF
           refine a_v (i := 13) rfl (by kernel_rfl) hF (fun w2 hx => v_ext rfl rfl) rfl ?_; clear hF a; intro a hF
           refine a_v (i := 14) rfl (by kernel_rfl) hF (fun w2 hx => v_ext rfl rfl) rfl ?_; clear hF a; intro a hF
           refine a_v (i := 15) rfl (by kernel_rfl) hF (fun w2 hx => v_assign rfl) rfl ?_; clear hF a; intro a hF
           refine a_v (i := 16) rfl (by kernel_rfl) hF (fun w2 hx => v_assign rfl) rfl ?_; clear hF a; intro a hF
           refine a_done (by kernel_rfl) (hK _ _ ?_)
           clear hK K
           replace hF := hF.sub _ (c_ 17 rfl (c_ 96 rfl (c_ 95 rfl (c_ 82 rfl (c_ 94 rfl (c_ 93 rfl (c_ 92 rfl (c_ 91 rfl (c_ 90 rfl (c_ 89 rfl (c_ 88 rfl (c_ 87 rfl (c_ 86 rfl (c_ 85 rfl (c_ 84 rfl (c_ 83 rfl (c_ 79 rfl (c_ 78 rfl (c_ 77 rfl (c_ 76 rfl (c_ 0 rfl (c_ 1 rfl (c_ 2 rfl (c_ 3 rfl (c_ 13 rfl (c_ 14 rfl (c_ 15 rfl (c_ 16 rfl (n_)))))))))))))))))))))))))))))
           rw [ginv_fld hp hxl hx0, ← hcell, ← hga, ← hgb] at hF
           refine W_reg rfl fun K hK => ?_
           refine sv2 hF (v_move rfl) (v_move rfl) rfl rfl ?_; clear hF a; intro a hF
           refine s_bs (D := FDx) (B := B) hF sl53 rfl rfl (by decide) (by simp [Value.cells]) (by decide) hS.inv rfl ?_; clear hF a; intro w' a hm hI' hL hF
           replace hx := hx.mb hm (fun _ h => by cases h)
           replace hy := hy.mb hm (fun _ h => by cases h)
           replace hMO := hMO.mb0 hm
           replace hKs := Nat.le_trans hKs hm.size
           replace hO := hO.mb hm (fun _ _ => by simp)
           replace hS := hS.mb0 hm
           clear hm hI'
           refine s_app (D := FDx) (B := B) hF rfl sl53 rfl rfl hO (hL.row (by decide)) (by simp [Value.oneCell']) (by simp; omega) (by simp [maxLen]; omega) (hKs) (by decide) hS.inv rfl ?_; clear hF a; intro v' b' w' a ho' hm hI' hb' hF
           replace hx := hx.mb hm (fun k h => Nat.le_trans (Nat.le_trans hM hNK) (hO.lt k h).1)
           replace hy := hy.mb hm (fun k h => Nat.le_trans (Nat.le_trans hM hNK) (hO.lt k h).1)
           replace hMO := hMO.mbo hm hO (by decide) (Nat.le_refl _) (Nat.zero_le _)
           replace hKs := Nat.le_trans hKs hm.size
           replace hS := hS.mb hm (fun k h => Nat.le_trans (hNK) (hO.lt k h).1)
           replace hO := ho'
           clear hm hI' ho'
           refine svw hK hF (v_assign rfl) rfl ?_; clear hF a hK K; intro a hF
           refine W_reg rfl fun K hK => ?_
           refine sv3w hK hF (v_move rfl) (v_addI rfl rfl (by omega)) (v_assign rfl) rfl rfl rfl ?_; clear hF a hK K; intro a hF
           exact ⟨q3 - 1, by omega, j + 1, _, _, hF.sub _ (c_ 0 rfl (c_ 1 rfl (c_ 2 rfl (c_ 3 rfl (c_ 13 rfl (c_ 14 rfl (c_ 15 rfl (c_ 16 rfl (n_))))))))), hS, hx, hy, hMO, hKs, hO.cast (by rw [List.range_succ, List.map_append]; simp [zints]), by omega, by omega⟩
          ·
           skip
           try simp only [dcl] at hc10
           have hje : j = y.length := by omega
           rw [hje] at hO
           refine W_exit rfl ?_
           refine W_reg rfl fun K hK => ?_
           refine sv2 hF (v_move rfl) (v_move rfl) rfl rfl ?_; clear hF a; intro a hF
           obtain ⟨a_, c_r, rfl⟩ := hO.shape
           refine s_bs (D := FDx) (B := B) hF sl35 rfl rfl (by decide) (by simp [Value.cells]) (by decide) hS.inv rfl ?_; clear hF a; intro w' a hm hI' hL hF
           replace hx := hx.mb hm (fun _ h => by cases h)
           replace hy := hy.mb hm (fun _ h => by cases h)
           replace hMO := hMO.mb0 hm
           replace hKs := Nat.le_trans hKs hm.size
           replace hO := hO.mb hm (fun _ _ => by simp)
           replace hS := hS.mb0 hm
           clear hm hI'
           replace hMO := hMO.up hKs
           clear hKs
           refine s_appM (D := FDx) (B := B) hF rfl sl35 rfl rfl hMO hL (.of (r := trow y.length (ofT hp x y) i) hO (Nat.zero_le _)) rfl rfl (by simp; omega) (hS.ext.size) (by decide) (by decide) hS.inv rfl ?_; clear hF a; intro v' b' w' a ho' hm hI' hF
           replace hx := hx.mb hm (fun k h => Nat.le_trans (hM) (hMO.lt k h).1)
           replace hy := hy.mb hm (fun k h => Nat.le_trans (hM) (hMO.lt k h).1)
           replace hS := hS.mb hm (fun k h => (hMO.lt k h).1)
           have hKm := hm.size
           replace hMO := ho'
           clear hm hI' ho' hL
           refine svw hK hF (v_assign rfl) rfl ?_; clear hF a hK K; intro a hF
           refine W_reg rfl fun K hK => ?_
           refine sv3w hK hF (v_move rfl) (v_addI rfl rfl (by omega)) (v_assign rfl) rfl rfl rfl ?_; clear hF a hK K; intro a hF
           exact ⟨q2 - 1, by omega, i + 1, _, _, hF.sub _ (c_ 0 rfl (c_ 1 rfl (c_ 2 rfl (c_ 3 rfl (c_ 13 rfl (c_ 14 rfl (n_))))))), hS, hx, hy, (hMO.up hKm).cast (by rw [List.range_succ, List.map_append]; rfl), by omega, by omega⟩
        ·
         skip
         try simp only [dcl] at hc9
         refine W_exit rfl ?_
         refine W_sr rfl fun K hK => ?_
         refine sv3w hK hF (v_move rfl) (v_assign rfl) (v_assign rfl) rfl rfl rfl ?_; clear hF a hK K; intro a hF
         refine W_ret ?_
         refine ⟨_, _, _, hF, rfl, rfl, ?_⟩
         obtain rfl : i = x.length := by omega
         rw [ofM_is hp (ofB_ok hln hnd hbd)]
         exact ⟨_, _, rfl, (hMO.up hKs).cast rfl, hS⟩
set_option maxRecDepth 100000 in
set_option maxHeartbeats 1000000 in
theorem rOrig_ok (B wb p : Nat) (hp : Prm wb p) (k m : Int) (w : World) (hI : Inv FDx B w) : Ret Tryz.prog 32 [.int .i64 (wb : Int), .int .u32 (p : Int), .int .i64 k, .int .i64 m] w fun v w' => ∃ ob u, v = .tuple #[u, .bool (origM hp k m).isSome] ∧ MOwn FDx B w.heap.size 0 w'.heap.size w' 53 u ob ((origM hp k m).getD []) ∧ St FDx B w w' := by
 refine enter2 24 [(0, .int .i64 (wb : Int)), (1, .int .u32 (p : Int)), (2, .int .i64 k), (3, .int .i64 m)] 8 9 Tryz.func32 rfl rfl rfl rfl rfl ?_; intro a hF
 have hS := St.refl hI
 refine W_sr rfl fun K hK => ?_
 refine sv2w hK hF (v_assign rfl) (v_assign rfl) rfl rfl ?_; clear hF a hK K; intro a hF
 refine W_seq ?_
 refine W_sr rfl fun K hK => ?_
 refine sv2 hF (v_move rfl) (v_move rfl) rfl rfl ?_; clear hF a; intro a hF
 refine sc hF rfl rfl rfl en64 rfl (rFits_ok wb p k m _) ?_; clear hF a; intro v w' a hv hF
 obtain ⟨rfl, hw⟩ := hv
 obtain rfl := hw.symm
 have hS' := St.refl hS.inv
 replace hS := hS.trans hS'
 clear hS'
 refine svw hK hF (v_not rfl) rfl ?_; clear hF a hK K; intro a hF
 replace hF := hF.sub _ (c_ 13 rfl (c_ 9 rfl (c_ 8 rfl (c_ 0 rfl (c_ 1 rfl (c_ 2 rfl (c_ 3 rfl (n_))))))))
 refine W_if hF rfl (fun hc1 => ?_) (fun hc1 => ?_)
 ·
  skip
  try simp only [dcl] at hc1
  refine W_sr rfl fun K hK => ?_
  refine sv2w hK hF (v_assign rfl) (v_assign rfl) rfl rfl ?_; clear hF a hK K; intro a hF
  replace hF := hF.sub _ (c_ 9 rfl (c_ 8 rfl (c_ 0 rfl (c_ 1 rfl (c_ 2 rfl (c_ 3 rfl (n_)))))))
  refine W_ret ?_
  refine ⟨_, _, _, hF, rfl, rfl, ?_⟩
  rw [origM_no hp (show fitB (some (wb, p)) k m = false by simpa using hc1)]
  exact ⟨none, _, rfl, MOwn.nil _ _ _ _ _ _ _ (Nat.zero_le _), hS⟩
 ·
  skip
  try simp only [dcl] at hc1
  refine W_skip ?_
  have hb : fitB (some (wb, p)) k m = true := by simpa using hc1
  obtain ⟨-, hb2⟩ := fitB_iff.1 hb
  obtain ⟨kn, rfl⟩ : ∃ n : Nat, k = (n : Int) := ⟨k.toNat, by omega⟩
  obtain ⟨mn, rfl⟩ : ∃ n : Nat, m = (n : Int) := ⟨m.toNat, by omega⟩
  refine W_sr rfl fun K hK => ?_
  refine sv3 hF (v_move rfl) (v_move rfl) (v_move rfl) rfl rfl rfl ?_; clear hF a; intro a hF
  refine sc hF rfl rfl rfl en66 rfl (rfrom_ok B 0 mn _ hS.inv (by omega)) ?_; clear hF a; intro v w' a hv hF
  obtain ⟨obX, hOX, hS'⟩ := hv
  obtain ⟨gX, cX, rfl, rfl⟩ := hOX.ptr (by rw [zints_length, rnL_length]; omega)
  have hX : Row FDx B _ _ _ (zints (rnL 0 mn)) := hOX.row (by decide)
  rw [zints_length] at hX hF
  clear hOX
  replace hS := hS.trans hS'
  clear hS'
  refine sv2 hF (v_move rfl) (v_move rfl) rfl rfl ?_; clear hF a; intro a hF
  refine sc hF rfl rfl rfl en66 rfl (rfrom_ok B mn kn _ hS.inv (by omega)) ?_; clear hF a; intro v w' a hv hF
  obtain ⟨obY, hOY, hS'⟩ := hv
  obtain ⟨gY, cY, rfl, rfl⟩ := hOY.ptr (by rw [zints_length, rnL_length]; omega)
  have hY : Row FDx B _ _ _ (zints (rnL mn kn)) := hOY.row (by decide)
  rw [zints_length] at hY hF
  clear hOY
  replace hX := (hX.st hS').mono hS'.ext.size
  replace hS := hS.trans hS'
  clear hS'
  refine sc hF rfl rfl rfl en65 rfl (rOf_ok B _ wb p hp _ _ _ _ (rnL 0 mn) (rnL mn kn) _ hS.inv (Nat.le_refl _) hX hY ⟨by rw [rnL_length]; simp only [maxLen]; omega, by rw [rnL_length]; simp only [maxLen]; omega⟩) ?_; clear hF a; intro v w' a hv hF
  obtain ⟨ob, u, rfl, hMO, hS'⟩ := hv
  replace hMO := hMO.le hS.ext.size (Nat.zero_le _)
  replace hS := hS.trans hS'
  clear hS'
  refine sv4w hK hF (v_ext rfl rfl) (v_ext rfl rfl) (v_assign rfl) (v_assign rfl) rfl rfl rfl rfl ?_; clear hF a hK K; intro a hF
  replace hF := hF.sub _ (c_ 9 rfl (c_ 8 rfl (n_)))
  refine W_ret ?_
  refine ⟨_, _, _, hF, rfl, rfl, ?_⟩
  rw [show origM hp (kn : Int) (mn : Int) = ofM hp (rnL 0 mn) (rnL mn kn) by unfold origM; rw [if_pos hb]; rfl]
  exact ⟨_, _, rfl, hMO, hS⟩
set_option maxRecDepth 100000 in
set_option maxHeartbeats 1000000 in
theorem rCIsal_ok (B wb p : Nat) (hp : Prm wb p) (k m : Int) (w : World) (hI : Inv FDx B w) : Ret Tryz.prog 34 [.int .i64 (wb : Int), .int .u32 (p : Int), .int .i64 k, .int .i64 m] w fun v w' => ∃ ob u, v = .tuple #[u, .bool (cisaM hp k m).isSome] ∧ MOwn FDx B w.heap.size 0 w'.heap.size w' 53 u ob ((cisaM hp k m).getD []) ∧ St FDx B w w' := by
 refine enter2 24 [(0, .int .i64 (wb : Int)), (1, .int .u32 (p : Int)), (2, .int .i64 k), (3, .int .i64 m)] 8 9 Tryz.func34 rfl rfl rfl rfl rfl ?_; intro a hF
 have hS := St.refl hI
 refine W_sr rfl fun K hK => ?_
 refine sv2w hK hF (v_assign rfl) (v_assign rfl) rfl rfl ?_; clear hF a hK K; intro a hF
 refine W_seq ?_
 refine W_sr rfl fun K hK => ?_
 refine sv2 hF (v_move rfl) (v_move rfl) rfl rfl ?_; clear hF a; intro a hF
 refine sc hF rfl rfl rfl en64 rfl (rFits_ok wb p k m _) ?_; clear hF a; intro v w' a hv hF
 obtain ⟨rfl, hw⟩ := hv
 obtain rfl := hw.symm
 have hS' := St.refl hS.inv
 replace hS := hS.trans hS'
 clear hS'
 refine svw hK hF (v_not rfl) rfl ?_; clear hF a hK K; intro a hF
 replace hF := hF.sub _ (c_ 13 rfl (c_ 9 rfl (c_ 8 rfl (c_ 0 rfl (c_ 1 rfl (c_ 2 rfl (c_ 3 rfl (n_))))))))
 refine W_if hF rfl (fun hc1 => ?_) (fun hc1 => ?_)
 ·
  skip
  try simp only [dcl] at hc1
  refine W_sr rfl fun K hK => ?_
  refine sv2w hK hF (v_assign rfl) (v_assign rfl) rfl rfl ?_; clear hF a hK K; intro a hF
  replace hF := hF.sub _ (c_ 9 rfl (c_ 8 rfl (c_ 0 rfl (c_ 1 rfl (c_ 2 rfl (c_ 3 rfl (n_)))))))
  refine W_ret ?_
  refine ⟨_, _, _, hF, rfl, rfl, ?_⟩
  rw [cisaM_no hp (show fitB (some (wb, p)) k m = false by simpa using hc1)]
  exact ⟨none, _, rfl, MOwn.nil _ _ _ _ _ _ _ (Nat.zero_le _), hS⟩
 ·
  skip
  try simp only [dcl] at hc1
  refine W_skip ?_
  have hb : fitB (some (wb, p)) k m = true := by simpa using hc1
  obtain ⟨-, hb2⟩ := fitB_iff.1 hb
  obtain ⟨kn, rfl⟩ : ∃ n : Nat, k = (n : Int) := ⟨k.toNat, by omega⟩
  obtain ⟨mn, rfl⟩ : ∃ n : Nat, m = (n : Int) := ⟨m.toNat, by omega⟩
  refine W_sr rfl fun K hK => ?_
  refine sv4 hF (v_move rfl) (v_move rfl) (v_move rfl) (v_move rfl) rfl rfl rfl rfl ?_; clear hF a; intro a hF
  refine sc hF rfl rfl rfl en66 rfl (rfrom_ok B kn mn _ hS.inv (by omega)) ?_; clear hF a; intro v w' a hv hF
  obtain ⟨obX, hOX, hS'⟩ := hv
  obtain ⟨gX, cX, rfl, rfl⟩ := hOX.ptr (by rw [zints_length, rnL_length]; omega)
  have hX : Row FDx B _ _ _ (zints (rnL kn mn)) := hOX.row (by decide)
  rw [zints_length] at hX hF
  clear hOX
  replace hS := hS.trans hS'
  clear hS'
  refine sv hF (v_move rfl) rfl ?_; clear hF a; intro a hF
  refine sc hF rfl rfl rfl en66 rfl (rfrom_ok B 0 kn _ hS.inv (by omega)) ?_; clear hF a; intro v w' a hv hF
  obtain ⟨obY, hOY, hS'⟩ := hv
  obtain ⟨gY, cY, rfl, rfl⟩ := hOY.ptr (by rw [zints_length, rnL_length]; omega)
  have hY : Row FDx B _ _ _ (zints (rnL 0 kn)) := hOY.row (by decide)
  rw [zints_length] at hY hF
  clear hOY
  replace hX := (hX.st hS').mono hS'.ext.size
  replace hS := hS.trans hS'
  clear hS'
  refine sc hF rfl rfl rfl en65 rfl (rOf_ok B _ wb p hp _ _ _ _ (rnL kn mn) (rnL 0 kn) _ hS.inv (Nat.le_refl _) hX hY ⟨by rw [rnL_length]; simp only [maxLen]; omega, by rw [rnL_length]; simp only [maxLen]; omega⟩) ?_; clear hF a; intro v w' a hv hF
  obtain ⟨ob, u, rfl, hMO, hS'⟩ := hv
  replace hMO := hMO.le hS.ext.size (Nat.zero_le _)
  replace hS := hS.trans hS'
  clear hS'
  refine sv4w hK hF (v_ext rfl rfl) (v_ext rfl rfl) (v_assign rfl) (v_assign rfl) rfl rfl rfl rfl ?_; clear hF a hK K; intro a hF
  replace hF := hF.sub _ (c_ 9 rfl (c_ 8 rfl (n_)))
  refine W_ret ?_
  refine ⟨_, _, _, hF, rfl, rfl, ?_⟩
  rw [show cisaM hp (kn : Int) (mn : Int) = ofM hp (rnL kn mn) (rnL 0 kn) by unfold cisaM; rw [if_pos hb]; rfl]
  exact ⟨_, _, rfl, hMO, hS⟩
end Go.Proofs.YtkoiolamnnmokaaGreat

/- Plain laws of layer 9: any rows of the identity, with a profile's parity rows behind it. No program in sight. -/
set_option linter.unusedSectionVars false
namespace Go.Gam
open Px
section
variable {wb q : Nat} (hp : Prm wb q)
end
/-! ### parity rows, or none; a field, or none -/
def parO (p k m : Int) : Option Mtx := if mayP p k m = true then some (tab m.toNat k.toNat (prT p k.toNat m.toNat)) else none
def fldO (p : Int) : Fq := if 1 ≤ p ∧ p ≤ 6 then some (pfl p) else none
theorem parO_is {p : Int} {k m : Nat} (h : mayP p (k : Int) (m : Int) = true) : parO p (k : Int) (m : Int) = some (tab m k (prT p k m)) := by unfold parO; rw [if_pos h]; rfl
theorem parO_no {p k m : Int} (h : mayP p k m = false) : parO p k m = none := by unfold parO; rw [h]; rfl
theorem parO_lens (p k m : Int) : ((parO p k m).getD []).length ≤ 20 ∧ ∀ r ∈ (parO p k m).getD [], r.length ≤ 20 := by
  cases h : mayP p k m with
  | true =>
    obtain ⟨_, _, kn, mn, rfl, rfl, _, _, _, _, _⟩ := mayP_of h
    rw [parO_is h]; exact tab_lens (by omega) (by omega)
  | false => rw [parO_no h]; simp
theorem Mat.nil0 (D : FD) (B M : Nat) (w : World) : Mat D B M w none 0 [] := by
  refine ⟨[], rfl, .inl ⟨none, 0, rfl, rfl⟩, fun j v r hv hr => by cases hv⟩
def pbits (p : Int) : Nat := if 1 ≤ p ∧ p ≤ 6 then (pfl p).1 else 0
theorem prOf_cells (p : Int) : ∃ (s : ByteArray) (q l m : Int), prOf p = [.string s, .int .i64 ((pbits p : Nat) : Int), .int .u32 q, .int .u8 l, .int .i64 m] := by
  unfold pbits
  by_cases h : 1 ≤ p ∧ p ≤ 6
  · have : p = 1 ∨ p = 2 ∨ p = 3 ∨ p = 4 ∨ p = 5 ∨ p = 6 := by omega
    rcases this with rfl | rfl | rfl | rfl | rfl | rfl <;> exact ⟨_, _, _, _, rfl⟩
  · rw [prOf_no h, if_neg h]; exact ⟨_, _, _, _, rfl⟩
theorem fldO_some (p : Int) : (fldO p).isSome = decide (1 ≤ p ∧ p ≤ 6) := by
  unfold fldO
  by_cases h : 1 ≤ p ∧ p ≤ 6
  · rw [if_pos h, decide_eq_true h]; rfl
  · rw [if_neg h, decide_eq_false h]; rfl
theorem errV_y {α : Type} {o : Option α} (h : o.isSome = true) : errV o = 0 := by cases o with | none => cases h | some _ => rfl
theorem errV_n {α : Type} {o : Option α} (h : o.isSome = false) : errV o = 1 := by cases o with | none => rfl | some _ => cases h
end Go.Gam

/- The walks of gambrelref09: the table of profiles. -/
namespace Go.Proofs.YtkoiolamnnmokaaGreat
open Go Go.Gam
namespace FxFRef09
theorem en8 : Ent Tryz.prog 8 := ent Tryz.func8 (by kernel_rfl) (by kernel_rfl)
theorem fa23_0 : FieldFact Tryz.prog 23 0 0 := ff_of (sz := 0) Tryz.underlying23 (by kernel_rfl)
theorem fa23_1 : FieldFact Tryz.prog 23 1 1 := ff_of (sz := 0) Tryz.underlying23 (by kernel_rfl)
theorem fa23_2 : FieldFact Tryz.prog 23 2 2 := ff_of (sz := 0) Tryz.underlying23 (by kernel_rfl)
theorem fa30_4 : FieldFact Tryz.prog 30 4 4 := ff_of (sz := 0) Tryz.underlying30 (by kernel_rfl)
theorem sc3 : Scalar Tryz.prog 3 := ⟨_, Tryz.underlying3, by simp, by simp⟩
end FxFRef09
open FxFRef09
set_option maxRecDepth 100000 in
set_option maxHeartbeats 1000000 in
theorem rPOf_ok (B : Nat) (p : Int) (w : World) (hI : Inv FDx B w) : Ret Tryz.prog 8 [.int .i64 p] w fun v w' => v = .tuple #[.agg (prOf p).toArray, .bool (decide (1 ≤ p ∧ p ≤ 6))] ∧ St FDx B w w' := by
 refine enterCT 24 [(0, .int .i64 p)] 2 30 3 Tryz.func8 rfl rfl rfl rfl rfl ?_; intro a hF
 have hS := St.refl hI
 refine W_sr rfl fun K hK => ?_
 refine s_allocN (D := FDx) (B := B) (z := .agg prz.toArray) hF (by kernel_rfl) (by decide) hS.inv rfl ?_; clear hF a; intro gR w' a hm hI' hR hF
 replace hS := hS.mb0 hm
 clear hm hI'
 refine svw hK hF (v_assign rfl) rfl ?_; clear hF a hK K; intro a hF
 refine W_seq ?_
 refine W_sr rfl fun K hK => ?_
 refine svw hK hF (v_move rfl) rfl ?_; clear hF a hK K; intro a hF
 replace hF := hF.sub _ (c_ 4 rfl (c_ 3 rfl (c_ 2 rfl (n_))))
 refine W_block ?_
 refine W_sr rfl fun K hK => ?_
 refine sv2w hK hF (v_eql rfl rfl) (v_assign rfl) rfl rfl ?_; clear hF a hK K; intro a hF
 replace hF := hF.sub _ (c_ 5 rfl (c_ 4 rfl (c_ 3 rfl (c_ 2 rfl (n_)))))
 refine W_if hF rfl (fun hc1 => ?_) (fun hc1 => ?_)
 ·
  skip
  try simp only [dcl] at hc1
  refine W_sr rfl fun K hK => ?_
  refine sv hF (v_build (cs := (prN 0).toArray) rfl (by kernel_rfl)) rfl ?_; clear hF a; intro a hF
  refine s_storeN (D := FDx) (B := B) hF (by kernel_rfl) rfl rfl (rfl) (by rfl) hR hS.inv ?_; intro w' hm hI' hrc'
  replace hS := hS.mb hm (fun k h => by cases h; exact hR.low)
  replace hR := hrc'
  clear hm hI' hrc'
  refine svw hK hF (v_assign rfl) rfl ?_; clear hF a hK K; intro a hF
  replace hF := hF.sub _ (c_ 3 rfl (c_ 2 rfl (n_)))
  refine W_ret ?_
  refine ⟨_, _, _, _, hF, rfl, (ld_rec Tryz.underlying30 rfl (by kernel_rfl) hR), rfl, ?_⟩
  obtain rfl : p = 1 := by assumption
  exact ⟨rfl, hS⟩
 ·
  skip
  try simp only [dcl] at hc1
  refine W_sr rfl fun K hK => ?_
  refine sv2w hK hF (v_eql rfl rfl) (v_assign rfl) rfl rfl ?_; clear hF a hK K; intro a hF
  replace hF := hF.sub _ (c_ 8 rfl (c_ 4 rfl (c_ 3 rfl (c_ 2 rfl (n_)))))
  refine W_if hF rfl (fun hc2 => ?_) (fun hc2 => ?_)
  ·
   skip
   try simp only [dcl] at hc2
   refine W_sr rfl fun K hK => ?_
   refine sv hF (v_build (cs := (prN 1).toArray) rfl (by kernel_rfl)) rfl ?_; clear hF a; intro a hF
   refine s_storeN (D := FDx) (B := B) hF (by kernel_rfl) rfl rfl (rfl) (by rfl) hR hS.inv ?_; intro w' hm hI' hrc'
   replace hS := hS.mb hm (fun k h => by cases h; exact hR.low)
   replace hR := hrc'
   clear hm hI' hrc'
   refine svw hK hF (v_assign rfl) rfl ?_; clear hF a hK K; intro a hF
   replace hF := hF.sub _ (c_ 3 rfl (c_ 2 rfl (n_)))
   refine W_ret ?_
   refine ⟨_, _, _, _, hF, rfl, (ld_rec Tryz.underlying30 rfl (by kernel_rfl) hR), rfl, ?_⟩
   obtain rfl : p = 2 := by assumption
   exact ⟨rfl, hS⟩
  ·
   skip
   try simp only [dcl] at hc2
   refine W_sr rfl fun K hK => ?_
   refine sv2w hK hF (v_eql rfl rfl) (v_assign rfl) rfl rfl ?_; clear hF a hK K; intro a hF
   replace hF := hF.sub _ (c_ 11 rfl (c_ 4 rfl (c_ 3 rfl (c_ 2 rfl (n_)))))
   refine W_if hF rfl (fun hc3 => ?_) (fun hc3 => ?_)
   ·
    skip
    try simp only [dcl] at hc3
    refine W_sr rfl fun K hK => ?_
    refine sv hF (v_build (cs := (prN 2).toArray) rfl (by kernel_rfl)) rfl ?_; clear hF a; intro a hF
    refine s_storeN (D := FDx) (B := B) hF (by kernel_rfl) rfl rfl (rfl) (by rfl) hR hS.inv ?_; intro w' hm hI' hrc'
    replace hS := hS.mb hm (fun k h => by cases h; exact hR.low)
    replace hR := hrc'
    clear hm hI' hrc'
    refine svw hK hF (v_assign rfl) rfl ?_; clear hF a hK K; intro a hF
    replace hF := hF.sub _ (c_ 3 rfl (c_ 2 rfl (n_)))
    refine W_ret ?_
    refine ⟨_, _, _, _, hF, rfl, (ld_rec Tryz.underlying30 rfl (by kernel_rfl) hR), rfl, ?_⟩
    obtain rfl : p = 3 := by assumption
    exact ⟨rfl, hS⟩
   ·
    skip
    try simp only [dcl] at hc3
    refine W_sr rfl fun K hK => ?_
    refine sv2w hK hF (v_eql rfl rfl) (v_assign rfl) rfl rfl ?_; clear hF a hK K; intro a hF
    replace hF := hF.sub _ (c_ 14 rfl (c_ 4 rfl (c_ 3 rfl (c_ 2 rfl (n_)))))
    refine W_if hF rfl (fun hc4 => ?_) (fun hc4 => ?_)
    ·
     skip
     try simp only [dcl] at hc4
     refine W_sr rfl fun K hK => ?_
     refine sv hF (v_build (cs := (prN 3).toArray) rfl (by kernel_rfl)) rfl ?_; clear hF a; intro a hF
     refine s_storeN (D := FDx) (B := B) hF (by kernel_rfl) rfl rfl (rfl) (by rfl) hR hS.inv ?_; intro w' hm hI' hrc'
     replace hS := hS.mb hm (fun k h => by cases h; exact hR.low)
     replace hR := hrc'
     clear hm hI' hrc'
     refine svw hK hF (v_assign rfl) rfl ?_; clear hF a hK K; intro a hF
     replace hF := hF.sub _ (c_ 3 rfl (c_ 2 rfl (n_)))
     refine W_ret ?_
     refine ⟨_, _, _, _, hF, rfl, (ld_rec Tryz.underlying30 rfl (by kernel_rfl) hR), rfl, ?_⟩
     obtain rfl : p = 4 := by assumption
     exact ⟨rfl, hS⟩
    ·
     skip
     try simp only [dcl] at hc4
     refine W_sr rfl fun K hK => ?_
     refine sv2w hK hF (v_eql rfl rfl) (v_assign rfl) rfl rfl ?_; clear hF a hK K; intro a hF
     replace hF := hF.sub _ (c_ 17 rfl (c_ 4 rfl (c_ 3 rfl (c_ 2 rfl (n_)))))
     refine W_if hF rfl (fun hc5 => ?_) (fun hc5 => ?_)
     ·
      skip
      try simp only [dcl] at hc5
      refine W_sr rfl fun K hK => ?_
      refine sv hF (v_build (cs := (prN 4).toArray) rfl (by kernel_rfl)) rfl ?_; clear hF a; intro a hF
      refine s_storeN (D := FDx) (B := B) hF (by kernel_rfl) rfl rfl (rfl) (by rfl) hR hS.inv ?_; intro w' hm hI' hrc'
      replace hS := hS.mb hm (fun k h => by cases h; exact hR.low)
      replace hR := hrc'
      clear hm hI' hrc'
      refine svw hK hF (v_assign rfl) rfl ?_; clear hF a hK K; intro a hF
      replace hF := hF.sub _ (c_ 3 rfl (c_ 2 rfl (n_)))
      refine W_ret ?_
      refine ⟨_, _, _, _, hF, rfl, (ld_rec Tryz.underlying30 rfl (by kernel_rfl) hR), rfl, ?_⟩
      obtain rfl : p = 5 := by assumption
      exact ⟨rfl, hS⟩
     ·
      skip
      try simp only [dcl] at hc5
      refine W_sr rfl fun K hK => ?_
      refine sv2w hK hF (v_eql rfl rfl) (v_assign rfl) rfl rfl ?_; clear hF a hK K; intro a hF
      replace hF := hF.sub _ (c_ 20 rfl (c_ 3 rfl (c_ 2 rfl (n_))))
      refine W_if hF rfl (fun hc6 => ?_) (fun hc6 => ?_)
      ·
       skip
       try simp only [dcl] at hc6
       refine W_sr rfl fun K hK => ?_
       refine sv hF (v_build (cs := (prN 5).toArray) rfl (by kernel_rfl)) rfl ?_; clear hF a; intro a hF
       refine s_storeN (D := FDx) (B := B) hF (by kernel_rfl) rfl rfl (rfl) (by rfl) hR hS.inv ?_; intro w' hm hI' hrc'
       replace hS := hS.mb hm (fun k h => by cases h; exact hR.low)
       replace hR := hrc'
       clear hm hI' hrc'
       refine svw hK hF (v_assign rfl) rfl ?_; clear hF a hK K; intro a hF
       replace hF := hF.sub _ (c_ 3 rfl (c_ 2 rfl (n_)))
       refine W_ret ?_
       refine ⟨_, _, _, _, hF, rfl, (ld_rec Tryz.underlying30 rfl (by kernel_rfl) hR), rfl, ?_⟩
       obtain rfl : p = 6 := by assumption
       exact ⟨rfl, hS⟩
      ·
       skip
       try simp only [dcl] at hc6
       refine W_skip ?_
       refine W_sr rfl fun K hK => ?_
       refine sv hF (v_build (cs := (prz).toArray) rfl (by kernel_rfl)) rfl ?_; clear hF a; intro a hF
       refine s_storeN (D := FDx) (B := B) hF (by kernel_rfl) rfl rfl (rfl) (by rfl) hR hS.inv ?_; intro w' hm hI' hrc'
       replace hS := hS.mb hm (fun k h => by cases h; exact hR.low)
       replace hR := hrc'
       clear hm hI' hrc'
       refine svw hK hF (v_assign rfl) rfl ?_; clear hF a hK K; intro a hF
       replace hF := hF.sub _ (c_ 3 rfl (c_ 23 rfl (c_ 2 rfl (n_))))
       refine W_ret ?_
       refine ⟨_, _, _, _, hF, rfl, (ld_rec Tryz.underlying30 rfl (by kernel_rfl) hR), rfl, ?_⟩
       exact ⟨by rw [prOf_no (by omega), decide_eq_false (by omega)], hS⟩
set_option maxRecDepth 100000 in
set_option maxHeartbeats 1000000 in
theorem rPMay_in (B : Nat) (p k m : Int) (w : World) (hI : Inv FDx B w) (hpp : 1 ≤ p ∧ p ≤ 6) : Ret Tryz.prog 15 [.agg #[.int .i64 p, .int .i64 k, .int .i64 m]] w fun v w' => v = .bool (mayP p k m) ∧ St FDx B w w' := by
 refine enter 34 [(0, .agg #[.int .i64 p, .int .i64 k, .int .i64 m])] 2 Tryz.func15 rfl rfl rfl rfl rfl ?_; intro a hF
 have hS := St.refl hI
 refine W_sr rfl fun K hK => ?_
 refine s_box (D := FDx) (B := B) hF rfl (by decide) hS.inv rfl ?_; clear hF a; intro w' a hm hbx hsz hF
 replace hS := hS.mb0 hm
 clear hm
 refine svw hK hF (v_assign rfl) rfl ?_; clear hF a hK K; intro a hF
 replace hF := hF.sub _ (c_ 2 rfl (c_ 1 rfl (n_)))
 refine W_sr rfl fun K hK => ?_
 refine sv2 hF (v_fieldAddr fa23_0 rfl) (v_load sc3 rfl (hbx.at 0 rfl)) rfl rfl ?_; clear hF a; intro a hF
 refine sc hF rfl rfl rfl en8 rfl (rPOf_ok B p _ hS.inv) ?_; clear hF a; intro v w' a hv hF
 obtain ⟨rfl, hS'⟩ := hv
 replace hbx := hbx.st (by decide) hS'
 replace hS := hS.trans hS'
 clear hS'
 refine sv3 hF (v_move rfl) (v_ext rfl rfl) ((v_ext rfl rfl).as (congrArg Value.bool (decide_eq_true (hpp)))) rfl rfl rfl ?_; clear hF a; intro a hF
 have hs0 := hS.ext.size
 refine s_allocN (D := FDx) (B := B) (z := .agg prz.toArray) hF (by kernel_rfl) (by decide) hS.inv rfl ?_; clear hF a; intro gR w' a hm hI' hR hF
 replace hbx := hbx.mb hm (by simp)
 replace hS := hS.mb0 hm
 clear hm hI'
 replace hR := hR.le hs0
 clear hs0
 refine s_storeN (D := FDx) (B := B) hF (by rw [List.size_toArray, prOf_len]; kernel_rfl) rfl rfl (prOf_one p) (by rw [List.size_toArray, prOf_len]; rfl) hR hS.inv ?_; intro w' hm hI' hrc'
 replace hbx := hbx.mb hm (by intro e; cases e; exact absurd hR.blk (by intro e2; have := hbx.symm.trans e2; cases this))
 replace hS := hS.mb hm (fun k h => by cases h; exact hR.low)
 replace hR := hrc'
 clear hm hI' hrc'
 refine svw hK hF (v_assign rfl) rfl ?_; clear hF a hK K; intro a hF
 replace hF := hF.sub _ (c_ 4 rfl (c_ 3 rfl (c_ 2 rfl (c_ 1 rfl (n_)))))
 refine W_sr rfl fun K hK => ?_
 refine sv2 hF (v_move rfl) (v_move rfl) rfl rfl ?_; clear hF a; intro a hF
 refine svg hF rfl ?_
 refine sv hF (v_fieldAddr fa23_1 rfl) rfl ?_; clear hF a; intro a hF
 refine svg hF rfl ?_
 refine sv hF (v_load sc3 rfl (hbx.at 1 rfl)) rfl ?_; clear hF a; intro a hF
 refine svg hF rfl ?_
 refine sb hF (v_geq rfl rfl) rfl ?_ ?_
 ·
  clear hF a; intro hc1 a hF
  try simp only [dcl] at hc1
  refine sv2 hF (v_pickT rfl rfl) (v_move rfl) rfl rfl ?_; clear hF a; intro a hF
  refine svg hF rfl ?_
  refine sv hF (v_fieldAddr fa23_1 rfl) rfl ?_; clear hF a; intro a hF
  refine svg hF rfl ?_
  refine sv hF (v_load sc3 rfl (hbx.at 1 rfl)) rfl ?_; clear hF a; intro a hF
  refine svg hF rfl ?_
  refine sb hF (v_leq rfl rfl) rfl ?_ ?_
  ·
   clear hF a; intro hc2 a hF
   try simp only [dcl] at hc2
   refine sv2 hF (v_pickT rfl rfl) (v_move rfl) rfl rfl ?_; clear hF a; intro a hF
   refine svg hF rfl ?_
   refine sv hF (v_fieldAddr fa23_2 rfl) rfl ?_; clear hF a; intro a hF
   refine svg hF rfl ?_
   refine sv hF (v_load sc3 rfl (hbx.at 2 rfl)) rfl ?_; clear hF a; intro a hF
   refine svg hF rfl ?_
   refine sb hF (v_geq rfl rfl) rfl ?_ ?_
   ·
    clear hF a; intro hc3 a hF
    try simp only [dcl] at hc3
    refine sv2 hF (v_pickT rfl rfl) (v_move rfl) rfl rfl ?_; clear hF a; intro a hF
    refine svg hF rfl ?_
    refine sv hF (v_fieldAddr fa23_2 rfl) rfl ?_; clear hF a; intro a hF
    refine svg hF rfl ?_
    refine sv hF (v_load sc3 rfl (hbx.at 2 rfl)) rfl ?_; clear hF a; intro a hF
    refine svg hF rfl ?_
    refine sv hF (v_fieldAddr fa30_4 rfl) rfl ?_; clear hF a; intro a hF
    refine svg hF rfl ?_
    refine sv hF (v_load sc3 rfl ((hR.kc 4 (prOf_max hpp.1 hpp.2)).c)) rfl ?_; clear hF a; intro a hF
    refine svg hF rfl ?_
    refine sv3w hK hF (v_leq rfl rfl) (v_pickT rfl rfl) (v_assign rfl) rfl rfl rfl ?_; clear hF a hK K; intro a hF
    replace hF := hF.sub _ (c_ 2 rfl (n_))
    refine W_ret ?_
    refine ⟨_, _, hF, rfl, ?_⟩
    exact ⟨by unfold mayP; congr 1; first | (symm; rw [decide_eq_false_iff_not]; omega) | (rw [decide_eq_decide]; omega), hS⟩
   ·
    clear hF a; intro hc3 a hF
    try simp only [dcl] at hc3
    refine sv2 hF (v_pickT rfl rfl) (v_move rfl) rfl rfl ?_; clear hF a; intro a hF
    refine svn5 hF rfl rfl rfl rfl rfl rfl rfl rfl rfl rfl rfl rfl rfl rfl rfl ?_; clear hF a; intro a hF
    refine sv2w hK hF (v_pickF rfl rfl) (v_assign rfl) rfl rfl ?_; clear hF a hK K; intro a hF
    replace hF := hF.sub _ (c_ 2 rfl (n_))
    refine W_ret ?_
    refine ⟨_, _, hF, rfl, ?_⟩
    exact ⟨by unfold mayP; congr 1; first | (symm; rw [decide_eq_false_iff_not]; omega) | (rw [decide_eq_decide]; omega), hS⟩
  ·
   clear hF a; intro hc2 a hF
   try simp only [dcl] at hc2
   refine sv2 hF (v_pickT rfl rfl) (v_move rfl) rfl rfl ?_; clear hF a; intro a hF
   refine svn3 hF rfl rfl rfl rfl rfl rfl rfl rfl rfl ?_; clear hF a; intro a hF
   refine sv2 hF (v_pickF rfl rfl) (v_move rfl) rfl rfl ?_; clear hF a; intro a hF
   refine svn5 hF rfl rfl rfl rfl rfl rfl rfl rfl rfl rfl rfl rfl rfl rfl rfl ?_; clear hF a; intro a hF
   refine sv2w hK hF (v_pickF rfl rfl) (v_assign rfl) rfl rfl ?_; clear hF a hK K; intro a hF
   replace hF := hF.sub _ (c_ 2 rfl (n_))
   refine W_ret ?_
   refine ⟨_, _, hF, rfl, ?_⟩
   exact ⟨by unfold mayP; congr 1; first | (symm; rw [decide_eq_false_iff_not]; omega) | (rw [decide_eq_decide]; omega), hS⟩
 ·
  clear hF a; intro hc1 a hF
  try simp only [dcl] at hc1
  refine sv2 hF (v_pickT rfl rfl) (v_move rfl) rfl rfl ?_; clear hF a; intro a hF
  refine svn3 hF rfl rfl rfl rfl rfl rfl rfl rfl rfl ?_; clear hF a; intro a hF
  refine sv2 hF (v_pickF rfl rfl) (v_move rfl) rfl rfl ?_; clear hF a; intro a hF
  refine svn3 hF rfl rfl rfl rfl rfl rfl rfl rfl rfl ?_; clear hF a; intro a hF
  refine sv2 hF (v_pickF rfl rfl) (v_move rfl) rfl rfl ?_; clear hF a; intro a hF
  refine svn5 hF rfl rfl rfl rfl rfl rfl rfl rfl rfl rfl rfl rfl rfl rfl rfl ?_; clear hF a; intro a hF
  refine sv2w hK hF (v_pickF rfl rfl) (v_assign rfl) rfl rfl ?_; clear hF a hK K; intro a hF
  replace hF := hF.sub _ (c_ 2 rfl (n_))
  refine W_ret ?_
  refine ⟨_, _, hF, rfl, ?_⟩
  exact ⟨by unfold mayP; congr 1; first | (symm; rw [decide_eq_false_iff_not]; omega) | (rw [decide_eq_decide]; omega), hS⟩
set_option maxRecDepth 100000 in
set_option maxHeartbeats 1000000 in
theorem rPMay_out (B : Nat) (p k m : Int) (w : World) (hI : Inv FDx B w) (hpp : ¬ (1 ≤ p ∧ p ≤ 6)) : Ret Tryz.prog 15 [.agg #[.int .i64 p, .int .i64 k, .int .i64 m]] w fun v w' => v = .bool (mayP p k m) ∧ St FDx B w w' := by
 refine enter 34 [(0, .agg #[.int .i64 p, .int .i64 k, .int .i64 m])] 2 Tryz.func15 rfl rfl rfl rfl rfl ?_; intro a hF
 have hS := St.refl hI
 refine W_sr rfl fun K hK => ?_
 refine s_box (D := FDx) (B := B) hF rfl (by decide) hS.inv rfl ?_; clear hF a; intro w' a hm hbx hsz hF
 replace hS := hS.mb0 hm
 clear hm
 refine svw hK hF (v_assign rfl) rfl ?_; clear hF a hK K; intro a hF
 replace hF := hF.sub _ (c_ 2 rfl (c_ 1 rfl (n_)))
 refine W_sr rfl fun K hK => ?_
 refine sv2 hF (v_fieldAddr fa23_0 rfl) (v_load sc3 rfl (hbx.at 0 rfl)) rfl rfl ?_; clear hF a; intro a hF
 refine sc hF rfl rfl rfl en8 rfl (rPOf_ok B p _ hS.inv) ?_; clear hF a; intro v w' a hv hF
 obtain ⟨rfl, hS'⟩ := hv
 replace hbx := hbx.st (by decide) hS'
 replace hS := hS.trans hS'
 clear hS'
 refine sv3 hF (v_move rfl) (v_ext rfl rfl) ((v_ext rfl rfl).as (congrArg Value.bool (decide_eq_false hpp))) rfl rfl rfl ?_; clear hF a; intro a hF
 have hs0 := hS.ext.size
 refine s_allocN (D := FDx) (B := B) (z := .agg prz.toArray) hF (by kernel_rfl) (by decide) hS.inv rfl ?_; clear hF a; intro gR w' a hm hI' hR hF
 replace hbx := hbx.mb hm (by simp)
 replace hS := hS.mb0 hm
 clear hm hI'
 replace hR := hR.le hs0
 clear hs0
 refine s_storeN (D := FDx) (B := B) hF (by rw [List.size_toArray, prOf_len]; kernel_rfl) rfl rfl (prOf_one p) (by rw [List.size_toArray, prOf_len]; rfl) hR hS.inv ?_; intro w' hm hI' hrc'
 replace hbx := hbx.mb hm (by intro e; cases e; exact absurd hR.blk (by intro e2; have := hbx.symm.trans e2; cases this))
 replace hS := hS.mb hm (fun k h => by cases h; exact hR.low)
 replace hR := hrc'
 clear hm hI' hrc'
 refine svw hK hF (v_assign rfl) rfl ?_; clear hF a hK K; intro a hF
 replace hF := hF.sub _ (c_ 4 rfl (c_ 3 rfl (c_ 2 rfl (c_ 1 rfl (n_)))))
 refine W_sr rfl fun K hK => ?_
 refine sv2 hF (v_move rfl) (v_move rfl) rfl rfl ?_; clear hF a; intro a hF
 refine svn3 hF rfl rfl rfl rfl rfl rfl rfl rfl rfl ?_; clear hF a; intro a hF
 refine sv2 hF (v_pickF rfl rfl) (v_move rfl) rfl rfl ?_; clear hF a; intro a hF
 refine svn3 hF rfl rfl rfl rfl rfl rfl rfl rfl rfl ?_; clear hF a; intro a hF
 refine sv2 hF (v_pickF rfl rfl) (v_move rfl) rfl rfl ?_; clear hF a; intro a hF
 refine svn3 hF rfl rfl rfl rfl rfl rfl rfl rfl rfl ?_; clear hF a; intro a hF
 refine sv2 hF (v_pickF rfl rfl) (v_move rfl) rfl rfl ?_; clear hF a; intro a hF
 refine svn5 hF rfl rfl rfl rfl rfl rfl rfl rfl rfl rfl rfl rfl rfl rfl rfl ?_; clear hF a; intro a hF
 refine sv2w hK hF (v_pickF rfl rfl) (v_assign rfl) rfl rfl ?_; clear hF a hK K; intro a hF
 replace hF := hF.sub _ (c_ 2 rfl (n_))
 refine W_ret ?_
 refine ⟨_, _, hF, rfl, ?_⟩
 exact ⟨by unfold mayP; congr 1; symm; rw [decide_eq_false_iff_not]; omega, hS⟩
theorem rPMay_ok (B : Nat) (p k m : Int) (w : World) (hI : Inv FDx B w) : Ret Tryz.prog 15 [.agg #[.int .i64 p, .int .i64 k, .int .i64 m]] w fun v w' => v = .bool (mayP p k m) ∧ St FDx B w w' := by
 by_cases h : 1 ≤ p ∧ p ≤ 6
 ·
  exact rPMay_in B p k m w hI h
 ·
  exact rPMay_out B p k m w hI h
end Go.Proofs.YtkoiolamnnmokaaGreat
