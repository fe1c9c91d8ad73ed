/- Texts of the claim CauchyTurned (part 9), put together in the order of their imports. -/
import Derived.Test.YtaeljbdpjiciaaaKCauchyTurned8
/- Plain laws of layer 8: which rows are safe. No program in sight. -/
set_option linter.unusedVariables false
set_option linter.unusedSimpArgs false
set_option linter.unusedSectionVars false
namespace Go.Gam
open Px

section
variable {wb p : Nat} (hp : Prm wb p)
theorem one_iv {f : Tb} (hb : hp.fld.Bd f) (h : f 0 0 ≠ 0) : ∃ g, hp.fld.iv 1 f = some g :=
  hp.fld.iv_ofR hb fun y hy h0 i hi => by
    obtain rfl : i = 0 := by omega
    have e := h0 0 (by omega)
    simp only [xsum, Nat.zero_xor] at e
    rcases hp.fld.nzd _ _ (hb 0 0) (hy 0) e with e | e
    · exact absurd e h
    · exact e
/-- Rows of inverses. -/
theorem ofT_bd (x y : List Int) : hp.fld.Bd (ofT hp x y) := fun i j => hp.fld.inv_lt _
theorem ofB_is {x y : List Int} (h : ofB wb x y = true) : (1 ≤ x.length ∧ x.length ≤ 20 ∧ 1 ≤ y.length ∧ y.length ≤ 20) ∧ (x ++ y).Nodup ∧ ∀ z ∈ x ++ y, 0 ≤ z ∧ z < ((2 ^ wb : Nat) : Int) := by
  unfold ofB unl at h
  rw [Bool.and_eq_true, decide_eq_true_eq, decide_eq_true_eq] at h
  exact ⟨h.1, h.2⟩
/-- Rows and columns changed for each other. -/
theorem ofB_turn {x y : List Int} : ofB wb x y = ofB wb y x := by
  unfold ofB unl
  congr 1
  · rw [decide_eq_decide]; omega
  · rw [decide_eq_decide]
    constructor
    · rintro ⟨h1, h2⟩
      exact ⟨(List.perm_append_comm.nodup_iff).1 h1, fun z hz => h2 z (by rw [List.mem_append] at hz ⊢; exact hz.symm)⟩
    · rintro ⟨h1, h2⟩
      exact ⟨(List.perm_append_comm.nodup_iff).1 h1, fun z hz => h2 z (by rw [List.mem_append] at hz ⊢; exact hz.symm)⟩
theorem ofT_turn {x y : List Int} {i j : Nat} : ofT hp x y i j = ofT hp y x j i := by unfold ofT; rw [Nat.xor_comm]
end
theorem ofM_yes {wb p : Nat} (hp : Prm wb p) {x y : List Int} (h : errV (ofM hp x y) = 0) : ofB wb x y = true := by
  cases e : ofB wb x y with
  | true => rfl
  | false => rw [ofM_no hp e] at h; exact absurd h (show ¬ ((1 : Int) = 0) by decide)
theorem ofM_turn {wb p : Nat} (hp : Prm wb p) {x y : List Int} : errV (ofM hp x y) = errV (ofM hp y x) := by
  cases e : ofB wb x y with
  | true => rw [ofM_is hp e, ofM_is hp (ofB_turn (x := x) ▸ e)]; rfl
  | false => rw [ofM_no hp e, ofM_no hp (ofB_turn (x := x) ▸ e)]
theorem casts_take {l : List Nat} {i x : Nat} (h : l[i]? = some x) : zints (casts (l.take (i + 1))) = zints (casts (l.take i)) ++ [.int .i64 (x : Int)] := by
  rw [take_snoc h]; simp [casts, zints]
theorem turn_mul {wb p : Nat} (hp : Prm wb p) {x y : List Int} {i j a b : Nat} (ha : x[i]? = some (a : Int)) (hb : y[j]? = some (b : Int)) (hl : a ^^^ b < 2 ^ wb) (h0 : a ^^^ b ≠ 0) : gmul (some (wb, p)) ((ofT hp x y i j : Nat) : Int) ((a ^^^ b : Nat) : Int) = 1 := by
  have hl2 : a ^^^ b < 2 ^ hp.fld.w := by rw [hp.fld_w]; exact hl
  have hz := ofT_bd hp x y i j
  rw [hp.fld_w] at hz
  rw [gmul_num hp hz hl, ofT_at hp ha hb, hp.fld.inv_mul hl2 h0]; rfl
/-! ### the smallest ones -/
theorem inv_1 : prm_285.fld.inv 1 = 1 := prm_285.fld.one_pow _
theorem inv_2 : prm_285.fld.inv 2 = 142 := by
  have lt : ∀ x, x < 256 → x < 2 ^ prm_285.fld.w := fun x h => by rw [prm_285.fld_w]; exact h
  refine prm_285.fld.cancel (c := 2) (prm_285.fld.inv_lt _) (lt _ (by decide)) (lt _ (by decide)) (by decide) ?_
  rw [prm_285.fld.inv_mul (lt _ (by decide)) (by decide)]
  show 1 = Px.mulMod 142 2 285
  decide +kernel
theorem aw8_isal : cisaM prm_285 1 1 = some [[1]] := by
  have h := cisaM_is prm_285 (k := 1) (m := 1) (by decide) (by decide) (by decide)
  refine h.trans ?_
  show some [[((prm_285.fld.inv 1 : Nat) : Int)]] = _
  rw [inv_1]; rfl
theorem aw8_of : ofM prm_285 [0] [1, 2] = some [[1, 142]] := by
  rw [ofM_is prm_285 (by decide)]
  show some [[((prm_285.fld.inv 1 : Nat) : Int), ((prm_285.fld.inv 2 : Nat) : Int)]] = _
  rw [inv_1, inv_2]; rfl
theorem aw8_may {a b c d : Int} (h : ∀ x ∈ [a, b, c, d], inF (some (8, 285)) x = true) : mayM (some (8, 285)) [[a, b], [c, d]] = true := (Bool.and_eq_true_iff.1 (by have := aw5_sq h; unfold sqM at this; exact this)).1
theorem aw8_no : safeM prm_285 [[1, 1], [1, 1]] = (false, 0) := by
  rw [safeM_is prm_285 (aw8_may (by decide)) (by decide) (by decide)]
  congr 1
  refine safeB_no prm_285 (s := 1) (R := [0, 1]) (C := [0, 1]) (by decide) (by decide) (by decide) fun h => ?_
  unfold okC at h
  have e : tab 2 2 (mnr (en [[1, 1], [1, 1]]) [0, 1] [0, 1]) = [[1, 1], [1, 1]] := by decide
  rw [e, aw5_no] at h
  exact absurd h (by decide)
theorem aw8_yes : safeM prm_285 [[1, 1], [1, 2]] = (true, 0) := by
  have hmay := aw8_may (a := 1) (b := 1) (c := 1) (d := 2) (by decide)
  have hx := (mayM_Mx hmay).1
  rw [safeM_is prm_285 hmay (by decide) (by decide)]
  congr 1
  refine (safeB_iff prm_285).2 fun s hs R hR C hC => ?_
  have hs2 : s = 0 ∨ s = 1 := by
    have : min ([[1, 1], [1, 2]] : Mtx).length (wid [[1, 1], [1, 2]]) = 2 := by decide
    omega
  have hbd := hx.bd prm_285
  rcases hs2 with rfl | rfl
  · have e : ch 2 1 0 = [[0], [1]] := by decide
    have hR2 : R ∈ ch 2 1 0 := hR
    have hC2 : C ∈ ch 2 1 0 := hC
    rw [e] at hR2 hC2
    simp only [List.mem_cons, List.mem_nil_iff, or_false] at hR2 hC2
    rcases hR2 with rfl | rfl <;> rcases hC2 with rfl | rfl <;> unfold okC
    · have e : tab 1 1 (mnr (en [[1, 1], [1, 2]]) [0] [0]) = tab 1 1 (fun _ _ => 1) := by decide
      rw [Nat.zero_add, e]; exact inv0 prm_285 (fun i j => by rw [prm_285.fld_w]; decide) (by decide) (by decide) (one_iv prm_285 (fun i j => by rw [prm_285.fld_w]; decide) (by decide))
    · have e : tab 1 1 (mnr (en [[1, 1], [1, 2]]) [0] [1]) = tab 1 1 (fun _ _ => 1) := by decide
      rw [Nat.zero_add, e]; exact inv0 prm_285 (fun i j => by rw [prm_285.fld_w]; decide) (by decide) (by decide) (one_iv prm_285 (fun i j => by rw [prm_285.fld_w]; decide) (by decide))
    · have e : tab 1 1 (mnr (en [[1, 1], [1, 2]]) [1] [0]) = tab 1 1 (fun _ _ => 1) := by decide
      rw [Nat.zero_add, e]; exact inv0 prm_285 (fun i j => by rw [prm_285.fld_w]; decide) (by decide) (by decide) (one_iv prm_285 (fun i j => by rw [prm_285.fld_w]; decide) (by decide))
    · have e : tab 1 1 (mnr (en [[1, 1], [1, 2]]) [1] [1]) = tab 1 1 (fun _ _ => 2) := by decide
      rw [Nat.zero_add, e]; exact inv0 prm_285 (fun i j => by rw [prm_285.fld_w]; decide) (by decide) (by decide) (one_iv prm_285 (fun i j => by rw [prm_285.fld_w]; decide) (by decide))
  · have e : ch 2 2 0 = [[0, 1]] := by decide
    have hR2 : R ∈ ch 2 2 0 := hR
    have hC2 : C ∈ ch 2 2 0 := hC
    rw [e] at hR2 hC2
    simp only [List.mem_cons, List.mem_nil_iff, or_false] at hR2 hC2
    subst hR2; subst hC2
    unfold okC
    have e : tab 2 2 (mnr (en [[1, 1], [1, 2]]) [0, 1] [0, 1]) = [[1, 1], [1, 2]] := by decide
    obtain ⟨x, hx, -⟩ := aw5_inv
    show (invR prm_285 (tab 2 2 (mnr (en [[1, 1], [1, 2]]) [0, 1] [0, 1]))).1 = 0
    rw [e, hx]
end Go.Gam

/- What the statements of layer 8 call first. -/
set_option linter.unusedVariables false
set_option linter.unusedSimpArgs false
namespace Go.Proofs.Ytaeljbdpjiciaaa
open Go Go.Gam


namespace FxFAw08
theorem en21 : Ent Try.prog 21 := ent Try.func21 (by kernel_rfl) (by kernel_rfl)
theorem en23 : Ent Try.prog 23 := ent Try.func23 (by kernel_rfl) (by kernel_rfl)
theorem en24 : Ent Try.prog 24 := ent Try.func24 (by kernel_rfl) (by kernel_rfl)
theorem en26 : Ent Try.prog 26 := ent Try.func26 (by kernel_rfl) (by kernel_rfl)
theorem en35 : Ent Try.prog 35 := ent Try.func35 (by kernel_rfl) (by kernel_rfl)
theorem en41 : Ent Try.prog 41 := ent Try.func41 (by kernel_rfl) (by kernel_rfl)
theorem sl27 : Sl Try.prog 27 37 (.slice none 0 0) 24 := sl_of Try.underlying27 rfl (by kernel_rfl)
theorem sl28 : Sl Try.prog 28 37 (.slice none 0 0) 24 := sl_of Try.underlying28 rfl (by kernel_rfl)
theorem sl37 : Sl Try.prog 37 3 (.int .i64 0) 8 := sl_of Try.underlying37 rfl (by kernel_rfl)
end FxFAw08
open FxFAw08

theorem Same4_t (B M : Nat) (pma : Option Addr) (cma : Nat) (ma : Mtx) (pmb : Option Addr) (cmb : Nat) (mb : Mtx) (w : World) (hI : Inv FDx B w) (hAma : Mat FDx B M w pma cma ma) (hAmb : Mat FDx B M w pmb cmb mb) (hlma : ma.length ≤ 1000) (hbma : ∀ r ∈ ma, r.length ≤ 1000) (e : ma = mb) :
  Ret Try.prog 21 [.slice pma ma.length cma, .slice pmb mb.length cmb] w fun v w' => v = .bool true ∧ St FDx B w w' :=
 (Same04_ok B M pma cma ma pmb cmb mb w hI hAma hAmb hlma hbma).mono fun v w' h => by rw [decide_eq_true e] at h; exact h

set_option maxRecDepth 100000 in
set_option maxHeartbeats 1000000 in
theorem field8_ok (B : Nat) (lg : Bool) (w : World) (hI : Inv FDx B w) : Ret Try.prog 23 [.bool lg] w fun v w' => ∃ fv, v = .tuple #[fv, .int .i64 ((fq lg).1 : Int), .int .u32 ((fq lg).2 : Int)] ∧ Fo FDx B w' fv (some (fq lg)) ∧ St FDx B w w' := by
 refine enter3 8 [(0, .bool lg)] 2 3 4 Try.func23 rfl rfl rfl rfl rfl ?_; intro a hF
 have hS := St.refl hI
 refine W_sr rfl (fun K hK => ?_)
 refine sv3 hF (v_assign rfl) (v_assign rfl) (v_assign rfl) rfl rfl rfl ?_; clear hF a; intro a hF
 refine WL_nil (hK _ _ ?_)
 clear hK K
 refine W_seq ?_
 refine W_sr rfl (fun K hK => ?_)
 refine sv hF (v_move rfl) rfl ?_; clear hF a; intro a hF
 refine WL_nil (hK _ _ ?_)
 clear hK K
 replace hF := hF.sub _ (c_ 5 rfl (c_ 4 rfl (c_ 3 rfl (c_ 2 rfl (n_)))))
 refine W_if hF rfl (fun hc1 => ?_) (fun hc1 => ?_)
 ·
  skip
  try simp only [dcl] at hc1
  obtain rfl : lg = true := by assumption
  refine W_sr rfl (fun K hK => ?_)
  refine sc hF rfl rfl rfl en41 rfl (New_ok B 16 69643 _ hS.inv (by decide) (by decide)) ?_; clear hF a; intro v w' a hv hF
  obtain ⟨hf, hS'⟩ := hv
  obtain ⟨fv, rfl⟩ : ∃ x, x = v := ⟨_, rfl⟩
  rw [show newF 16 69643 = some (16, 69643) from newF_p prm_69643] at hf
  replace hS := hS.trans hS'
  clear hS'
  refine sv3 hF (v_assign rfl) (v_assign rfl) (v_assign rfl) rfl rfl rfl ?_; clear hF a; intro a hF
  refine WL_nil (hK _ _ ?_)
  clear hK K
  replace hF := hF.sub _ (c_ 4 rfl (c_ 3 rfl (c_ 2 rfl (n_))))
  refine W_ret ?_
  refine ⟨_, _, _, _, hF, rfl, rfl, rfl, ?_⟩
  exact ⟨fv, rfl, hf, hS⟩
 ·
  skip
  try simp only [dcl] at hc1
  obtain rfl : lg = false := by assumption
  refine W_skip ?_
  refine W_sr rfl (fun K hK => ?_)
  refine sc hF rfl rfl rfl en41 rfl (New_ok B 8 285 _ hS.inv (by decide) (by decide)) ?_; clear hF a; intro v w' a hv hF
  obtain ⟨hf, hS'⟩ := hv
  obtain ⟨fv, rfl⟩ : ∃ x, x = v := ⟨_, rfl⟩
  rw [show newF 8 285 = some (8, 285) from newF_p prm_285] at hf
  replace hS := hS.trans hS'
  clear hS'
  refine sv3 hF (v_assign rfl) (v_assign rfl) (v_assign rfl) rfl rfl rfl ?_; clear hF a; intro a hF
  refine WL_nil (hK _ _ ?_)
  clear hK K
  replace hF := hF.sub _ (c_ 4 rfl (c_ 3 rfl (c_ 2 rfl (n_))))
  refine W_ret ?_
  refine ⟨_, _, _, _, hF, rfl, rfl, rfl, ?_⟩
  exact ⟨fv, rfl, hf, hS⟩

set_option maxRecDepth 100000 in
set_option maxHeartbeats 1000000 in
theorem aw08_ok (B : Nat) (w : World) (hI : Inv FDx B w) : Ret Try.prog 22 [] w fun v w' => v = .bool true ∧ St FDx B w w' := by
 refine enter 78 [] 0 Try.func22 rfl rfl rfl rfl rfl ?_; intro a hF
 have hS := St.refl hI
 refine W_sr rfl (fun K hK => ?_)
 refine sv hF (v_assign rfl) rfl ?_; clear hF a; intro a hF
 refine WL_nil (hK _ _ ?_)
 clear hK K
 refine W_sr rfl (fun K hK => ?_)
 refine sc hF rfl rfl rfl en23 rfl (field8_ok B false _ hS.inv) ?_; clear hF a; intro v w' a hv hF
 obtain ⟨fv, rfl, hf, hS'⟩ := hv
 rw [show fq false = (8, 285) from rfl] at hf
 replace hS := hS.trans hS'
 clear hS'
 refine sv6 hF (v_move rfl) (v_ext rfl rfl) (v_ext rfl rfl) (v_ext rfl rfl) (v_assign rfl) (v_assign rfl) rfl rfl rfl rfl rfl rfl ?_; clear hF a; intro a hF
 refine sv hF (v_assign rfl) rfl ?_; clear hF a; intro a hF
 refine WL_nil (hK _ _ ?_)
 clear hK K
 replace hF := hF.sub _ (c_ 1 rfl (c_ 0 rfl (n_)))
 refine W_sr rfl (fun K hK => ?_)
 refine sv hF (v_move rfl) rfl ?_; clear hF a; intro a hF
 refine sc hF rfl rfl rfl en35 rfl (CIsal_ok B 8 285 prm_285 fv 1 1 _ hS.inv hf) ?_; clear hF a; intro v w' a hv hF
 obtain ⟨obX, uX, rfl, hoX, hS'⟩ := hv
 rw [aw8_isal] at hoX hF
 try simp only [Option.getD_some, Option.getD_none] at hoX
 obtain ⟨sX, cX, rfl, hX⟩ := hoX.mat (by decide) (Nat.zero_le _)
 clear hoX
 replace hf := hf.st hS'
 replace hS := hS.trans hS'
 clear hS'
 refine sv5 hF (v_move rfl) (v_ext rfl rfl) (v_ext rfl rfl) (v_assign rfl) (v_assign rfl) rfl rfl rfl rfl rfl ?_; clear hF a; intro a hF
 refine WL_nil (hK _ _ ?_)
 clear hK K
 replace hF := hF.sub _ (c_ 5 rfl (c_ 4 rfl (c_ 1 rfl (c_ 0 rfl (n_)))))
 refine W_sr rfl (fun K hK => ?_)
 refine sv hF (v_move rfl) rfl ?_; clear hF a; intro a hF
 refine s_bs (D := FDx) (B := B) hF sl37 rfl rfl (by decide) (by simp [Value.cells]) (by decide) hS.inv rfl ?_; clear hF a; intro w' a hm hI' h1 hF
 replace hf := hf.mb hm
 replace hX := (hX.mb hm (fun _ h => by cases h)).mono hm.size
 replace hS := hS.mb0 hm
 clear hm hI'
 refine s_bs (D := FDx) (B := B) hF sl37 rfl rfl (by decide) (by simp [Value.cells]) (by decide) hS.inv rfl ?_; clear hF a; intro w' a hm hI' h2 hF
 replace hf := hf.mb hm
 replace hX := (hX.mb hm (fun _ h => by cases h)).mono hm.size
 replace h1 := h1.mb hm (fun _ _ => by simp)
 replace hS := hS.mb0 hm
 clear hm hI'
 refine sc hF rfl rfl rfl en24 rfl (Of_ok B _ 8 285 prm_285 fv _ _ 1 2 [0] [1, 2] _ hS.inv (Nat.le_refl _) hf ((h1.cast (ys := zints [0]) rfl).row (by decide)) ((h2.cast (ys := zints [1, 2]) rfl).row (by decide)) (by decide)) ?_; clear hF a; intro v w' a hv hF
 obtain ⟨obY, uY, rfl, hoY, hS'⟩ := hv
 rw [aw8_of] at hoY hF
 try simp only [Option.getD_some, Option.getD_none] at hoY
 obtain ⟨sY, cY, rfl, hY⟩ := hoY.mat (by decide) (Nat.zero_le _)
 clear hoY
 replace hf := hf.st hS'
 replace hX := (hX.st hS').mono hS'.ext.size
 replace hS := hS.trans hS'
 clear hS'
 refine sv5 hF (v_move rfl) (v_ext rfl rfl) (v_ext rfl rfl) (v_assign rfl) (v_assign rfl) rfl rfl rfl rfl rfl ?_; clear hF a; intro a hF
 refine WL_nil (hK _ _ ?_)
 clear hK K
 replace hF := hF.sub _ (c_ 7 rfl (c_ 6 rfl (c_ 5 rfl (c_ 4 rfl (c_ 1 rfl (c_ 0 rfl (n_)))))))
 refine W_sr rfl (fun K hK => ?_)
 refine sv hF (v_move rfl) rfl ?_; clear hF a; intro a hF
 refine s_bs (D := FDx) (B := B) hF sl37 rfl rfl (by decide) (by simp [Value.cells]) (by decide) hS.inv rfl ?_; clear hF a; intro w' a hm hI' h1 hF
 replace hf := hf.mb hm
 replace hX := (hX.mb hm (fun _ h => by cases h)).mono hm.size
 replace hY := (hY.mb hm (fun _ h => by cases h)).mono hm.size
 replace hS := hS.mb0 hm
 clear hm hI'
 refine s_bs (D := FDx) (B := B) hF sl37 rfl rfl (by decide) (by simp [Value.cells]) (by decide) hS.inv rfl ?_; clear hF a; intro w' a hm hI' h2 hF
 replace hf := hf.mb hm
 replace hX := (hX.mb hm (fun _ h => by cases h)).mono hm.size
 replace hY := (hY.mb hm (fun _ h => by cases h)).mono hm.size
 replace h1 := h1.mb hm (fun _ _ => by simp)
 replace hS := hS.mb0 hm
 clear hm hI'
 refine s_bs (D := FDx) (B := B) hF sl28 rfl rfl (by decide) (by simp [Value.cells]) (by decide) hS.inv rfl ?_; clear hF a; intro w' a hm hI' h3 hF
 replace hf := hf.mb hm
 replace hX := (hX.mb hm (fun _ h => by cases h)).mono hm.size
 replace hY := (hY.mb hm (fun _ h => by cases h)).mono hm.size
 replace h1 := h1.mb hm (fun _ _ => by simp)
 replace h2 := h2.mb hm (fun _ _ => by simp)
 replace hS := hS.mb0 hm
 clear hm hI'
 refine sc hF rfl rfl rfl en26 rfl (Safe_ok B _ 8 285 prm_285 fv _ _ [[1, 1], [1, 1]] _ hS.inv (Nat.le_refl _) hf (Mat.two h3 (by decide) ((h1.cast (ys := zints [1, 1]) rfl).row (by decide)) ((h2.cast (ys := zints [1, 1]) rfl).row (by decide))) (aw5_len _ _ _ _).1 (aw5_len _ _ _ _).2) ?_; clear hF a; intro v w' a hv hF
 obtain ⟨rfl, hS'⟩ := hv
 rw [aw8_no] at hF
 dsimp only at hF
 replace hf := hf.st hS'
 replace hX := (hX.st hS').mono hS'.ext.size
 replace hY := (hY.st hS').mono hS'.ext.size
 replace hS := hS.trans hS'
 clear hS'
 refine sv hF (v_move rfl) rfl ?_; clear hF a; intro a hF
 refine sv hF ((v_ext rfl rfl).as (congrArg Value.bool (rfl))) rfl ?_; clear hF a; intro a hF
 refine sv3 hF (v_ext rfl rfl) (v_assign rfl) (v_assign rfl) rfl rfl rfl ?_; clear hF a; intro a hF
 refine WL_nil (hK _ _ ?_)
 clear hK K
 replace hF := hF.sub _ (c_ 9 rfl (c_ 8 rfl (c_ 7 rfl (c_ 6 rfl (c_ 5 rfl (c_ 4 rfl (c_ 1 rfl (c_ 0 rfl (n_)))))))))
 refine W_sr rfl (fun K hK => ?_)
 refine sv hF (v_move rfl) rfl ?_; clear hF a; intro a hF
 refine s_bs (D := FDx) (B := B) hF sl37 rfl rfl (by decide) (by simp [Value.cells]) (by decide) hS.inv rfl ?_; clear hF a; intro w' a hm hI' h1 hF
 replace hf := hf.mb hm
 replace hX := (hX.mb hm (fun _ h => by cases h)).mono hm.size
 replace hY := (hY.mb hm (fun _ h => by cases h)).mono hm.size
 replace hS := hS.mb0 hm
 clear hm hI'
 refine s_bs (D := FDx) (B := B) hF sl37 rfl rfl (by decide) (by simp [Value.cells]) (by decide) hS.inv rfl ?_; clear hF a; intro w' a hm hI' h2 hF
 replace hf := hf.mb hm
 replace hX := (hX.mb hm (fun _ h => by cases h)).mono hm.size
 replace hY := (hY.mb hm (fun _ h => by cases h)).mono hm.size
 replace h1 := h1.mb hm (fun _ _ => by simp)
 replace hS := hS.mb0 hm
 clear hm hI'
 refine s_bs (D := FDx) (B := B) hF sl28 rfl rfl (by decide) (by simp [Value.cells]) (by decide) hS.inv rfl ?_; clear hF a; intro w' a hm hI' h3 hF
 replace hf := hf.mb hm
 replace hX := (hX.mb hm (fun _ h => by cases h)).mono hm.size
 replace hY := (hY.mb hm (fun _ h => by cases h)).mono hm.size
 replace h1 := h1.mb hm (fun _ _ => by simp)
 replace h2 := h2.mb hm (fun _ _ => by simp)
 replace hS := hS.mb0 hm
 clear hm hI'
 refine sc hF rfl rfl rfl en26 rfl (Safe_ok B _ 8 285 prm_285 fv _ _ [[1, 1], [1, 2]] _ hS.inv (Nat.le_refl _) hf (Mat.two h3 (by decide) ((h1.cast (ys := zints [1, 1]) rfl).row (by decide)) ((h2.cast (ys := zints [1, 2]) rfl).row (by decide))) (aw5_len _ _ _ _).1 (aw5_len _ _ _ _).2) ?_; clear hF a; intro v w' a hv hF
 obtain ⟨rfl, hS'⟩ := hv
 rw [aw8_yes] at hF
 dsimp only at hF
 replace hX := (hX.st hS').mono hS'.ext.size
 replace hY := (hY.st hS').mono hS'.ext.size
 replace hS := hS.trans hS'
 clear hS'
 refine sv hF (v_move rfl) rfl ?_; clear hF a; intro a hF
 refine sv hF ((v_ext rfl rfl).as (congrArg Value.bool (rfl))) rfl ?_; clear hF a; intro a hF
 refine sv3 hF (v_ext rfl rfl) (v_assign rfl) (v_assign rfl) rfl rfl rfl ?_; clear hF a; intro a hF
 refine WL_nil (hK _ _ ?_)
 clear hK K
 replace hF := hF.sub _ (c_ 11 rfl (c_ 10 rfl (c_ 9 rfl (c_ 8 rfl (c_ 7 rfl (c_ 6 rfl (c_ 5 rfl (c_ 4 rfl (c_ 0 rfl (n_))))))))))
 refine W_sr rfl (fun K hK => ?_)
 refine sv hF (v_move rfl) rfl ?_; clear hF a; intro a hF
 refine sv hF ((v_eql rfl rfl).as (congrArg Value.bool (decide_eq_true (rfl)))) rfl ?_; clear hF a; intro a hF
 refine sv hF (v_move rfl) rfl ?_; clear hF a; intro a hF
 refine svg hF rfl ?_
 refine sv hF (v_move rfl) rfl ?_; clear hF a; intro a hF
 refine svg hF rfl ?_
 refine sv hF ((v_eql rfl rfl).as (congrArg Value.bool (decide_eq_true (rfl)))) rfl ?_; clear hF a; intro a hF
 refine sv2 hF (v_pickT rfl rfl) (v_move rfl) rfl rfl ?_; clear hF a; intro a hF
 refine svg hF rfl ?_
 refine sv hF (v_move rfl) rfl ?_; clear hF a; intro a hF
 refine svg hF rfl ?_
 refine s_bs (D := FDx) (B := B) hF sl37 rfl rfl (by decide) (by simp [Value.cells]) (by decide) hS.inv rfl ?_; clear hF a; intro w' a hm hI' h1 hF
 replace hX := (hX.mb hm (fun _ h => by cases h)).mono hm.size
 replace hY := (hY.mb hm (fun _ h => by cases h)).mono hm.size
 replace hS := hS.mb0 hm
 clear hm hI'
 refine svg hF rfl ?_
 refine s_bs (D := FDx) (B := B) hF sl27 rfl rfl (by decide) (by simp [Value.cells]) (by decide) hS.inv rfl ?_; clear hF a; intro w' a hm hI' h2 hF
 replace hX := (hX.mb hm (fun _ h => by cases h)).mono hm.size
 replace hY := (hY.mb hm (fun _ h => by cases h)).mono hm.size
 replace h1 := h1.mb hm (fun _ _ => by simp)
 replace hS := hS.mb0 hm
 clear hm hI'
 refine svg hF rfl ?_
 refine sc hF rfl rfl rfl en21 rfl (Same4_t B _ _ _ [[1]] _ _ [[1]] _ hS.inv hX (Mat.one h2 (by decide) ((h1.cast (ys := zints [1]) rfl).row (by decide))) (by decide) (by intro r hr; simp at hr; subst hr; decide) rfl) ?_; clear hF a; intro v w' a hv hF
 obtain ⟨rfl, hS'⟩ := hv
 replace hY := (hY.st hS').mono hS'.ext.size
 replace hS := hS.trans hS'
 clear hS'
 refine sv2 hF (v_pickT rfl rfl) (v_move rfl) rfl rfl ?_; clear hF a; intro a hF
 refine svg hF rfl ?_
 refine sv hF (v_move rfl) rfl ?_; clear hF a; intro a hF
 refine svg hF rfl ?_
 refine s_bs (D := FDx) (B := B) hF sl37 rfl rfl (by decide) (by simp [Value.cells]) (by decide) hS.inv rfl ?_; clear hF a; intro w' a hm hI' h1 hF
 replace hY := (hY.mb hm (fun _ h => by cases h)).mono hm.size
 replace hS := hS.mb0 hm
 clear hm hI'
 refine svg hF rfl ?_
 refine s_bs (D := FDx) (B := B) hF sl27 rfl rfl (by decide) (by simp [Value.cells]) (by decide) hS.inv rfl ?_; clear hF a; intro w' a hm hI' h2 hF
 replace hY := (hY.mb hm (fun _ h => by cases h)).mono hm.size
 replace h1 := h1.mb hm (fun _ _ => by simp)
 replace hS := hS.mb0 hm
 clear hm hI'
 refine svg hF rfl ?_
 refine sc hF rfl rfl rfl en21 rfl (Same4_t B _ _ _ [[1, 142]] _ _ [[1, 142]] _ hS.inv hY (Mat.one h2 (by decide) ((h1.cast (ys := zints [1, 142]) rfl).row (by decide))) (by decide) (by intro r hr; simp at hr; subst hr; decide) rfl) ?_; clear hF a; intro v w' a hv hF
 obtain ⟨rfl, hS'⟩ := hv
 replace hS := hS.trans hS'
 clear hS'
 refine sv2 hF (v_pickT rfl rfl) (v_move rfl) rfl rfl ?_; clear hF a; intro a hF
 refine svg hF rfl ?_
 refine sv hF (v_move rfl) rfl ?_; clear hF a; intro a hF
 refine svg hF rfl ?_
 refine sv hF (v_not rfl) rfl ?_; clear hF a; intro a hF
 refine sv2 hF (v_pickT rfl rfl) (v_move rfl) rfl rfl ?_; clear hF a; intro a hF
 refine svg hF rfl ?_
 refine sv hF (v_move rfl) rfl ?_; clear hF a; intro a hF
 refine svg hF rfl ?_
 refine sv hF ((v_eql rfl rfl).as (congrArg Value.bool (decide_eq_true (rfl)))) rfl ?_; clear hF a; intro a hF
 refine sv2 hF (v_pickT rfl rfl) (v_move rfl) rfl rfl ?_; clear hF a; intro a hF
 refine svg hF rfl ?_
 refine sv3 hF (v_move rfl) (v_pickT rfl rfl) (v_move rfl) rfl rfl rfl ?_; clear hF a; intro a hF
 refine svg hF rfl ?_
 refine sv hF (v_move rfl) rfl ?_; clear hF a; intro a hF
 refine svg hF rfl ?_
 refine sv hF ((v_eql rfl rfl).as (congrArg Value.bool (decide_eq_true (rfl)))) rfl ?_; clear hF a; intro a hF
 refine sv2 hF (v_pickT rfl rfl) (v_assign rfl) rfl rfl ?_; clear hF a; intro a hF
 refine WL_nil (hK _ _ ?_)
 clear hK K
 replace hF := hF.sub _ (c_ 0 rfl (n_))
 refine W_ret ?_
 refine ⟨_, _, hF, rfl, ?_⟩
 exact ⟨rfl, hS⟩

end Go.Proofs.Ytaeljbdpjiciaaa

/- The statement CauchyTurned, walked: it returns true. -/
set_option linter.unusedVariables false
set_option linter.unusedSimpArgs false
namespace Go.Proofs.Ytaeljbdpjiciaaa
open Go Go.Gam


namespace FxFCauchyTurned
theorem en22 : Ent Try.prog 22 := ent Try.func22 (by kernel_rfl) (by kernel_rfl)
theorem en23 : Ent Try.prog 23 := ent Try.func23 (by kernel_rfl) (by kernel_rfl)
theorem en24 : Ent Try.prog 24 := ent Try.func24 (by kernel_rfl) (by kernel_rfl)
theorem en29 : Ent Try.prog 29 := ent Try.func29 (by kernel_rfl) (by kernel_rfl)
theorem hmix : Try.prog.follows .mixedOrders = true := by kernel_rfl
theorem sc3 : Scalar Try.prog 3 := ⟨_, Try.underlying3, by simp, by simp⟩
theorem sc37 : Scalar Try.prog 37 := ⟨_, Try.underlying37, by simp, by simp⟩
theorem sc50 : Scalar Try.prog 50 := ⟨_, Try.underlying50, by simp, by simp⟩
theorem sl28 : Sl Try.prog 28 37 (.slice none 0 0) 24 := sl_of Try.underlying28 rfl (by kernel_rfl)
theorem sl37 : Sl Try.prog 37 3 (.int .i64 0) 8 := sl_of Try.underlying37 rfl (by kernel_rfl)
theorem sl49 : Sl Try.prog 49 50 (.int .u16 0) 2 := sl_of Try.underlying49 rfl (by kernel_rfl)
end FxFCauchyTurned
open FxFCauchyTurned

set_option maxRecDepth 100000 in
set_option maxHeartbeats 1000000 in
theorem CauchyTurned_ok (B M : Nat) (lg : Bool) (px : Option Addr) (cx : Nat) (x : List Nat) (py : Option Addr) (cy : Nat) (y : List Nat) (w : World) (hI : Inv FDx B w) (hM : M ≤ w.heap.size) (hx : Row FDx B M w (.slice px x.length cx) (u16s x)) (hx8 : ∀ z ∈ x, z < 65536) (hxl : x.length ≤ maxLen) (hy : Row FDx B M w (.slice py y.length cy) (u16s y)) (hy8 : ∀ z ∈ y, z < 65536) (hyl : y.length ≤ maxLen) : Ret Try.prog 8 [.bool lg, .slice px x.length cx, .slice py y.length cy] w fun v w' => v = .bool true ∧ St FDx B w w' := by
 refine enter 172 [(0, .bool lg), (1, .slice px x.length cx), (2, .slice py y.length cy)] 6 Try.func8 rfl rfl rfl rfl rfl ?_; intro a hF
 have hS := St.refl hI
 have hl2 := hxl
 have hl3 := hyl
 simp only [maxLen] at hl2 hl3
 refine W_sr rfl (fun K hK => ?_)
 refine sv hF (v_assign rfl) rfl ?_; clear hF a; intro a hF
 refine WL_nil (hK _ _ ?_)
 clear hK K
 refine W_sr rfl (fun K hK => ?_)
 refine sc hF rfl rfl rfl en22 rfl (aw08_ok B _ hS.inv) ?_; clear hF a; intro v w' a hv hF
 obtain ⟨rfl, hS'⟩ := hv
 replace hx := hx.st hS'
 replace hy := hy.st hS'
 replace hS := hS.trans hS'
 clear hS'
 refine sv hF (v_assign rfl) rfl ?_; clear hF a; intro a hF
 refine WL_nil (hK _ _ ?_)
 clear hK K
 replace hF := hF.sub _ (c_ 7 rfl (c_ 6 rfl (c_ 0 rfl (c_ 1 rfl (c_ 2 rfl (n_))))))
 refine W_seq ?_
 refine W_sr rfl (fun K hK => ?_)
 refine sv hF (v_move rfl) rfl ?_; clear hF a; intro a hF
 refine sv hF (v_lenS rfl sl49 rfl) rfl ?_; clear hF a; intro a hF
 refine sb hF (v_gtr rfl rfl) rfl ?_ ?_
 ·
  clear hF a; intro hc1 a hF
  try simp only [dcl] at hc1
  refine sv hF (v_move rfl) rfl ?_; clear hF a; intro a hF
  refine svn hF rfl rfl rfl ?_; clear hF a; intro a hF
  refine svn hF rfl rfl rfl ?_; clear hF a; intro a hF
  refine svn hF rfl rfl rfl ?_; clear hF a; intro a hF
  refine sv hF (v_pickT rfl rfl) rfl ?_; clear hF a; intro a hF
  refine WL_nil (hK _ _ ?_)
  clear hK K
  replace hF := hF.sub _ (c_ 29 rfl (c_ 7 rfl (c_ 6 rfl (c_ 0 rfl (c_ 1 rfl (c_ 2 rfl (n_)))))))
  refine W_ifT hF rfl ?_
  refine W_sr rfl (fun K hK => ?_)
  refine sv2 hF (v_move rfl) (v_assign rfl) rfl rfl ?_; clear hF a; intro a hF
  refine WL_nil (hK _ _ ?_)
  clear hK K
  replace hF := hF.sub _ (c_ 6 rfl (c_ 7 rfl (c_ 0 rfl (c_ 1 rfl (c_ 2 rfl (n_))))))
  refine W_ret ?_
  refine ⟨_, _, hF, rfl, ?_⟩
  exact ⟨rfl, hS⟩
 ·
  clear hF a; intro hc1 a hF
  try simp only [dcl] at hc1
  refine sv hF (v_move rfl) rfl ?_; clear hF a; intro a hF
  refine svg hF rfl ?_
  refine sv hF (v_move rfl) rfl ?_; clear hF a; intro a hF
  refine svg hF rfl ?_
  refine sv hF (v_lenS rfl sl49 rfl) rfl ?_; clear hF a; intro a hF
  refine svg hF rfl ?_
  refine sv hF (v_gtr rfl rfl) rfl ?_; clear hF a; intro a hF
  refine sv hF (v_pickF rfl rfl) rfl ?_; clear hF a; intro a hF
  refine WL_nil (hK _ _ ?_)
  clear hK K
  replace hF := hF.sub _ (c_ 29 rfl (c_ 7 rfl (c_ 6 rfl (c_ 0 rfl (c_ 1 rfl (c_ 2 rfl (n_)))))))
  refine W_if hF rfl (fun hc2 => ?_) (fun hc2 => ?_)
  ·
   skip
   try simp only [dcl] at hc2
   refine W_sr rfl (fun K hK => ?_)
   refine sv2 hF (v_move rfl) (v_assign rfl) rfl rfl ?_; clear hF a; intro a hF
   refine WL_nil (hK _ _ ?_)
   clear hK K
   replace hF := hF.sub _ (c_ 6 rfl (c_ 7 rfl (c_ 0 rfl (c_ 1 rfl (c_ 2 rfl (n_))))))
   refine W_ret ?_
   refine ⟨_, _, hF, rfl, ?_⟩
   exact ⟨rfl, hS⟩
  ·
   skip
   try simp only [dcl] at hc2
   refine W_skip ?_
   refine W_sr rfl (fun K hK => ?_)
   refine sv hF (v_assign rfl) rfl ?_; clear hF a; intro a hF
   refine WL_nil (hK _ _ ?_)
   clear hK K
   replace hF := hF.sub _ (c_ 8 rfl (c_ 7 rfl (c_ 6 rfl (c_ 0 rfl (c_ 1 rfl (c_ 2 rfl (n_)))))))
   refine W_sr rfl (fun K hK => ?_)
   refine sv hF (v_assign rfl) rfl ?_; clear hF a; intro a hF
   refine WL_nil (hK _ _ ?_)
   clear hK K
   refine W_seq ?_
   refine W_sr rfl (fun K hK => ?_)
   refine sv hF (v_assign rfl) rfl ?_; clear hF a; intro a hF
   refine WL_nil (hK _ _ ?_)
   clear hK K
   refine W_block ?_
   refine W_loop (fun q a w1 => ∃ (i : Nat) (v5 : Value) (b5 : Option Nat), Fr 172 [(1, .slice px x.length cx), (2, .slice py y.length cy), (0, .bool lg), (7, .bool true), (8, v5), (9, .slice none 0 0), (10, .int .i64 (i : Int))] a ∧ (St FDx B w w1) ∧ (Row FDx B M w1 (.slice px x.length cx) (u16s x)) ∧ (Row FDx B M w1 (.slice py y.length cy) (u16s y)) ∧ (Gam.Own FDx B w.heap.size w1 FDx.E v5 b5 (zints (casts (x.take i)))) ∧ (i ≤ x.length) ∧ (q + i = x.length)) (x.length) ?_ ?_
   ·
    skip
    exact ⟨0, _, none, hF.sub _ (c_ 1 rfl (c_ 2 rfl (c_ 0 rfl (c_ 7 rfl (c_ 8 rfl (c_ 9 rfl (c_ 10 rfl (n_)))))))), hS, hx, hy, Gam.Own.nil _ _ _ _ _, by omega, by omega⟩
   ·
    skip
    clear hF
    clear hS hx hy
    rintro q a w1 ⟨i, v5, b5, hF, hS, hx, hy, hO, hi, hq⟩
    refine W_seq ?_
    refine W_sr rfl (fun K hK => ?_)
    refine sv2 hF (v_move rfl) (v_move rfl) rfl rfl ?_; clear hF a; intro a hF
    refine sv hF (v_lenS rfl sl49 rfl) rfl ?_; clear hF a; intro a hF
    refine sv hF (v_lss rfl rfl) rfl ?_; clear hF a; intro a hF
    refine WL_nil (hK _ _ ?_)
    clear hK K
    replace hF := hF.sub _ (c_ 34 rfl (c_ 1 rfl (c_ 2 rfl (c_ 0 rfl (c_ 7 rfl (c_ 8 rfl (c_ 9 rfl (c_ 10 rfl (n_)))))))))
    refine W_if hF rfl (fun hc3 => ?_) (fun hc3 => ?_)
    ·
     skip
     try simp only [dcl] at hc3
     have hlt : i < x.length := by omega
     obtain ⟨e_, he⟩ : ∃ z, x[i]? = some z := ⟨_, List.getElem?_eq_getElem hlt⟩
     have he8 := hx8 e_ (List.mem_of_getElem? he)
     have hcl : (zints (casts (x.take i))).length = i := by rw [zints_length, casts_length, List.length_take]; omega
     obtain ⟨gx, ox, hgx, hkx, -⟩ := hx.kat (u16s_at he)
     refine W_skip ?_
     refine W_seq ?_
     refine W_block ?_
     refine W_reg rfl (fun K hK => ?_)
     refine sv3 hF (v_move rfl) (v_move rfl) (v_move rfl) rfl rfl rfl ?_; clear hF a; intro a hF
     rw [hgx] at hF
     refine sv hF (v_ixS sl49 rfl rfl (by omega) (by omega)) rfl ?_; clear hF a; intro a hF
     refine sv hF (v_load sc50 rfl (by rw [toNat_c]; exact hkx.c)) rfl ?_; clear hF a; intro a hF
     rw [← hgx] at hF
     refine sv hF (v_cv Try.underlying50 Try.underlying3 rfl (wrap_i64 _ (by omega))) rfl ?_; clear hF a; intro a hF
     refine s_bs (D := FDx) (B := B) hF sl37 rfl rfl (by decide) (by simp [Value.cells]) (by decide) hS.inv rfl ?_; clear hF a; intro w' a hm hI' hL hF
     replace hx := hx.mb hm (fun _ h => by cases h)
     replace hy := hy.mb hm (fun _ h => by cases h)
     replace hO := hO.mb hm (fun _ _ => by simp)
     replace hS := hS.mb0 hm
     clear hm hI'
     refine s_app (D := FDx) (B := B) hF rfl sl37 rfl rfl hO (hL.row (by decide)) (by simp [Value.oneCell']) (by rw [hcl]; simp; omega) (by rw [hcl]; simp [maxLen]; omega) (hS.ext.size) (by decide) hS.inv rfl ?_; clear hF a; intro v' b' w' a ho' hm hI' hb' hF
     replace hx := hx.mb hm (fun k h => Nat.le_trans (by omega) (hO.lt k h).1)
     replace hy := hy.mb hm (fun k h => Nat.le_trans (by omega) (hO.lt k h).1)
     replace hS := hS.mb hm (fun k h => Nat.le_trans (Nat.le_refl _) (hO.lt k h).1)
     replace hO := ho'
     clear hm hI' ho'
     refine sv hF (v_assign rfl) rfl ?_; clear hF a; intro a hF
     refine WL_nil (hK _ _ ?_)
     clear hK K
     replace hF := hF.sub _ (c_ 8 rfl (c_ 1 rfl (c_ 2 rfl (c_ 0 rfl (c_ 7 rfl (c_ 9 rfl (c_ 10 rfl (n_))))))))
     refine W_reg rfl (fun K hK => ?_)
     refine sv hF (v_move rfl) rfl ?_; clear hF a; intro a hF
     refine sv hF (v_addI rfl rfl (by omega)) rfl ?_; clear hF a; intro a hF
     refine sv hF (v_assign rfl) rfl ?_; clear hF a; intro a hF
     refine WL_nil (hK _ _ ?_)
     clear hK K
     exact ⟨q - 1, by omega, i + 1, _, _, hF.sub _ (c_ 1 rfl (c_ 2 rfl (c_ 0 rfl (c_ 7 rfl (c_ 8 rfl (c_ 9 rfl (c_ 10 rfl (n_)))))))), hS, hx, hy, hO.cast (casts_take he).symm, by omega, by omega⟩
    ·
     skip
     try simp only [dcl] at hc3
     obtain rfl : i = x.length := by omega
     rw [List.take_length] at hO
     obtain ⟨pa, ca, rfl⟩ := hO.shape
     obtain ⟨KA, hKe⟩ : ∃ K, K = w1.heap.size := ⟨_, rfl⟩
     have hKA : KA ≤ w1.heap.size := by omega
     have hNK : w.heap.size ≤ KA := by have := hS.ext.size; omega
     have hA : Row FDx B KA w1 (.slice pa (zints (casts x)).length ca) (zints (casts x)) := by rw [hKe]; exact hO.row (by decide)
     rw [zints_length, casts_length] at hA hF
     clear hO
     have hMN2 := Nat.le_trans hM hNK
     refine W_exit rfl ?_
     refine W_seq ?_
     refine W_sr rfl (fun K hK => ?_)
     refine sv hF (v_assign rfl) rfl ?_; clear hF a; intro a hF
     refine WL_nil (hK _ _ ?_)
     clear hK K
     replace hF := hF.sub _ (c_ 11 rfl (c_ 1 rfl (c_ 2 rfl (c_ 0 rfl (c_ 7 rfl (c_ 8 rfl (c_ 9 rfl (c_ 10 rfl (n_)))))))))
     refine W_block ?_
     refine W_loop (fun q2 a w2 => ∃ (j : Nat) (v5 : Value) (b5 : Option Nat), Fr 172 [(1, .slice px x.length cx), (2, .slice py y.length cy), (0, .bool lg), (7, .bool true), (8, .slice pa x.length ca), (9, v5), (11, .int .i64 (j : Int))] a ∧ (St FDx B w w2) ∧ (Row FDx B M w2 (.slice px x.length cx) (u16s x)) ∧ (Row FDx B M w2 (.slice py y.length cy) (u16s y)) ∧ (Row FDx B KA w2 (.slice pa x.length ca) (zints (casts x))) ∧ (KA ≤ w2.heap.size) ∧ (Gam.Own FDx B KA w2 FDx.E v5 b5 (zints (casts (y.take j)))) ∧ (j ≤ y.length) ∧ (q2 + j = y.length)) (y.length) ?_ ?_
     ·
      skip
      exact ⟨0, _, none, hF.sub _ (c_ 1 rfl (c_ 2 rfl (c_ 0 rfl (c_ 7 rfl (c_ 8 rfl (c_ 9 rfl (c_ 11 rfl (n_)))))))), hS, hx, hy, hA, hKA, Gam.Own.nil _ _ _ _ _, by omega, by omega⟩
     ·
      skip
      clear hF
      clear hS hx hy hA hKA
      rintro q2 a w2 ⟨j, v5, b5, hF, hS, hx, hy, hA, hKA, hO, hj, hq2⟩
      refine W_seq ?_
      refine W_sr rfl (fun K hK => ?_)
      refine sv2 hF (v_move rfl) (v_move rfl) rfl rfl ?_; clear hF a; intro a hF
      refine sv hF (v_lenS rfl sl49 rfl) rfl ?_; clear hF a; intro a hF
      refine sv hF (v_lss rfl rfl) rfl ?_; clear hF a; intro a hF
      refine WL_nil (hK _ _ ?_)
      clear hK K
      refine W_if hF rfl (fun hc4 => ?_) (fun hc4 => ?_)
      ·
       skip
       try simp only [dcl] at hc4
       have hlt : j < y.length := by omega
       obtain ⟨e_, he⟩ : ∃ z, y[j]? = some z := ⟨_, List.getElem?_eq_getElem hlt⟩
       have he8 := hy8 e_ (List.mem_of_getElem? he)
       have hcl : (zints (casts (y.take j))).length = j := by rw [zints_length, casts_length, List.length_take]; omega
       obtain ⟨gx, ox, hgx, hkx, -⟩ := hy.kat (u16s_at he)
       refine W_skip ?_
       refine W_seq ?_
       refine W_block ?_
       refine W_reg rfl (fun K hK => ?_)
       refine sv3 hF (v_move rfl) (v_move rfl) (v_move rfl) rfl rfl rfl ?_; clear hF a; intro a hF
       rw [hgx] at hF
       refine sv hF (v_ixS sl49 rfl rfl (by omega) (by omega)) rfl ?_; clear hF a; intro a hF
       refine sv hF (v_load sc50 rfl (by rw [toNat_c]; exact hkx.c)) rfl ?_; clear hF a; intro a hF
       rw [← hgx] at hF
       refine sv hF (v_cv Try.underlying50 Try.underlying3 rfl (wrap_i64 _ (by omega))) rfl ?_; clear hF a; intro a hF
       refine s_bs (D := FDx) (B := B) hF sl37 rfl rfl (by decide) (by simp [Value.cells]) (by decide) hS.inv rfl ?_; clear hF a; intro w' a hm hI' hL hF
       replace hx := hx.mb hm (fun _ h => by cases h)
       replace hy := hy.mb hm (fun _ h => by cases h)
       replace hA := hA.mb hm (fun _ h => by cases h)
       replace hKA := Nat.le_trans hKA hm.size
       replace hO := hO.mb hm (fun _ _ => by simp)
       replace hS := hS.mb0 hm
       clear hm hI'
       refine s_app (D := FDx) (B := B) hF rfl sl37 rfl rfl hO (hL.row (by decide)) (by simp [Value.oneCell']) (by rw [hcl]; simp; omega) (by rw [hcl]; simp [maxLen]; omega) (hKA) (by decide) hS.inv rfl ?_; clear hF a; intro v' b' w' a ho' hm hI' hb' hF
       replace hx := hx.mb hm (fun k h => Nat.le_trans (by omega) (hO.lt k h).1)
       replace hy := hy.mb hm (fun k h => Nat.le_trans (by omega) (hO.lt k h).1)
       replace hA := hA.mb hm (fun k h => Nat.le_trans (Nat.le_refl _) (hO.lt k h).1)
       replace hKA := Nat.le_trans hKA hm.size
       replace hS := hS.mb hm (fun k h => Nat.le_trans (hNK) (hO.lt k h).1)
       replace hO := ho'
       clear hm hI' ho'
       refine sv hF (v_assign rfl) rfl ?_; clear hF a; intro a hF
       refine WL_nil (hK _ _ ?_)
       clear hK K
       refine W_reg rfl (fun K hK => ?_)
       refine sv hF (v_move rfl) rfl ?_; clear hF a; intro a hF
       refine sv hF (v_addI rfl rfl (by omega)) rfl ?_; clear hF a; intro a hF
       refine sv hF (v_assign rfl) rfl ?_; clear hF a; intro a hF
       refine WL_nil (hK _ _ ?_)
       clear hK K
       exact ⟨q2 - 1, by omega, j + 1, _, _, hF.sub _ (c_ 1 rfl (c_ 2 rfl (c_ 0 rfl (c_ 7 rfl (c_ 8 rfl (c_ 9 rfl (c_ 11 rfl (n_)))))))), hS, hx, hy, hA, hKA, hO.cast (casts_take he).symm, by omega, by omega⟩
      ·
       skip
       try simp only [dcl] at hc4
       obtain rfl : j = y.length := by omega
       rw [List.take_length] at hO
       obtain ⟨pb, cb, rfl⟩ := hO.shape
       have hB := hO.row (by decide)
       rw [zints_length, casts_length] at hB hF
       replace hA := hA.mono hKA
       clear hO hx hy
       refine W_exit rfl ?_
       refine W_sr rfl (fun K hK => ?_)
       refine sv hF (v_move rfl) rfl ?_; clear hF a; intro a hF
       refine sc hF rfl rfl rfl en23 rfl (field8_ok B lg _ hS.inv) ?_; clear hF a; intro v w' a hv hF
       obtain ⟨fv, rfl, hf, hS'⟩ := hv
       obtain ⟨⟨wb, p⟩, hq⟩ : ∃ q, fq lg = q := ⟨_, rfl⟩
       have hq1 : (fq lg).1 = wb := by rw [hq]
       have hq2 : (fq lg).2 = p := by rw [hq]
       rw [hq] at hf
       rw [hq1, hq2] at hF
       clear hq1 hq2
       have hp : Prm wb p := hf.1
       replace hA := (hA.st hS').mono hS'.ext.size
       replace hB := (hB.st hS').mono hS'.ext.size
       replace hS := hS.trans hS'
       clear hS'
       refine sv6 hF (v_move rfl) (v_ext rfl rfl) (v_ext rfl rfl) (v_ext rfl rfl) (v_assign rfl) (v_assign rfl) rfl rfl rfl rfl rfl rfl ?_; clear hF a; intro a hF
       refine sv hF (v_assign rfl) rfl ?_; clear hF a; intro a hF
       refine WL_nil (hK _ _ ?_)
       clear hK K
       replace hF := hF.sub _ (c_ 12 rfl (c_ 64 rfl (c_ 63 rfl (c_ 62 rfl (c_ 59 rfl (c_ 61 rfl (c_ 60 rfl (c_ 48 rfl (c_ 47 rfl (c_ 46 rfl (c_ 45 rfl (c_ 1 rfl (c_ 2 rfl (c_ 0 rfl (c_ 7 rfl (c_ 8 rfl (c_ 9 rfl (c_ 11 rfl (n_)))))))))))))))))))
       refine W_sr rfl (fun K hK => ?_)
       refine sv3 hF (v_move rfl) (v_move rfl) (v_move rfl) rfl rfl rfl ?_; clear hF a; intro a hF
       rw [show Value.slice pa x.length ca = .slice pa (casts x).length ca by rw [casts_length], show Value.slice pb y.length cb = .slice pb (casts y).length cb by rw [casts_length]] at hF
       refine sc hF rfl rfl rfl en24 rfl (Of_ok B _ wb p hp fv _ _ _ _ (casts x) (casts y) _ hS.inv (Nat.le_refl _) hf (by rw [casts_length]; exact hA) (by rw [casts_length]; exact hB) ⟨by rw [casts_length]; exact Nat.le_trans (show _ ≤ 20 by omega) (by decide), by rw [casts_length]; exact Nat.le_trans (show _ ≤ 20 by omega) (by decide)⟩) ?_; clear hF a; intro v w' a hv hF
       obtain ⟨obX, uX, rfl, hoX, hS'⟩ := hv
       obtain ⟨sX, cX, rfl, hX⟩ := hoX.mat (by decide) (Nat.zero_le _)
       clear hoX
       replace hA := (hA.st hS').mono hS'.ext.size
       replace hB := (hB.st hS').mono hS'.ext.size
       replace hf := hf.st hS'
       replace hS := hS.trans hS'
       clear hS'
       refine sv5 hF (v_move rfl) (v_ext rfl rfl) (v_ext rfl rfl) (v_assign rfl) (v_assign rfl) rfl rfl rfl rfl rfl ?_; clear hF a; intro a hF
       refine WL_nil (hK _ _ ?_)
       clear hK K
       refine W_sr rfl (fun K hK => ?_)
       refine sv3 hF (v_move rfl) (v_move rfl) (v_move rfl) rfl rfl rfl ?_; clear hF a; intro a hF
       refine sc hF rfl rfl rfl en24 rfl (Of_ok B _ wb p hp fv _ _ _ _ (casts y) (casts x) _ hS.inv (Nat.le_refl _) hf (by rw [casts_length]; exact hB) (by rw [casts_length]; exact hA) ⟨by rw [casts_length]; exact Nat.le_trans (show _ ≤ 20 by omega) (by decide), by rw [casts_length]; exact Nat.le_trans (show _ ≤ 20 by omega) (by decide)⟩) ?_; clear hF a; intro v w' a hv hF
       obtain ⟨obY, uY, rfl, hoY, hS'⟩ := hv
       obtain ⟨sY, cY, rfl, hY⟩ := hoY.mat (by decide) (Nat.zero_le _)
       clear hoY
       replace hA := (hA.st hS').mono hS'.ext.size
       replace hB := (hB.st hS').mono hS'.ext.size
       replace hf := hf.st hS'
       replace hX := (hX.st hS').mono hS'.ext.size
       replace hS := hS.trans hS'
       clear hS'
       refine sv5 hF (v_move rfl) (v_ext rfl rfl) (v_ext rfl rfl) (v_assign rfl) (v_assign rfl) rfl rfl rfl rfl rfl ?_; clear hF a; intro a hF
       refine WL_nil (hK _ _ ?_)
       clear hK K
       refine W_seq ?_
       refine W_sr rfl (fun K hK => ?_)
       refine sv hF (v_move rfl) rfl ?_; clear hF a; intro a hF
       refine sb hF (v_neq rfl rfl) rfl ?_ ?_
       ·
        clear hF a; intro hc5 a hF
        try simp only [dcl] at hc5
        refine sv hF (v_move rfl) rfl ?_; clear hF a; intro a hF
        refine svn hF rfl rfl rfl ?_; clear hF a; intro a hF
        refine svn hF rfl rfl rfl ?_; clear hF a; intro a hF
        refine sv hF (v_pickT rfl rfl) rfl ?_; clear hF a; intro a hF
        refine WL_nil (hK _ _ ?_)
        clear hK K
        refine W_ifT hF rfl ?_
        refine W_sr rfl (fun K hK => ?_)
        refine sv2 hF (v_move rfl) (v_move rfl) rfl rfl ?_; clear hF a; intro a hF
        refine svg hF rfl ?_
        refine sv hF (v_move rfl) rfl ?_; clear hF a; intro a hF
        refine svg hF rfl ?_
        refine sv hF (v_move rfl) rfl ?_; clear hF a; intro a hF
        refine svg hF rfl ?_
        refine sv hF ((v_eql rfl rfl).as (congrArg Value.bool (decide_eq_true (ofM_turn hp)))) rfl ?_; clear hF a; intro a hF
        refine sv2 hF (v_pickT rfl rfl) (v_assign rfl) rfl rfl ?_; clear hF a; intro a hF
        refine WL_nil (hK _ _ ?_)
        clear hK K
        refine W_ret ?_
        refine ⟨_, _, hF, rfl, ?_⟩
        exact ⟨rfl, hS⟩
       ·
        clear hF a; intro hc5 a hF
        try simp only [dcl] at hc5
        refine sv hF (v_move rfl) rfl ?_; clear hF a; intro a hF
        refine svg hF rfl ?_
        refine sv hF (v_move rfl) rfl ?_; clear hF a; intro a hF
        refine svg hF rfl ?_
        refine sv hF (v_neq rfl rfl) rfl ?_; clear hF a; intro a hF
        refine sv hF (v_pickF rfl rfl) rfl ?_; clear hF a; intro a hF
        refine WL_nil (hK _ _ ?_)
        clear hK K
        refine W_if hF rfl (fun hc6 => ?_) (fun hc6 => ?_)
        ·
         skip
         try simp only [dcl] at hc6
         refine W_sr rfl (fun K hK => ?_)
         refine sv2 hF (v_move rfl) (v_move rfl) rfl rfl ?_; clear hF a; intro a hF
         refine svg hF rfl ?_
         refine sv hF (v_move rfl) rfl ?_; clear hF a; intro a hF
         refine svg hF rfl ?_
         refine sv hF (v_move rfl) rfl ?_; clear hF a; intro a hF
         refine svg hF rfl ?_
         refine sv hF ((v_eql rfl rfl).as (congrArg Value.bool (decide_eq_true (ofM_turn hp)))) rfl ?_; clear hF a; intro a hF
         refine sv2 hF (v_pickT rfl rfl) (v_assign rfl) rfl rfl ?_; clear hF a; intro a hF
         refine WL_nil (hK _ _ ?_)
         clear hK K
         refine W_ret ?_
         refine ⟨_, _, hF, rfl, ?_⟩
         exact ⟨rfl, hS⟩
        ·
         skip
         try simp only [dcl] at hc6
         refine W_skip ?_
         refine W_seq ?_
         have hyes : ofB wb (casts x) (casts y) = true := ofM_yes hp (Decidable.of_not_not (by assumption))
         have hyes2 : ofB wb (casts y) (casts x) = true := ofM_yes hp (Decidable.of_not_not (by assumption))
         obtain ⟨hob, hnd, hbd⟩ := ofB_is hyes
         rw [casts_length, casts_length] at hob
         rw [ofM_is hp hyes] at hX hF
         rw [ofM_is hp hyes2] at hY hF
         simp only [Option.getD_some] at hX hY
         rw [show Value.slice pa (casts x).length ca = .slice pa x.length ca by rw [casts_length], show Value.slice pb (casts y).length cb = .slice pb y.length cb by rw [casts_length]] at hF
         simp only [Option.getD_some, tab_length, casts_length] at hF
         rw [casts_length, casts_length] at hX hY
         refine W_sr rfl (fun K hK => ?_)
         refine sv hF (v_move rfl) rfl ?_; clear hF a; intro a hF
         refine sv hF (v_lenS rfl sl28 rfl) rfl ?_; clear hF a; intro a hF
         refine sv hF (v_move rfl) rfl ?_; clear hF a; intro a hF
         refine sv hF (v_lenS rfl sl37 rfl) rfl ?_; clear hF a; intro a hF
         refine sv hF ((v_neq rfl rfl).as (congrArg Value.bool (decide_eq_false (fun h => h rfl)))) rfl ?_; clear hF a; intro a hF
         refine sv hF (v_move rfl) rfl ?_; clear hF a; intro a hF
         refine svg hF rfl ?_
         refine sv hF (v_move rfl) rfl ?_; clear hF a; intro a hF
         refine svg hF rfl ?_
         refine sv hF (v_lenS rfl sl28 rfl) rfl ?_; clear hF a; intro a hF
         refine svg hF rfl ?_
         refine sv hF (v_move rfl) rfl ?_; clear hF a; intro a hF
         refine svg hF rfl ?_
         refine sv hF (v_lenS rfl sl37 rfl) rfl ?_; clear hF a; intro a hF
         refine svg hF rfl ?_
         refine sv hF ((v_neq rfl rfl).as (congrArg Value.bool (decide_eq_false (fun h => h rfl)))) rfl ?_; clear hF a; intro a hF
         refine sv hF (v_pickF rfl rfl) rfl ?_; clear hF a; intro a hF
         refine WL_nil (hK _ _ ?_)
         clear hK K
         refine W_ifF hF rfl ?_
         refine W_skip ?_
         refine W_seq ?_
         have h16 : 2 ^ wb ≤ 65536 := by rcases hp.w with h | h <;> rw [h] <;> decide
         obtain ⟨gX, oX, rfl⟩ := hX.at1 (by rw [tab_length]; omega)
         obtain ⟨gY, oY, rfl⟩ := hY.at1 (by rw [tab_length]; omega)
         obtain ⟨KT, hKT⟩ : ∃ K, K = w'.heap.size := ⟨_, rfl⟩
         rw [← hKT] at hX hY hA hB
         clear hKT
         refine W_sr rfl (fun K hK => ?_)
         refine sv hF (v_assign rfl) rfl ?_; clear hF a; intro a hF
         refine WL_nil (hK _ _ ?_)
         clear hK K
         refine W_block ?_
         refine W_loop (fun q3 a w3 => ∃ (i : Nat), Fr 172 [(7, .bool true), (8, .slice pa x.length ca), (9, .slice pb y.length cb), (12, fv), (15, .slice (some ⟨gX, oX, none⟩) x.length cX), (17, .slice (some ⟨gY, oY, none⟩) y.length cY), (19, .int .i64 (i : Int))] a ∧ (St FDx B w w3) ∧ (Fo FDx B w3 fv (some (wb, p))) ∧ (Row FDx B KT w3 (.slice pa x.length ca) (zints (casts x))) ∧ (Row FDx B KT w3 (.slice pb y.length cb) (zints (casts y))) ∧ (Mat FDx B KT w3 (some ⟨gX, oX, none⟩) cX (tab x.length y.length (ofT hp (casts x) (casts y)))) ∧ (Mat FDx B KT w3 (some ⟨gY, oY, none⟩) cY (tab y.length x.length (ofT hp (casts y) (casts x)))) ∧ (i ≤ x.length) ∧ (q3 + i = x.length)) (x.length) ?_ ?_
         ·
          skip
          exact ⟨0, hF.sub _ (c_ 7 rfl (c_ 8 rfl (c_ 9 rfl (c_ 12 rfl (c_ 15 rfl (c_ 17 rfl (c_ 19 rfl (n_)))))))), hS, hf, hA, hB, hX, hY, by omega, by omega⟩
         ·
          skip
          clear hF
          clear hS hf hA hB hX hY
          rintro q3 a w3 ⟨i, hF, hS, hf, hA, hB, hX, hY, hi3, hq3⟩
          refine W_seq ?_
          refine W_sr rfl (fun K hK => ?_)
          refine sv2 hF (v_move rfl) (v_move rfl) rfl rfl ?_; clear hF a; intro a hF
          refine sv hF (v_lenS rfl sl37 rfl) rfl ?_; clear hF a; intro a hF
          refine sv hF (v_lss rfl rfl) rfl ?_; clear hF a; intro a hF
          refine WL_nil (hK _ _ ?_)
          clear hK K
          refine W_if hF rfl (fun hc7 => ?_) (fun hc7 => ?_)
          ·
           skip
           try simp only [dcl] at hc7
           have hlt3 : i < x.length := by omega
           refine W_skip ?_
           refine W_seq ?_
           refine W_block ?_
           refine W_sr rfl (fun K hK => ?_)
           refine sv hF (v_assign rfl) rfl ?_; clear hF a; intro a hF
           refine WL_nil (hK _ _ ?_)
           clear hK K
           refine W_block ?_
           refine W_loop (fun q4 a w4 => ∃ (j : Nat), Fr 172 [(7, .bool true), (8, .slice pa x.length ca), (9, .slice pb y.length cb), (12, fv), (15, .slice (some ⟨gX, oX, none⟩) x.length cX), (17, .slice (some ⟨gY, oY, none⟩) y.length cY), (19, .int .i64 (i : Int)), (20, .int .i64 (j : Int))] a ∧ (St FDx B w w4) ∧ (Fo FDx B w4 fv (some (wb, p))) ∧ (Row FDx B KT w4 (.slice pa x.length ca) (zints (casts x))) ∧ (Row FDx B KT w4 (.slice pb y.length cb) (zints (casts y))) ∧ (Mat FDx B KT w4 (some ⟨gX, oX, none⟩) cX (tab x.length y.length (ofT hp (casts x) (casts y)))) ∧ (Mat FDx B KT w4 (some ⟨gY, oY, none⟩) cY (tab y.length x.length (ofT hp (casts y) (casts x)))) ∧ (j ≤ y.length) ∧ (q4 + j = y.length)) (y.length) ?_ ?_
           ·
            skip
            exact ⟨0, hF.sub _ (c_ 7 rfl (c_ 8 rfl (c_ 9 rfl (c_ 12 rfl (c_ 15 rfl (c_ 17 rfl (c_ 19 rfl (c_ 20 rfl (n_))))))))), hS, hf, hA, hB, hX, hY, by omega, by omega⟩
           ·
            skip
            clear hF
            clear hS hf hA hB hX hY
            rintro q4 a w4 ⟨j, hF, hS, hf, hA, hB, hX, hY, hj4, hq4⟩
            refine W_seq ?_
            refine W_sr rfl (fun K hK => ?_)
            refine sv2 hF (v_move rfl) (v_move rfl) rfl rfl ?_; clear hF a; intro a hF
            refine sv hF (v_lenS rfl sl37 rfl) rfl ?_; clear hF a; intro a hF
            refine sv hF (v_lss rfl rfl) rfl ?_; clear hF a; intro a hF
            refine WL_nil (hK _ _ ?_)
            clear hK K
            refine W_if hF rfl (fun hc8 => ?_) (fun hc8 => ?_)
            ·
             skip
             try simp only [dcl] at hc8
             have hlt4 : j < y.length := by omega
             obtain ⟨an, bn, hxa, hyb, han, hbn, hxl2, hx0⟩ := of_cell hnd hbd (show i < (casts x).length by rw [casts_length]; exact hlt3) (show j < (casts y).length by rw [casts_length]; exact hlt4)
             obtain ⟨ga, oa, hga, hka, -⟩ := hA.kat (zints_at hxa)
             obtain ⟨gb, ob_, hgb, hkb, -⟩ := hB.kat (zints_at hyb)
             obtain ⟨pX, cXr, hkX, hrX, -⟩ := hX.row2 (show (tab x.length y.length (ofT hp (casts x) (casts y)))[i]? = some (trow y.length (ofT hp (casts x) (casts y)) i) from tab_at hlt3)
             obtain ⟨pY, cYr, hkY, hrY, -⟩ := hY.row2 (show (tab y.length x.length (ofT hp (casts y) (casts x)))[j]? = some (trow x.length (ofT hp (casts y) (casts x)) j) from tab_at hlt4)
             obtain ⟨gz, oz, hgz, hkz, -⟩ := hrX.kat (zints_at (trow_at (m := y.length) (f := ofT hp (casts x) (casts y)) (i := i) hlt4))
             obtain ⟨gu, ou, hgu, hku, -⟩ := hrY.kat (zints_at (trow_at (m := x.length) (f := ofT hp (casts y) (casts x)) (i := j) hlt3))
             subst hgz
             subst hgu
             rw [trow_length] at hkX hkY
             have hone := turn_mul hp hxa hyb hxl2 hx0
             refine W_skip ?_
             refine W_seq ?_
             refine W_block ?_
             rw [hga, hgb] at hF
             refine W_sd (m := 56) rfl hmix hS.inv (fun K hK w1 hS' hh => ?_)
             replace hf := hf.st hS'
             replace hA := hA.st hS'
             replace hB := hB.st hS'
             replace hX := hX.st hS'
             replace hY := hY.st hS'
             replace hka := hka.st hS'
             replace hkb := hkb.st hS'
             replace hkX := hkX.st hS'
             replace hkY := hkY.st hS'
             replace hkz := hkz.st hS'
             replace hku := hku.st hS'
             replace hS := hS.trans hS'
             clear hS'
             clear hh
             refine a_v (i := 0) rfl (by kernel_rfl) hF (fun w2 hx => v_move rfl) rfl ?_; clear hF a; intro a hF
             refine a_v (i := 1) rfl (by kernel_rfl) hF (fun w2 hx => v_move rfl) rfl ?_; clear hF a; intro a hF
             refine a_v (i := 2) rfl (by kernel_rfl) hF (fun w2 hx => v_ixS sl28 rfl rfl (by omega) (by omega)) rfl ?_; clear hF a; intro a hF
             refine a_v (i := 3) rfl (by kernel_rfl) hF (fun w2 hx => v_load sc37 rfl (by rw [toNat_c]; exact KC.ld hkX (by assumption))) rfl ?_; clear hF a; intro a hF
             refine a_v (i := 4) rfl (by kernel_rfl) hF (fun w2 hx => v_lenS rfl sl37 rfl) rfl ?_; clear hF a; intro a hF
             refine a_v (i := 5) rfl (by kernel_rfl) hF (fun w2 hx => v_move rfl) rfl ?_; clear hF a; intro a hF
             refine a_v (i := 6) rfl (by kernel_rfl) hF (fun w2 hx => v_lenS rfl sl37 rfl) rfl ?_; clear hF a; intro a hF
             refine a_v (i := 7) rfl (by kernel_rfl) hF (fun w2 hx => (v_neq rfl rfl).as (congrArg Value.bool (decide_eq_false (fun h => h rfl)))) rfl ?_; clear hF a; intro a hF
             refine a_v (i := 8) rfl (by kernel_rfl) hF (fun w2 hx => v_move rfl) rfl ?_; clear hF a; intro a hF
             refine a_vg (i := 9) rfl (by kernel_rfl) hF rfl (fun w2 hx => v_move rfl) rfl ?_; clear hF a; intro a hF
             refine a_vg (i := 10) rfl (by kernel_rfl) hF rfl (fun w2 hx => v_move rfl) rfl ?_; clear hF a; intro a hF
             refine a_vg (i := 11) rfl (by kernel_rfl) hF rfl (fun w2 hx => v_ixS sl28 rfl rfl (by omega) (by omega)) rfl ?_; clear hF a; intro a hF
             refine a_vg (i := 12) rfl (by kernel_rfl) hF rfl (fun w2 hx => v_load sc37 rfl (by rw [toNat_c]; exact KC.ld hkY (by assumption))) rfl ?_; clear hF a; intro a hF
             refine a_vg (i := 13) rfl (by kernel_rfl) hF rfl (fun w2 hx => v_lenS rfl sl37 rfl) rfl ?_; clear hF a; intro a hF
             refine a_vg (i := 14) rfl (by kernel_rfl) hF rfl (fun w2 hx => v_move rfl) rfl ?_; clear hF a; intro a hF
             refine a_vg (i := 15) rfl (by kernel_rfl) hF rfl (fun w2 hx => v_lenS rfl sl37 rfl) rfl ?_; clear hF a; intro a hF
             refine a_vg (i := 16) rfl (by kernel_rfl) hF rfl (fun w2 hx => (v_neq rfl rfl).as (congrArg Value.bool (decide_eq_false (fun h => h rfl)))) rfl ?_; clear hF a; intro a hF
             refine a_v (i := 17) rfl (by kernel_rfl) hF (fun w2 hx => v_pickF rfl rfl) rfl ?_; clear hF a; intro a hF
             refine a_v (i := 18) rfl (by kernel_rfl) hF (fun w2 hx => v_move rfl) rfl ?_; clear hF a; intro a hF
             refine a_vg (i := 19) rfl (by kernel_rfl) hF rfl (fun w2 hx => v_move rfl) rfl ?_; clear hF a; intro a hF
             refine a_vg (i := 20) rfl (by kernel_rfl) hF rfl (fun w2 hx => v_move rfl) rfl ?_; clear hF a; intro a hF
             refine a_vg (i := 21) rfl (by kernel_rfl) hF rfl (fun w2 hx => v_ixS sl28 rfl rfl (by omega) (by omega)) rfl ?_; clear hF a; intro a hF
             refine a_vg (i := 22) rfl (by kernel_rfl) hF rfl (fun w2 hx => v_load sc37 rfl (by rw [toNat_c]; exact KC.ld hkX (by assumption))) rfl ?_; clear hF a; intro a hF
             refine a_vg (i := 23) rfl (by kernel_rfl) hF rfl (fun w2 hx => v_move rfl) rfl ?_; clear hF a; intro a hF
             refine a_vg (i := 24) rfl (by kernel_rfl) hF rfl (fun w2 hx => v_ixS sl37 rfl rfl (by omega) (by omega)) rfl ?_; clear hF a; intro a hF
             refine a_vg (i := 25) rfl (by kernel_rfl) hF rfl (fun w2 hx => v_load sc3 rfl (by rw [toNat_c]; exact KC.ld hkz (by assumption))) rfl ?_; clear hF a; intro a hF
             refine a_vg (i := 26) rfl (by kernel_rfl) hF rfl (fun w2 hx => v_move rfl) rfl ?_; clear hF a; intro a hF
             refine a_vg (i := 27) rfl (by kernel_rfl) hF rfl (fun w2 hx => v_move rfl) rfl ?_; clear hF a; intro a hF
             refine a_vg (i := 28) rfl (by kernel_rfl) hF rfl (fun w2 hx => v_ixS sl28 rfl rfl (by omega) (by omega)) rfl ?_; clear hF a; intro a hF
             refine a_vg (i := 29) rfl (by kernel_rfl) hF rfl (fun w2 hx => v_load sc37 rfl (by rw [toNat_c]; exact KC.ld hkY (by assumption))) rfl ?_; clear hF a; intro a hF
             refine a_vg (i := 30) rfl (by kernel_rfl) hF rfl (fun w2 hx => v_move rfl) rfl ?_; clear hF a; intro a hF
             refine a_vg (i := 31) rfl (by kernel_rfl) hF rfl (fun w2 hx => v_ixS sl37 rfl rfl (by omega) (by omega)) rfl ?_; clear hF a; intro a hF
             refine a_vg (i := 32) rfl (by kernel_rfl) hF rfl (fun w2 hx => v_load sc3 rfl (by rw [toNat_c]; exact KC.ld hku (by assumption))) rfl ?_; clear hF a; intro a hF
             refine a_vg (i := 33) rfl (by kernel_rfl) hF rfl (fun w2 hx => (v_neq rfl rfl).as (congrArg Value.bool (decide_eq_false (fun h => h (by rw [ofT_turn]))))) rfl ?_; clear hF a; intro a hF
             refine a_v (i := 34) rfl (by kernel_rfl) hF (fun w2 hx => v_pickF rfl rfl) rfl ?_; clear hF a; intro a hF
             refine a_v (i := 35) rfl (by kernel_rfl) hF (fun w2 hx => v_move rfl) rfl ?_; clear hF a; intro a hF
             refine a_vg (i := 36) rfl (by kernel_rfl) hF rfl (fun w2 hx => v_move rfl) rfl ?_; clear hF a; intro a hF
             refine a_vg (i := 37) rfl (by kernel_rfl) hF rfl (fun w2 hx => v_move rfl) rfl ?_; clear hF a; intro a hF
             refine a_vg (i := 38) rfl (by kernel_rfl) hF rfl (fun w2 hx => v_move rfl) rfl ?_; clear hF a; intro a hF
             refine a_vg (i := 39) rfl (by kernel_rfl) hF rfl (fun w2 hx => v_ixS sl28 rfl rfl (by omega) (by omega)) rfl ?_; clear hF a; intro a hF
             refine a_vg (i := 40) rfl (by kernel_rfl) hF rfl (fun w2 hx => v_load sc37 rfl (by rw [toNat_c]; exact KC.ld hkX (by assumption))) rfl ?_; clear hF a; intro a hF
             refine a_vg (i := 41) rfl (by kernel_rfl) hF rfl (fun w2 hx => v_move rfl) rfl ?_; clear hF a; intro a hF
             refine a_vg (i := 42) rfl (by kernel_rfl) hF rfl (fun w2 hx => v_ixS sl37 rfl rfl (by omega) (by omega)) rfl ?_; clear hF a; intro a hF
             refine a_vg (i := 43) rfl (by kernel_rfl) hF rfl (fun w2 hx => v_load sc3 rfl (by rw [toNat_c]; exact KC.ld hkz (by assumption))) rfl ?_; clear hF a; intro a hF
             refine a_vg (i := 44) rfl (by kernel_rfl) hF rfl (fun w2 hx => v_move rfl) rfl ?_; clear hF a; intro a hF
             refine a_vg (i := 45) rfl (by kernel_rfl) hF rfl (fun w2 hx => v_move rfl) rfl ?_; clear hF a; intro a hF
             refine a_vg (i := 46) rfl (by kernel_rfl) hF rfl (fun w2 hx => v_ixS sl37 rfl rfl (by omega) (by omega)) rfl ?_; clear hF a; intro a hF
             refine a_vg (i := 47) rfl (by kernel_rfl) hF rfl (fun w2 hx => v_load sc3 rfl (by rw [toNat_c]; exact KC.ld hka (by assumption))) rfl ?_; clear hF a; intro a hF
             refine a_vg (i := 48) rfl (by kernel_rfl) hF rfl (fun w2 hx => v_move rfl) rfl ?_; clear hF a; intro a hF
             refine a_vg (i := 49) rfl (by kernel_rfl) hF rfl (fun w2 hx => v_move rfl) rfl ?_; clear hF a; intro a hF
             refine a_vg (i := 50) rfl (by kernel_rfl) hF rfl (fun w2 hx => v_ixS sl37 rfl rfl (by omega) (by omega)) rfl ?_; clear hF a; intro a hF
             refine a_vg (i := 51) rfl (by kernel_rfl) hF rfl (fun w2 hx => v_load sc3 rfl (by rw [toNat_c]; exact KC.ld hkb (by assumption))) rfl ?_; clear hF a; intro a hF
             refine a_vg (i := 52) rfl (by kernel_rfl) hF rfl (fun w2 hx => v_xorN rfl rfl (fits_i64 (by omega)) (fits_i64 (by omega))) rfl ?_; clear hF a; intro a hF
             refine a_e (i := 53) rfl (by kernel_rfl) ?_
             refine svg hF rfl ?_
             refine sc hF rfl rfl rfl en29 rfl (Mul_gf B (some (wb, p)) fv ((ofT hp (casts x) (casts y) i j : Nat) : Int) ((an ^^^ bn : Nat) : Int) _ hS.inv hf) ?_; clear hF a; intro v w' a hv hF
             obtain ⟨rfl, hS'⟩ := hv
             refine WL_nil ⟨hS'.ext, ?_⟩
             replace hf := hf.st hS'
             replace hA := hA.st hS'
             replace hB := hB.st hS'
             replace hX := hX.st hS'
             replace hY := hY.st hS'
             replace hka := hka.st hS'
             replace hkb := hkb.st hS'
             replace hkX := hkX.st hS'
             replace hkY := hkY.st hS'
             replace hkz := hkz.st hS'
             replace hku := hku.st hS'
             replace hS := hS.trans hS'
             clear hS'
             rw [hone] at hF
             refine a_vg (i := 54) rfl (by kernel_rfl) hF rfl (fun w2 hx => (v_neq rfl rfl).as (congrArg Value.bool (decide_eq_false (fun h => h rfl)))) rfl ?_; clear hF a; intro a hF
             refine a_v (i := 55) rfl (by kernel_rfl) hF (fun w2 hx => v_pickF rfl rfl) rfl ?_; clear hF a; intro a hF
             refine a_done (by kernel_rfl) (hK _ _ ?_)
             clear hK K
             rw [← hga, ← hgb] at hF
             refine W_ifF hF rfl ?_
             refine W_skip ?_
             refine W_reg rfl (fun K hK => ?_)
             refine sv hF (v_move rfl) rfl ?_; clear hF a; intro a hF
             refine sv hF (v_addI rfl rfl (by omega)) rfl ?_; clear hF a; intro a hF
             refine sv hF (v_assign rfl) rfl ?_; clear hF a; intro a hF
             refine WL_nil (hK _ _ ?_)
             clear hK K
             exact ⟨q4 - 1, by omega, j + 1, hF.sub _ (c_ 7 rfl (c_ 8 rfl (c_ 9 rfl (c_ 12 rfl (c_ 15 rfl (c_ 17 rfl (c_ 19 rfl (c_ 20 rfl (n_))))))))), hS, hf, hA, hB, hX, hY, by omega, by omega⟩
            ·
             skip
             try simp only [dcl] at hc8
             refine W_exit rfl ?_
             refine W_reg rfl (fun K hK => ?_)
             refine sv hF (v_move rfl) rfl ?_; clear hF a; intro a hF
             refine sv hF (v_addI rfl rfl (by omega)) rfl ?_; clear hF a; intro a hF
             refine sv hF (v_assign rfl) rfl ?_; clear hF a; intro a hF
             refine WL_nil (hK _ _ ?_)
             clear hK K
             exact ⟨q3 - 1, by omega, i + 1, hF.sub _ (c_ 7 rfl (c_ 8 rfl (c_ 9 rfl (c_ 12 rfl (c_ 15 rfl (c_ 17 rfl (c_ 19 rfl (n_)))))))), hS, hf, hA, hB, hX, hY, by omega, by omega⟩
          ·
           skip
           try simp only [dcl] at hc7
           refine W_exit rfl ?_
           refine W_sr rfl (fun K hK => ?_)
           refine sv2 hF (v_move rfl) (v_assign rfl) rfl rfl ?_; clear hF a; intro a hF
           refine WL_nil (hK _ _ ?_)
           clear hK K
           refine W_ret ?_
           refine ⟨_, _, hF, rfl, ?_⟩
           exact ⟨rfl, hS⟩

end Go.Proofs.Ytaeljbdpjiciaaa
