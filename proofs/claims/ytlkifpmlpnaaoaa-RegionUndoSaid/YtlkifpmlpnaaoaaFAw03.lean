/- What the statements of layer 3 call first. -/
import Derived.Test.YtlkifpmlpnaaoaaFReg
import Derived.Test.YtlkifpmlpnaaoaaFSame03
import Derived.Test.YtlkifpmlpnaaoaaGRegM
set_option linter.unusedVariables false
set_option linter.unusedSimpArgs false
namespace Go.Proofs.Ytlkifpmlpnaaoaa
open Go Go.Gam


namespace FxFAw03
theorem en16 : Ent Try.prog 16 := ent Try.func16 (by kernel_rfl) (by kernel_rfl)
theorem en17 : Ent Try.prog 17 := ent Try.func17 (by kernel_rfl) (by kernel_rfl)
theorem en26 : Ent Try.prog 26 := ent Try.func26 (by kernel_rfl) (by kernel_rfl)
theorem en52 : Ent Try.prog 52 := ent Try.func52 (by kernel_rfl) (by kernel_rfl)
theorem sc3 : Scalar Try.prog 3 := ⟨_, Try.underlying3, by simp, by simp⟩
theorem sl22 : Sl Try.prog 22 5 (.int .u8 0) 1 := sl_of Try.underlying22 rfl (by kernel_rfl)
theorem sl23 : Sl Try.prog 23 3 (.int .i64 0) 8 := sl_of Try.underlying23 rfl (by kernel_rfl)
end FxFAw03
open FxFAw03

theorem Same_t (B M : Nat) (sx sy : Option Addr) (cx cy : Nat) (x y : List Nat) (w : World) (hx : Row FDx B M w (.slice sx x.length cx) (byt x)) (hy : Row FDx B M w (.slice sy y.length cy) (byt y)) (hx8 : ∀ u ∈ x, u < 256) (hy8 : ∀ u ∈ y, u < 256) (e : x = y) :
    Ret Try.prog 23 [.slice sx x.length cx, .slice sy y.length cy] w fun v w' => v = .bool true ∧ w' = w :=
  (Same_ok B M sx sy cx cy x y w hx hy hx8 hy8).mono fun v w' h => by rw [decide_eq_true e] at h; exact h
theorem Intsn_t (B M : Nat) (sx sy : Option Addr) (cx cy : Nat) (x y : List Nat) (w : World) (hI : Inv FDx B w) (hx : Row FDx B M w (.slice sx x.length cx) (ints x)) (hy : Row FDx B M w (.slice sy y.length cy) (ints y)) (hl : x.length < 1000000) (e : x = y) :
    Ret Try.prog 22 [.slice sx x.length cx, .slice sy y.length cy] w fun v w' => v = .bool true ∧ St FDx B w w' := by
  have h1 : (x.map fun (n : Nat) => (n : Int)).length = x.length := by simp
  have h2 : (y.map fun (n : Nat) => (n : Int)).length = y.length := by simp
  rw [ints_zints, ← h1] at hx
  rw [ints_zints, ← h2] at hy
  rw [← h1, ← h2]
  exact (Ints_ok B M sx sy cx cy _ _ w hI hx hy (by omega)).mono fun v w' h => by rw [decide_eq_true (by rw [e])] at h; exact h

set_option maxRecDepth 100000 in
set_option maxHeartbeats 1000000 in
theorem field3_ok (B : Nat) (lg : Bool) (w : World) (hI : Inv FDx B w) : Ret Try.prog 16 [.bool lg] w fun v w' => ∃ fv, v = .tuple #[fv, .int .i64 ((fq lg).1 : Int), .int .u32 ((fq lg).2 : Int)] ∧ Fo FDx B w' fv (some (fq lg)) ∧ St FDx B w w' := by
  refine enter3 8 [(0, .bool lg)] 2 3 4 Try.func16 rfl rfl rfl rfl rfl ?_; intro a hF
  have hS := St.refl hI
  refine W_sr rfl (fun K hK => ?_)
  refine sv hF (v_assign rfl) rfl ?_; clear hF a; intro a hF
  refine sv hF (v_assign rfl) rfl ?_; clear hF a; intro a hF
  refine sv hF (v_assign rfl) rfl ?_; clear hF a; intro a hF
  refine WL_nil (hK _ _ ?_)
  clear hK K
  refine W_seq ?_
  refine W_sr rfl (fun K hK => ?_)
  refine sv hF (v_move rfl) rfl ?_; clear hF a; intro a hF
  refine WL_nil (hK _ _ ?_)
  clear hK K
  replace hF := hF.sub _ (c_ 5 rfl (c_ 4 rfl (c_ 3 rfl (c_ 2 rfl (n_)))))
  refine W_if hF rfl (fun hc1 => ?_) (fun hc1 => ?_)
  · skip
    try simp only [decide_eq_true_eq, decide_eq_false_iff_not, Bool.not_eq_true', Bool.not_eq_false', Bool.not_true, Bool.not_false] at hc1
    obtain rfl : lg = true := by assumption
    refine W_sr rfl (fun K hK => ?_)
    refine sc hF rfl rfl rfl en52 rfl (New_ok B 16 69643 _ hS.inv (by decide) (by decide)) ?_; clear hF a; intro v w' a hv hF
    obtain ⟨hf, hS'⟩ := hv
    obtain ⟨fv, rfl⟩ : ∃ x, x = v := ⟨_, rfl⟩
    rw [show newF 16 69643 = some (16, 69643) from newF_p prm_69643] at hf
    replace hS := hS.trans hS'
    clear hS'
    refine sv hF (v_assign rfl) rfl ?_; clear hF a; intro a hF
    refine sv hF (v_assign rfl) rfl ?_; clear hF a; intro a hF
    refine sv hF (v_assign rfl) rfl ?_; clear hF a; intro a hF
    refine WL_nil (hK _ _ ?_)
    clear hK K
    replace hF := hF.sub _ (c_ 4 rfl (c_ 3 rfl (c_ 2 rfl (n_))))
    refine W_ret ?_
    refine ⟨_, _, _, _, hF, rfl, rfl, rfl, ?_⟩
    exact ⟨fv, rfl, hf, hS⟩
  · skip
    try simp only [decide_eq_true_eq, decide_eq_false_iff_not, Bool.not_eq_true', Bool.not_eq_false', Bool.not_true, Bool.not_false] at hc1
    obtain rfl : lg = false := by assumption
    refine W_skip ?_
    refine W_sr rfl (fun K hK => ?_)
    refine sc hF rfl rfl rfl en52 rfl (New_ok B 8 285 _ hS.inv (by decide) (by decide)) ?_; clear hF a; intro v w' a hv hF
    obtain ⟨hf, hS'⟩ := hv
    obtain ⟨fv, rfl⟩ : ∃ x, x = v := ⟨_, rfl⟩
    rw [show newF 8 285 = some (8, 285) from newF_p prm_285] at hf
    replace hS := hS.trans hS'
    clear hS'
    refine sv hF (v_assign rfl) rfl ?_; clear hF a; intro a hF
    refine sv hF (v_assign rfl) rfl ?_; clear hF a; intro a hF
    refine sv hF (v_assign rfl) rfl ?_; clear hF a; intro a hF
    refine WL_nil (hK _ _ ?_)
    clear hK K
    replace hF := hF.sub _ (c_ 4 rfl (c_ 3 rfl (c_ 2 rfl (n_))))
    refine W_ret ?_
    refine ⟨_, _, _, _, hF, rfl, rfl, rfl, ?_⟩
    exact ⟨fv, rfl, hf, hS⟩

set_option maxRecDepth 100000 in
set_option maxHeartbeats 1000000 in
theorem was3_some (w : World) : Ret Try.prog 21 [.int .i64 0, .bool true] w fun v w' => v = .bool true ∧ w' = w := by
  refine enter 18 [(0, .int .i64 0), (1, .bool true)] 4 Try.func21 rfl rfl rfl rfl rfl ?_; intro a hF
  refine W_sr rfl (fun K hK => ?_)
  refine sv hF (v_assign rfl) rfl ?_; clear hF a; intro a hF
  refine WL_nil (hK _ _ ?_)
  clear hK K
  refine W_sr rfl (fun K hK => ?_)
  refine sv hF (v_move rfl) rfl ?_; clear hF a; intro a hF
  refine sv hF ((v_eql rfl rfl).as (congrArg Value.bool (decide_eq_true (rfl)))) rfl ?_; clear hF a; intro a hF
  refine sv hF (v_move rfl) rfl ?_; clear hF a; intro a hF
  refine svg hF rfl ?_
  refine sv hF (v_move rfl) rfl ?_; clear hF a; intro a hF
  refine sv hF (v_pickT rfl rfl) rfl ?_; clear hF a; intro a hF
  refine sv hF (v_move rfl) rfl ?_; clear hF a; intro a hF
  refine svn hF rfl rfl rfl ?_; clear hF a; intro a hF
  refine svn hF rfl rfl rfl ?_; clear hF a; intro a hF
  refine svn hF rfl rfl rfl ?_; clear hF a; intro a hF
  refine svu hF rfl rfl ?_; clear hF a; intro a hF
  refine svu hF rfl rfl ?_; clear hF a; intro a hF
  refine svn hF rfl rfl rfl ?_; clear hF a; intro a hF
  refine sv hF (v_pickT rfl rfl) rfl ?_; clear hF a; intro a hF
  refine sv hF (v_assign rfl) rfl ?_; clear hF a; intro a hF
  refine WL_nil (hK _ _ ?_)
  clear hK K
  replace hF := hF.sub _ (c_ 4 rfl (n_))
  refine W_ret ?_
  refine ⟨_, _, hF, rfl, ?_⟩
  exact ⟨rfl, rfl⟩

set_option maxRecDepth 100000 in
set_option maxHeartbeats 1000000 in
theorem was3_none (w : World) : Ret Try.prog 21 [.int .i64 1, .bool false] w fun v w' => v = .bool true ∧ w' = w := by
  refine enter 18 [(0, .int .i64 1), (1, .bool false)] 4 Try.func21 rfl rfl rfl rfl rfl ?_; intro a hF
  refine W_sr rfl (fun K hK => ?_)
  refine sv hF (v_assign rfl) rfl ?_; clear hF a; intro a hF
  refine WL_nil (hK _ _ ?_)
  clear hK K
  refine W_sr rfl (fun K hK => ?_)
  refine sv hF (v_move rfl) rfl ?_; clear hF a; intro a hF
  refine sv hF ((v_eql rfl rfl).as (congrArg Value.bool (decide_eq_false (by decide)))) rfl ?_; clear hF a; intro a hF
  refine sv hF (v_move rfl) rfl ?_; clear hF a; intro a hF
  refine svn hF rfl rfl rfl ?_; clear hF a; intro a hF
  refine sv hF (v_pickF rfl rfl) rfl ?_; clear hF a; intro a hF
  refine sv hF (v_move rfl) rfl ?_; clear hF a; intro a hF
  refine svg hF rfl ?_
  refine sv hF (v_move rfl) rfl ?_; clear hF a; intro a hF
  refine svg hF rfl ?_
  refine sv hF ((v_eql rfl rfl).as (congrArg Value.bool (decide_eq_true (rfl)))) rfl ?_; clear hF a; intro a hF
  refine svg hF rfl ?_
  refine sv hF (v_move rfl) rfl ?_; clear hF a; intro a hF
  refine svg hF rfl ?_
  refine sv hF (v_move rfl) rfl ?_; clear hF a; intro a hF
  refine svg hF rfl ?_
  refine sv hF (v_not rfl) rfl ?_; clear hF a; intro a hF
  refine svg hF rfl ?_
  refine sv hF (v_pickT rfl rfl) rfl ?_; clear hF a; intro a hF
  refine sv hF (v_pickF rfl rfl) rfl ?_; clear hF a; intro a hF
  refine sv hF (v_assign rfl) rfl ?_; clear hF a; intro a hF
  refine WL_nil (hK _ _ ?_)
  clear hK K
  replace hF := hF.sub _ (c_ 4 rfl (n_))
  refine W_ret ?_
  refine ⟨_, _, hF, rfl, ?_⟩
  exact ⟨rfl, rfl⟩

theorem was3_ok {α : Type} (s : Option α) (b : Bool) (w : World) (h : b = s.isSome) : Ret Try.prog 21 [.int .i64 (errV s), .bool b] w fun v w' => v = .bool true ∧ w' = w := by
  subst h
  cases s with
  | none => exact was3_none w
  | some x => exact was3_some w

theorem aw3_words : rwords (some (16, 69643)) [1, 2] = some [513] := rfl
theorem aw3_mul : rmul (some (16, 69643)) 1 [1, 2] = some [1, 2] := by_one prm_69643 rfl (by decide)

set_option maxRecDepth 100000 in
set_option maxHeartbeats 1000000 in
theorem aw03_ok (B : Nat) (w : World) (hI : Inv FDx B w) : Ret Try.prog 15 [] w fun v w' => v = .bool true ∧ St FDx B w w' := by
  refine enter 47 [] 0 Try.func15 rfl rfl rfl rfl rfl ?_; intro a hF
  have hS := St.refl hI
  refine W_sr rfl (fun K hK => ?_)
  refine sv hF (v_assign rfl) rfl ?_; clear hF a; intro a hF
  refine WL_nil (hK _ _ ?_)
  clear hK K
  refine W_sr rfl (fun K hK => ?_)
  refine sc hF rfl rfl rfl en16 rfl (field3_ok B true _ hS.inv) ?_; clear hF a; intro v w' a hv hF
  obtain ⟨fv, rfl, hf, hS'⟩ := hv
  rw [show fq true = (16, 69643) from rfl] at hf
  replace hS := hS.trans hS'
  clear hS'
  refine sv hF (v_move rfl) rfl ?_; clear hF a; intro a hF
  refine sv hF (v_ext rfl rfl) rfl ?_; clear hF a; intro a hF
  refine sv hF (v_ext rfl rfl) rfl ?_; clear hF a; intro a hF
  refine sv hF (v_ext rfl rfl) rfl ?_; clear hF a; intro a hF
  refine sv hF (v_assign rfl) rfl ?_; clear hF a; intro a hF
  refine sv hF (v_assign rfl) rfl ?_; clear hF a; intro a hF
  refine sv hF (v_assign rfl) rfl ?_; clear hF a; intro a hF
  refine WL_nil (hK _ _ ?_)
  clear hK K
  replace hF := hF.sub _ (c_ 1 rfl (c_ 0 rfl (n_)))
  refine W_sr rfl (fun K hK => ?_)
  refine sv hF (v_move rfl) rfl ?_; clear hF a; intro a hF
  refine s_bs (D := FDx) (B := B) hF sl22 rfl rfl (by decide) (by simp [Value.cells]) (by decide) hS.inv rfl ?_; clear hF a; intro w' a hm hI' hb hF
  replace hf := hf.mb hm
  replace hS := hS.mb0 hm
  clear hm hI'
  have hbl : ([1, 2] : List Nat).length = 2 := rfl
  refine sc hF rfl rfl rfl en17 rfl (Words_ok B _ (some (16, 69643)) fv _ _ [1, 2] _ hf hS.inv ((hb.cast (ys := byt [1, 2]) rfl).row (by decide)) (Nat.le_refl _) (by decide) (by decide)) ?_; clear hF a; intro v w' a hv hF
  obtain ⟨sX, obX, rfl, hOX, hS'⟩ := hv
  rw [aw3_words] at hOX hF
  try simp only [Option.getD_some, Option.getD_none] at hOX
  obtain ⟨aX, cX, rfl⟩ := hOX.shape
  have hX := hOX.row (by decide)
  rw [ints_length] at hX hF
  clear hOX
  replace hf := hf.st hS'
  replace hS := hS.trans hS'
  clear hS'
  refine sv hF (v_move rfl) rfl ?_; clear hF a; intro a hF
  refine sv hF (v_ext rfl rfl) rfl ?_; clear hF a; intro a hF
  refine sv hF (v_ext rfl rfl) rfl ?_; clear hF a; intro a hF
  refine sv hF (v_assign rfl) rfl ?_; clear hF a; intro a hF
  refine sv hF (v_assign rfl) rfl ?_; clear hF a; intro a hF
  refine WL_nil (hK _ _ ?_)
  clear hK K
  replace hF := hF.sub _ (c_ 5 rfl (c_ 4 rfl (c_ 1 rfl (c_ 0 rfl (n_)))))
  refine W_sr rfl (fun K hK => ?_)
  refine sv hF (v_move rfl) rfl ?_; clear hF a; intro a hF
  refine s_bs (D := FDx) (B := B) hF sl22 rfl rfl (by decide) (by simp [Value.cells]) (by decide) hS.inv rfl ?_; clear hF a; intro w' a hm hI' hb hF
  replace hf := hf.mb hm
  replace hX := (hX.mb hm (fun _ h => by cases h)).mono hm.size
  replace hS := hS.mb0 hm
  clear hm hI'
  refine sc hF rfl rfl rfl en26 rfl (Mul_reg B _ (some (16, 69643)) fv 1 _ _ [1, 2] _ hf hS.inv ((hb.cast (ys := byt [1, 2]) rfl).row (by decide)) (Nat.le_refl _) (by decide) (by decide)) ?_; clear hF a; intro v w' a hv hF
  obtain ⟨sY, obY, rfl, hOY, hS'⟩ := hv
  rw [aw3_mul] at hOY hF
  try simp only [Option.getD_some, Option.getD_none] at hOY
  obtain ⟨aY, cY, rfl⟩ := hOY.shape
  have hY := hOY.row (by decide)
  rw [byt_length] at hY hF
  clear hOY
  replace hf := hf.st hS'
  replace hX := (hX.st hS').mono hS'.ext.size
  replace hS := hS.trans hS'
  clear hS'
  refine sv hF (v_move rfl) rfl ?_; clear hF a; intro a hF
  refine sv hF (v_ext rfl rfl) rfl ?_; clear hF a; intro a hF
  refine sv hF (v_ext rfl rfl) rfl ?_; clear hF a; intro a hF
  refine sv hF (v_assign rfl) rfl ?_; clear hF a; intro a hF
  refine sv hF (v_assign rfl) rfl ?_; clear hF a; intro a hF
  refine WL_nil (hK _ _ ?_)
  clear hK K
  replace hF := hF.sub _ (c_ 7 rfl (c_ 6 rfl (c_ 5 rfl (c_ 4 rfl (c_ 0 rfl (n_))))))
  obtain ⟨-, gx, ox, hgx, hcx⟩ := hX.at (ints_at (l := [513]) (i := 0) rfl)
  subst hgx
  refine W_sr rfl (fun K hK => ?_)
  refine sv hF (v_move rfl) rfl ?_; clear hF a; intro a hF
  refine sv hF ((v_eql rfl rfl).as (congrArg Value.bool (decide_eq_true (rfl)))) rfl ?_; clear hF a; intro a hF
  refine sv hF (v_move rfl) rfl ?_; clear hF a; intro a hF
  refine svg hF rfl ?_
  refine sv hF (v_move rfl) rfl ?_; clear hF a; intro a hF
  refine svg hF rfl ?_
  refine sv hF ((v_eql rfl rfl).as (congrArg Value.bool (decide_eq_true (rfl)))) rfl ?_; clear hF a; intro a hF
  refine sv hF (v_pickT rfl rfl) rfl ?_; clear hF a; intro a hF
  refine sv hF (v_move rfl) rfl ?_; clear hF a; intro a hF
  refine svg hF rfl ?_
  refine sv hF (v_move rfl) rfl ?_; clear hF a; intro a hF
  refine svg hF rfl ?_
  refine sv hF (v_lenS rfl sl23 rfl) rfl ?_; clear hF a; intro a hF
  refine svg hF rfl ?_
  refine sv hF ((v_eql rfl rfl).as (congrArg Value.bool (decide_eq_true (rfl)))) rfl ?_; clear hF a; intro a hF
  refine sv hF (v_pickT rfl rfl) rfl ?_; clear hF a; intro a hF
  refine sv hF (v_move rfl) rfl ?_; clear hF a; intro a hF
  refine svg hF rfl ?_
  refine sv hF (v_move rfl) rfl ?_; clear hF a; intro a hF
  refine svg hF rfl ?_
  refine sv hF (v_ixS sl23 rfl rfl (by decide) (by decide)) rfl ?_; clear hF a; intro a hF
  refine svg hF rfl ?_
  refine sv hF (v_load sc3 rfl hcx) rfl ?_; clear hF a; intro a hF
  refine svg hF rfl ?_
  refine sv hF ((v_eql rfl rfl).as (congrArg Value.bool (decide_eq_true (rfl)))) rfl ?_; clear hF a; intro a hF
  refine sv hF (v_pickT rfl rfl) rfl ?_; clear hF a; intro a hF
  refine sv hF (v_move rfl) rfl ?_; clear hF a; intro a hF
  refine svg hF rfl ?_
  refine sv hF (v_move rfl) rfl ?_; clear hF a; intro a hF
  refine svg hF rfl ?_
  refine sv hF (v_bstr Try.underlying22 Try.underlying5 Try.underlying9 rfl hY) rfl ?_; clear hF a; intro a hF
  refine svg hF rfl ?_
  refine sv hF ((v_eqlS rfl rfl).as (congrArg Value.bool ((MapKept.bytes_beq _ _).2 rfl))) rfl ?_; clear hF a; intro a hF
  refine sv hF (v_pickT rfl rfl) rfl ?_; clear hF a; intro a hF
  refine sv hF (v_assign rfl) rfl ?_; clear hF a; intro a hF
  refine WL_nil (hK _ _ ?_)
  clear hK K
  replace hF := hF.sub _ (c_ 0 rfl (n_))
  refine W_ret ?_
  refine ⟨_, _, hF, rfl, ?_⟩
  exact ⟨rfl, hS⟩

end Go.Proofs.Ytlkifpmlpnaaoaa
