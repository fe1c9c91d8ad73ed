/- The statement NamesOnes, walked: it returns true. -/
import Derived.Test.YtkoiolamnnmokaaDoorFAw15
set_option linter.unusedVariables false
set_option linter.unusedSimpArgs false
namespace Go.Proofs.YtkoiolamnnmokaaDoor
open Go Go.Gam


namespace FxFNamesOnes
theorem en9 : Ent Tryd.prog 9 := ent Tryd.func9 (by kernel_rfl) (by kernel_rfl)
theorem en13 : Ent Tryd.prog 13 := ent Tryd.func13 (by kernel_rfl) (by kernel_rfl)
theorem en14 : Ent Tryd.prog 14 := ent Tryd.func14 (by kernel_rfl) (by kernel_rfl)
theorem en15 : Ent Tryd.prog 15 := ent Tryd.func15 (by kernel_rfl) (by kernel_rfl)
theorem ar33 : ArrOf Tryd.prog 33 2 := ar_of Tryd.underlying33 (by kernel_rfl)
theorem fa35_0 : FieldFact Tryd.prog 35 0 0 := ff_of (sz := 0) Tryd.underlying35 (by kernel_rfl)
theorem fa35_1 : FieldFact Tryd.prog 35 1 1 := ff_of (sz := 0) Tryd.underlying35 (by kernel_rfl)
theorem fa35_2 : FieldFact Tryd.prog 35 2 2 := ff_of (sz := 0) Tryd.underlying35 (by kernel_rfl)
theorem fa42_3 : FieldFact Tryd.prog 42 3 3 := ff_of (sz := 0) Tryd.underlying42 (by kernel_rfl)
theorem sc3 : Scalar Tryd.prog 3 := ⟨_, Tryd.underlying3, by simp, by simp⟩
theorem sc4 : Scalar Tryd.prog 4 := ⟨_, Tryd.underlying4, by simp, by simp⟩
theorem sc5 : Scalar Tryd.prog 5 := ⟨_, Tryd.underlying5, by simp, by simp⟩
theorem sc9 : Scalar Tryd.prog 9 := ⟨_, Tryd.underlying9, by simp, by simp⟩
end FxFNamesOnes
open FxFNamesOnes

theorem v_eqlP3 {P : Program} {F : Fs} {T t s : TypeId} {w : World} {x y : Operand} {f0 f1 f2 : Field} {a b c a' b' c' : Int}
    (hu : P.underlying t = some (.struct #[f0, f1, f2])) (hp : P.stoodInHeld t = false) (hm : P.eqGuardType P.depth t = false) (h0 : P.underlying f0.type = some (.int .i64)) (h1 : P.underlying f1.type = some (.int .i64)) (h2 : P.underlying f2.type = some (.int .i64))
    (hn : f0.name ≠ "_" ∧ f1.name ≠ "_" ∧ f2.name ≠ "_") (o0 : f0.offset = 0) (o1 : f1.offset = 1) (o2 : f2.offset = 2) (hx : ev F x = some (.agg #[.int .i64 a, .int .i64 b, .int .i64 c])) (hy : ev F y = some (.agg #[.int .i64 a', .int .i64 b', .int .i64 c'])) :
    Val P (.binOp .eql t x y s) T F w (.bool (decide (a = a' ∧ b = b' ∧ c = c'))) :=
  fun ρ h d p af g => by
    have hfo : P.fieldsOf t = #[f0, f1, f2] := by unfold Program.fieldsOf; rw [hu]
    have hpart : ∀ (e : TypeId) (off : Nat) (xs : Array Value) (v : Value), P.underlying e = some (.int .i64) → xs[off]? = some v → (part e xs off).run P w = .ok v w := fun e off xs v he hv => by
      simp [part, run_isAgg_plain he rfl, hv]
    have e := run_equalIn_struct (P := P) w 9999 t #[.int .i64 a, .int .i64 b, .int .i64 c] #[.int .i64 a', .int .i64 b', .int .i64 c'] (by rw [hfo]; exact hu) hp
    rw [hfo] at e
    have e2 : (Op.eqFields 9999 #[.int .i64 a, .int .i64 b, .int .i64 c] #[.int .i64 a', .int .i64 b', .int .i64 c'] #[f0, f1, f2].toList).run P w = .ok (decide (a = a' ∧ b = b' ∧ c = c')) w := by
      have p0 : ∀ x0 x1 x2 : Int, (part f0.type #[.int .i64 x0, .int .i64 x1, .int .i64 x2] 0).run P w = .ok (.int .i64 x0) w := fun x0 x1 x2 => hpart _ _ _ _ h0 rfl
      have p1 : ∀ x0 x1 x2 : Int, (part f1.type #[.int .i64 x0, .int .i64 x1, .int .i64 x2] 1).run P w = .ok (.int .i64 x1) w := fun x0 x1 x2 => hpart _ _ _ _ h1 rfl
      have p2 : ∀ x0 x1 x2 : Int, (part f2.type #[.int .i64 x0, .int .i64 x1, .int .i64 x2] 2).run P w = .ok (.int .i64 x2) w := fun x0 x1 x2 => hpart _ _ _ _ h2 rfl
      have q0 : ∀ u v : Int, (Op.equalIn 9999 f0.type (.int .i64 u) (.int .i64 v)).run P w = .ok (u == v) w := fun u v => run_equalIn_int w 9998 _ .i64 .i64 u v h0
      have q1 : ∀ u v : Int, (Op.equalIn 9999 f1.type (.int .i64 u) (.int .i64 v)).run P w = .ok (u == v) w := fun u v => run_equalIn_int w 9998 _ .i64 .i64 u v h1
      have q2 : ∀ u v : Int, (Op.equalIn 9999 f2.type (.int .i64 u) (.int .i64 v)).run P w = .ok (u == v) w := fun u v => run_equalIn_int w 9998 _ .i64 .i64 u v h2
      simp only [List.toList_toArray, Op.eqFields, hn.1, hn.2.1, hn.2.2, ne_eq, not_false_eq_true, if_true, Sem.run_bind, o0, o1, o2, p0, p1, p2, Result.andThen_ok, q0, q1, q2]
      by_cases ha : a = a'
      · by_cases hb : b = b'
        · by_cases hc : c = c' <;> simp [ha, hb, hc, p1, p2, q1, q2]
        · simp [ha, hb, p1, q1]
      · simp [ha]
    rw [e2] at e
    have e3 := run_eql_struct (P := P) w t #[.int .i64 a, .int .i64 b, .int .i64 c] #[.int .i64 a', .int .i64 b', .int .i64 c']
    rw [e] at e3
    have e4 := run_eqGuard_agg (P := P) w .eql t x y #[.int .i64 a, .int .i64 b, .int .i64 c] #[.int .i64 a', .int .i64 b', .int .i64 c'] hm
    simp only [execOp, h x _ hx, h y _ hy]
    simp [e4, e3]
theorem shard_ones {o : List UInt8} {p q : Int} {k m i l n j : Nat} (ho : mayS o = true) (hp : mayP p (k : Int) (m : Int) = true) (hq : mayP q (l : Int) (n : Int) = true) (hi : i < k + m) (hj : j < l + n) :
    shardN o p k m i = shardN o q l n j ↔ (i < k ∧ j < l ∧ ((layL p).toNat : Int) = ((layL q).toNat : Int) ∧ k = l ∧ i = j) ∨ (¬ i < k ∧ ¬ j < l ∧ p = q ∧ k = l ∧ m = n ∧ i = j) := by
  constructor
  · intro e
    have h1 := rd_shard ho hp hi
    rw [e, rd_shard ho hq hj] at h1
    have h2 := Option.some.inj h1
    unfold nmOf at h2
    split at h2 <;> split at h2
    · rename_i a1 a2
      have e1 := congrArg Nm.y h2
      have e2 := congrArg Nm.k h2
      have e3 := congrArg Nm.i h2
      simp only at e1 e2 e3
      exact .inl ⟨a2, a1, by rw [e1], by omega, by omega⟩
    · have := congrArg Nm.kind h2; simp only at this; omega
    · have := congrArg Nm.kind h2; simp only at this; omega
    · rename_i a1 a2
      have e1 := congrArg Nm.tag h2
      have e2 := congrArg Nm.k h2
      have e3 := congrArg Nm.i h2
      have e4 := congrArg Nm.m h2
      simp only at e1 e2 e3 e4
      have hpp := mayP_of hp
      have hqq := mayP_of hq
      exact .inr ⟨a2, a1, tagL_inj ⟨hpp.1, hpp.2.1⟩ ⟨hqq.1, hqq.2.1⟩ e1.symm, by omega, by omega, by omega⟩
  · rintro (⟨a1, a2, a3, rfl, rfl⟩ | ⟨a1, a2, rfl, rfl, rfl, rfl⟩)
    · unfold shardN
      rw [if_pos a1, if_pos a2, UInt8.toNat_inj.1 (Int.ofNat_inj.1 a3)]
    · rfl

set_option maxRecDepth 100000 in
set_option maxHeartbeats 1000000 in
theorem NamesOnes_ok (B n0 n1 n2 m0 m1 m2 a0 a1 : Nat) (w : World) (hI : Inv FDx B w) (h0 : n0 < 256) (h1 : n1 < 256) (h2 : n2 < 256) (h3 : m0 < 256) (h4 : m1 < 256) (h5 : m2 < 256) (h6 : a0 < 256) (h7 : a1 < 256) : Ret Tryd.prog 4 [.agg #[.int .u8 (n0 : Int), .int .u8 (n1 : Int), .int .u8 (n2 : Int)], .agg #[.int .u8 (m0 : Int), .int .u8 (m1 : Int), .int .u8 (m2 : Int)], .agg #[.int .u8 (a0 : Int), .int .u8 (a1 : Int)]] w fun v w' => v = .bool true ∧ St FDx B w w' := by
  refine enter 137 [(0, .agg #[.int .u8 (n0 : Int), .int .u8 (n1 : Int), .int .u8 (n2 : Int)]), (1, .agg #[.int .u8 (m0 : Int), .int .u8 (m1 : Int), .int .u8 (m2 : Int)]), (2, .agg #[.int .u8 (a0 : Int), .int .u8 (a1 : Int)])] 6 Tryd.func4 rfl rfl rfl rfl rfl ?_; intro a hF
  have hS := St.refl hI
  have hms : mayS [97, 98, 99] = true := by decide
  refine W_sr rfl (fun K hK => ?_)
  refine s_box (D := FDx) (B := B) hF rfl (by decide) hS.inv rfl ?_; clear hF a; intro w' a hm hb3 hsz hF
  replace hS := hS.mb0 hm
  clear hm
  refine s_box (D := FDx) (B := B) hF rfl (by decide) hS.inv rfl ?_; clear hF a; intro w' a hm hb4 hsz hF
  replace hb3 := hb3.mb hm (by simp)
  replace hS := hS.mb0 hm
  clear hm
  refine s_box (D := FDx) (B := B) hF rfl (by decide) hS.inv rfl ?_; clear hF a; intro w' a hm hb5 hsz hF
  replace hb3 := hb3.mb hm (by simp)
  replace hb4 := hb4.mb hm (by simp)
  replace hS := hS.mb0 hm
  clear hm
  refine sv hF (v_assign rfl) rfl ?_; clear hF a; intro a hF
  refine WL_nil (hK _ _ ?_)
  clear hK K
  replace hF := hF.sub _ (c_ 6 rfl (c_ 5 rfl (c_ 4 rfl (c_ 3 rfl (n_)))))
  refine W_sr rfl (fun K hK => ?_)
  refine sc hF rfl rfl rfl en9 rfl (aw15_ok B _ hS.inv) ?_; clear hF a; intro v w' a hv hF
  obtain ⟨rfl, hS'⟩ := hv
  replace hb3 := hb3.st (by decide) hS'
  replace hb4 := hb4.st (by decide) hS'
  replace hb5 := hb5.st (by decide) hS'
  replace hS := hS.trans hS'
  clear hS'
  refine sv hF (v_assign rfl) rfl ?_; clear hF a; intro a hF
  refine WL_nil (hK _ _ ?_)
  clear hK K
  replace hF := hF.sub _ (c_ 7 rfl (c_ 6 rfl (c_ 5 rfl (c_ 4 rfl (c_ 3 rfl (n_))))))
  refine W_sr rfl (fun K hK => ?_)
  refine sv hF (v_loadN Tryd.underlying32 rfl (by kernel_rfl) rfl hb3) rfl ?_; clear hF a; intro a hF
  refine sc hF rfl rfl rfl en13 rfl (Some_ok B n0 n1 n2 _ hS.inv (by omega) (by omega) (by omega)) ?_; clear hF a; intro v w' a hv hF
  obtain ⟨rfl, hS'⟩ := hv
  replace hb3 := hb3.st (by decide) hS'
  replace hb4 := hb4.st (by decide) hS'
  replace hb5 := hb5.st (by decide) hS'
  replace hS := hS.trans hS'
  clear hS'
  have hmay := some_ok n0 n1 n2
  obtain ⟨mn, hmE⟩ : ∃ m : Nat, 1 + n2 % (maxM ((1 + n0 % 6 : Nat) : Int)).toNat = m := ⟨_, rfl⟩
  obtain ⟨kn, hkE⟩ : ∃ k : Nat, 1 + n1 % 8 = k := ⟨_, rfl⟩
  obtain ⟨p, hpE⟩ : ∃ p : Int, ((1 + n0 % 6 : Nat) : Int) = p := ⟨_, rfl⟩
  rw [hmE, hkE, hpE] at hF hmay
  clear hmE hkE hpE
  have hq := mayP_of hmay
  have hk : 1 ≤ kn ∧ kn ≤ 8 ∧ 1 ≤ mn ∧ mn ≤ 4 := by obtain ⟨-, -, kk, mm, e1, e2, h1, h2, h3, h4, -⟩ := hq; omega
  have hp6 : 1 ≤ p ∧ p ≤ 6 := ⟨hq.1, hq.2.1⟩
  have hs0 := hS.ext.size
  have t0_hb3 := heap_lt hb3
  have t0_hb4 := heap_lt hb4
  have t0_hb5 := heap_lt hb5
  refine s_allocN (D := FDx) (B := B) (z := .agg #[.int .i64 0, .int .i64 0, .int .i64 0]) hF (by kernel_rfl) (by decide) hS.inv rfl ?_; clear hF a; intro gx w' a hm hI' hx hF
  replace hb3 := hb3.mb hm (by simp)
  replace hb4 := hb4.mb hm (by simp)
  replace hb5 := hb5.mb hm (by simp)
  replace hS := hS.mb0 hm
  clear hm hI'
  have l0_hx := hx.low
  replace hx := hx.le hs0
  clear hs0
  refine s_storeN (D := FDx) (B := B) hF (by kernel_rfl) rfl rfl (rfl) (by rfl) hx hS.inv ?_; intro w' hm hI' hrc'
  replace hb3 := hb3.mb hm (by simp; omega)
  replace hb4 := hb4.mb hm (by simp; omega)
  replace hb5 := hb5.mb hm (by simp; omega)
  replace hS := hS.mb hm (fun k h => by cases h; exact hx.low)
  replace hx := hrc'
  clear hm hI' hrc'
  refine WL_nil (hK _ _ ?_)
  clear hK K
  replace hF := hF.sub _ (c_ 8 rfl (c_ 7 rfl (c_ 6 rfl (c_ 5 rfl (c_ 4 rfl (n_))))))
  refine W_sr rfl (fun K hK => ?_)
  refine sv hF (v_loadN Tryd.underlying32 rfl (by kernel_rfl) rfl hb4) rfl ?_; clear hF a; intro a hF
  refine sc hF rfl rfl rfl en13 rfl (Some_ok B m0 m1 m2 _ hS.inv (by omega) (by omega) (by omega)) ?_; clear hF a; intro v w' a hv hF
  obtain ⟨rfl, hS'⟩ := hv
  replace hb3 := hb3.st (by decide) hS'
  replace hb4 := hb4.st (by decide) hS'
  replace hb5 := hb5.st (by decide) hS'
  replace hx := hx.st hS'
  replace hS := hS.trans hS'
  clear hS'
  have hmay2 := some_ok m0 m1 m2
  obtain ⟨om, hmE2⟩ : ∃ m : Nat, 1 + m2 % (maxM ((1 + m0 % 6 : Nat) : Int)).toNat = m := ⟨_, rfl⟩
  obtain ⟨ln, hkE2⟩ : ∃ k : Nat, 1 + m1 % 8 = k := ⟨_, rfl⟩
  obtain ⟨q, hpE2⟩ : ∃ p : Int, ((1 + m0 % 6 : Nat) : Int) = p := ⟨_, rfl⟩
  rw [hmE2, hkE2, hpE2] at hF hmay2
  clear hmE2 hkE2 hpE2
  have hq2 := mayP_of hmay2
  have hk2 : 1 ≤ ln ∧ ln ≤ 8 ∧ 1 ≤ om ∧ om ≤ 4 := by obtain ⟨-, -, kk, mm, e1, e2, h1, h2, h3, h4, -⟩ := hq2; omega
  have hp62 : 1 ≤ q ∧ q ≤ 6 := ⟨hq2.1, hq2.2.1⟩
  have hs0 := hS.ext.size
  have t1_hb3 := heap_lt hb3
  have t1_hb4 := heap_lt hb4
  have t1_hb5 := heap_lt hb5
  have t1_hx := heap_lt hx.blk
  refine s_allocN (D := FDx) (B := B) (z := .agg #[.int .i64 0, .int .i64 0, .int .i64 0]) hF (by kernel_rfl) (by decide) hS.inv rfl ?_; clear hF a; intro gy w' a hm hI' hy hF
  replace hb3 := hb3.mb hm (by simp)
  replace hb4 := hb4.mb hm (by simp)
  replace hb5 := hb5.mb hm (by simp)
  replace hx := hx.mb hm (by simp)
  replace hS := hS.mb0 hm
  clear hm hI'
  have l1_hy := hy.low
  replace hy := hy.le hs0
  clear hs0
  refine s_storeN (D := FDx) (B := B) hF (by kernel_rfl) rfl rfl (rfl) (by rfl) hy hS.inv ?_; intro w' hm hI' hrc'
  replace hb3 := hb3.mb hm (by simp; omega)
  replace hb4 := hb4.mb hm (by simp; omega)
  replace hb5 := hb5.mb hm (by simp; omega)
  replace hx := hx.mb hm (by simp; omega)
  replace hS := hS.mb hm (fun k h => by cases h; exact hy.low)
  replace hy := hrc'
  clear hm hI' hrc'
  refine WL_nil (hK _ _ ?_)
  clear hK K
  replace hF := hF.sub _ (c_ 9 rfl (c_ 8 rfl (c_ 7 rfl (c_ 6 rfl (c_ 5 rfl (n_))))))
  refine W_sr rfl (fun K hK => ?_)
  refine sv hF (v_ixA ar33 rfl rfl (by omega) (by omega)) rfl ?_; clear hF a; intro a hF
  refine sv hF (v_load sc5 rfl (hb5.at 0 rfl)) rfl ?_; clear hF a; intro a hF
  refine sv hF (v_cv Tryd.underlying5 Tryd.underlying3 rfl (wrap_i64 _ (by omega))) rfl ?_; clear hF a; intro a hF
  refine sv hF (v_fieldAddr fa35_1 rfl) rfl ?_; clear hF a; intro a hF
  refine sv hF (v_load sc3 rfl (hx.blk.at 1 rfl)) rfl ?_; clear hF a; intro a hF
  refine sv hF (v_fieldAddr fa35_2 rfl) rfl ?_; clear hF a; intro a hF
  refine sv hF (v_load sc3 rfl (hx.blk.at 2 rfl)) rfl ?_; clear hF a; intro a hF
  refine sv hF ((v_addI rfl rfl (by omega)).as (show Value.int .i64 ((kn : Int) + (mn : Int)) = .int .i64 ((kn + mn : Nat) : Int) by simp)) rfl ?_; clear hF a; intro a hF
  refine sv hF ((v_remI rfl rfl (by omega) (by omega)).as (show Value.int .i64 ((a0 : Int) % ((kn + mn : Nat) : Int)) = .int .i64 ((a0 % (kn + mn) : Nat) : Int) by simp)) rfl ?_; clear hF a; intro a hF
  have hi : a0 % (kn + mn) < kn + mn := Nat.mod_lt _ (by omega)
  obtain ⟨i, hiE⟩ : ∃ i : Nat, a0 % (kn + mn) = i := ⟨_, rfl⟩
  rw [hiE] at hF hi
  clear hiE
  refine sv hF (v_assign rfl) rfl ?_; clear hF a; intro a hF
  refine WL_nil (hK _ _ ?_)
  clear hK K
  replace hF := hF.sub _ (c_ 10 rfl (c_ 9 rfl (c_ 8 rfl (c_ 7 rfl (c_ 6 rfl (c_ 5 rfl (n_)))))))
  refine W_sr rfl (fun K hK => ?_)
  refine sv hF (v_ixA ar33 rfl rfl (by omega) (by omega)) rfl ?_; clear hF a; intro a hF
  refine sv hF (v_load sc5 rfl (hb5.at 1 rfl)) rfl ?_; clear hF a; intro a hF
  refine sv hF (v_cv Tryd.underlying5 Tryd.underlying3 rfl (wrap_i64 _ (by omega))) rfl ?_; clear hF a; intro a hF
  refine sv hF (v_fieldAddr fa35_1 rfl) rfl ?_; clear hF a; intro a hF
  refine sv hF (v_load sc3 rfl (hy.blk.at 1 rfl)) rfl ?_; clear hF a; intro a hF
  refine sv hF (v_fieldAddr fa35_2 rfl) rfl ?_; clear hF a; intro a hF
  refine sv hF (v_load sc3 rfl (hy.blk.at 2 rfl)) rfl ?_; clear hF a; intro a hF
  refine sv hF ((v_addI rfl rfl (by omega)).as (show Value.int .i64 ((ln : Int) + (om : Int)) = .int .i64 ((ln + om : Nat) : Int) by simp)) rfl ?_; clear hF a; intro a hF
  refine sv hF ((v_remI rfl rfl (by omega) (by omega)).as (show Value.int .i64 ((a1 : Int) % ((ln + om : Nat) : Int)) = .int .i64 ((a1 % (ln + om) : Nat) : Int) by simp)) rfl ?_; clear hF a; intro a hF
  have hi2 : a1 % (ln + om) < ln + om := Nat.mod_lt _ (by omega)
  obtain ⟨j, hiE2⟩ : ∃ i : Nat, a1 % (ln + om) = i := ⟨_, rfl⟩
  rw [hiE2] at hF hi2
  clear hiE2
  refine sv hF (v_assign rfl) rfl ?_; clear hF a; intro a hF
  refine WL_nil (hK _ _ ?_)
  clear hK K
  replace hF := hF.sub _ (c_ 11 rfl (c_ 10 rfl (c_ 9 rfl (c_ 8 rfl (c_ 7 rfl (c_ 6 rfl (n_)))))))
  refine W_sr rfl (fun K hK => ?_)
  refine sv hF (v_loadN Tryd.underlying35 rfl (by kernel_rfl) rfl hx.blk) rfl ?_; clear hF a; intro a hF
  refine sv hF (v_move rfl) rfl ?_; clear hF a; intro a hF
  refine sc hF rfl rfl rfl en14 rfl (Shard_ok B [97, 98, 99] p (kn : Int) (mn : Int) (i : Int) _ hS.inv) ?_; clear hF a; intro v w' a hv hF
  obtain ⟨rfl, hS'⟩ := hv
  replace hb3 := hb3.st (by decide) hS'
  replace hb4 := hb4.st (by decide) hS'
  replace hb5 := hb5.st (by decide) hS'
  replace hx := hx.st hS'
  replace hy := hy.st hS'
  replace hS := hS.trans hS'
  clear hS'
  rw [shardR_is hms hmay hi] at hF
  refine sv hF (v_move rfl) rfl ?_; clear hF a; intro a hF
  refine sv hF (v_ext rfl rfl) rfl ?_; clear hF a; intro a hF
  refine sv hF (v_ext rfl rfl) rfl ?_; clear hF a; intro a hF
  refine sv hF (v_assign rfl) rfl ?_; clear hF a; intro a hF
  refine sv hF (v_assign rfl) rfl ?_; clear hF a; intro a hF
  refine WL_nil (hK _ _ ?_)
  clear hK K
  replace hF := hF.sub _ (c_ 13 rfl (c_ 12 rfl (c_ 11 rfl (c_ 10 rfl (c_ 9 rfl (c_ 8 rfl (c_ 7 rfl (c_ 6 rfl (n_)))))))))
  refine W_sr rfl (fun K hK => ?_)
  refine sv hF (v_loadN Tryd.underlying35 rfl (by kernel_rfl) rfl hy.blk) rfl ?_; clear hF a; intro a hF
  refine sv hF (v_move rfl) rfl ?_; clear hF a; intro a hF
  refine sc hF rfl rfl rfl en14 rfl (Shard_ok B [97, 98, 99] q (ln : Int) (om : Int) (j : Int) _ hS.inv) ?_; clear hF a; intro v w' a hv hF
  obtain ⟨rfl, hS'⟩ := hv
  replace hb3 := hb3.st (by decide) hS'
  replace hb4 := hb4.st (by decide) hS'
  replace hb5 := hb5.st (by decide) hS'
  replace hx := hx.st hS'
  replace hy := hy.st hS'
  replace hS := hS.trans hS'
  clear hS'
  rw [shardR_is hms hmay2 hi2] at hF
  refine sv hF (v_move rfl) rfl ?_; clear hF a; intro a hF
  refine sv hF (v_ext rfl rfl) rfl ?_; clear hF a; intro a hF
  refine sv hF (v_ext rfl rfl) rfl ?_; clear hF a; intro a hF
  refine sv hF (v_assign rfl) rfl ?_; clear hF a; intro a hF
  refine sv hF (v_assign rfl) rfl ?_; clear hF a; intro a hF
  refine WL_nil (hK _ _ ?_)
  clear hK K
  replace hF := hF.sub _ (c_ 15 rfl (c_ 14 rfl (c_ 13 rfl (c_ 12 rfl (c_ 11 rfl (c_ 10 rfl (c_ 9 rfl (c_ 8 rfl (c_ 7 rfl (c_ 6 rfl (n_)))))))))))
  refine W_sr rfl (fun K hK => ?_)
  refine sv hF (v_fieldAddr fa35_0 rfl) rfl ?_; clear hF a; intro a hF
  refine sv hF (v_load sc3 rfl (hx.blk.at 0 rfl)) rfl ?_; clear hF a; intro a hF
  refine sc hF rfl rfl rfl en15 rfl (rPOf_ok B p _ hS.inv) ?_; clear hF a; intro v w' a hv hF
  obtain ⟨rfl, hS'⟩ := hv
  replace hb3 := hb3.st (by decide) hS'
  replace hb4 := hb4.st (by decide) hS'
  replace hb5 := hb5.st (by decide) hS'
  replace hx := hx.st hS'
  replace hy := hy.st hS'
  replace hS := hS.trans hS'
  clear hS'
  refine sv hF (v_move rfl) rfl ?_; clear hF a; intro a hF
  refine sv hF (v_ext rfl rfl) rfl ?_; clear hF a; intro a hF
  refine sv hF (v_ext rfl rfl) rfl ?_; clear hF a; intro a hF
  have hs0 := hS.ext.size
  have t2_hb3 := heap_lt hb3
  have t2_hb4 := heap_lt hb4
  have t2_hb5 := heap_lt hb5
  have t2_hx := heap_lt hx.blk
  have t2_hy := heap_lt hy.blk
  refine s_allocN (D := FDx) (B := B) (z := .agg prz.toArray) hF (by kernel_rfl) (by decide) hS.inv rfl ?_; clear hF a; intro gR w' a hm hI' hR hF
  replace hb3 := hb3.mb hm (by simp)
  replace hb4 := hb4.mb hm (by simp)
  replace hb5 := hb5.mb hm (by simp)
  replace hx := hx.mb hm (by simp)
  replace hy := hy.mb hm (by simp)
  replace hS := hS.mb0 hm
  clear hm hI'
  have l2_hR := hR.low
  replace hR := hR.le hs0
  clear hs0
  refine s_storeN (D := FDx) (B := B) hF (by rw [List.size_toArray, prOf_len]; kernel_rfl) rfl rfl (prOf_one p) (by rw [List.size_toArray, prOf_len]; rfl) hR hS.inv ?_; intro w' hm hI' hrc'
  replace hb3 := hb3.mb hm (by simp; omega)
  replace hb4 := hb4.mb hm (by simp; omega)
  replace hb5 := hb5.mb hm (by simp; omega)
  replace hx := hx.mb hm (by simp; omega)
  replace hy := hy.mb hm (by simp; omega)
  replace hS := hS.mb hm (fun k h => by cases h; exact hR.low)
  replace hR := hrc'
  clear hm hI' hrc'
  refine sv hF (v_assign rfl) rfl ?_; clear hF a; intro a hF
  refine WL_nil (hK _ _ ?_)
  clear hK K
  replace hF := hF.sub _ (c_ 16 rfl (c_ 15 rfl (c_ 14 rfl (c_ 13 rfl (c_ 12 rfl (c_ 11 rfl (c_ 10 rfl (c_ 9 rfl (c_ 8 rfl (c_ 7 rfl (c_ 6 rfl (n_))))))))))))
  refine W_sr rfl (fun K hK => ?_)
  refine sv hF (v_fieldAddr fa35_0 rfl) rfl ?_; clear hF a; intro a hF
  refine sv hF (v_load sc3 rfl (hy.blk.at 0 rfl)) rfl ?_; clear hF a; intro a hF
  refine sc hF rfl rfl rfl en15 rfl (rPOf_ok B q _ hS.inv) ?_; clear hF a; intro v w' a hv hF
  obtain ⟨rfl, hS'⟩ := hv
  replace hb3 := hb3.st (by decide) hS'
  replace hb4 := hb4.st (by decide) hS'
  replace hb5 := hb5.st (by decide) hS'
  replace hx := hx.st hS'
  replace hy := hy.st hS'
  replace hR := hR.st hS'
  replace hS := hS.trans hS'
  clear hS'
  refine sv hF (v_move rfl) rfl ?_; clear hF a; intro a hF
  refine sv hF (v_ext rfl rfl) rfl ?_; clear hF a; intro a hF
  refine sv hF (v_ext rfl rfl) rfl ?_; clear hF a; intro a hF
  have hs0 := hS.ext.size
  have t3_hb3 := heap_lt hb3
  have t3_hb4 := heap_lt hb4
  have t3_hb5 := heap_lt hb5
  have t3_hx := heap_lt hx.blk
  have t3_hy := heap_lt hy.blk
  have t3_hR := heap_lt hR.blk
  refine s_allocN (D := FDx) (B := B) (z := .agg prz.toArray) hF (by kernel_rfl) (by decide) hS.inv rfl ?_; clear hF a; intro gQ w' a hm hI' hQ hF
  replace hb3 := hb3.mb hm (by simp)
  replace hb4 := hb4.mb hm (by simp)
  replace hb5 := hb5.mb hm (by simp)
  replace hx := hx.mb hm (by simp)
  replace hy := hy.mb hm (by simp)
  replace hR := hR.mb hm (by simp)
  replace hS := hS.mb0 hm
  clear hm hI'
  have l3_hQ := hQ.low
  replace hQ := hQ.le hs0
  clear hs0
  refine s_storeN (D := FDx) (B := B) hF (by rw [List.size_toArray, prOf_len]; kernel_rfl) rfl rfl (prOf_one q) (by rw [List.size_toArray, prOf_len]; rfl) hQ hS.inv ?_; intro w' hm hI' hrc'
  replace hb3 := hb3.mb hm (by simp; omega)
  replace hb4 := hb4.mb hm (by simp; omega)
  replace hb5 := hb5.mb hm (by simp; omega)
  replace hx := hx.mb hm (by simp; omega)
  replace hy := hy.mb hm (by simp; omega)
  replace hR := hR.mb hm (by simp; omega)
  replace hS := hS.mb hm (fun k h => by cases h; exact hQ.low)
  replace hQ := hrc'
  clear hm hI' hrc'
  refine sv hF (v_assign rfl) rfl ?_; clear hF a; intro a hF
  refine WL_nil (hK _ _ ?_)
  clear hK K
  replace hF := hF.sub _ (c_ 18 rfl (c_ 16 rfl (c_ 15 rfl (c_ 14 rfl (c_ 13 rfl (c_ 12 rfl (c_ 11 rfl (c_ 10 rfl (c_ 9 rfl (c_ 8 rfl (c_ 7 rfl (c_ 6 rfl (n_)))))))))))))
  have hiff := shard_ones hms hmay hmay2 hi hi2
  refine W_sr rfl (fun K hK => ?_)
  refine sv hF (v_move rfl) rfl ?_; clear hF a; intro a hF
  refine sv hF (v_fieldAddr fa35_1 rfl) rfl ?_; clear hF a; intro a hF
  refine sv hF (v_load sc3 rfl (hx.blk.at 1 rfl)) rfl ?_; clear hF a; intro a hF
  refine sb hF (v_lss rfl rfl) rfl ?_ ?_
  · clear hF a; intro hc1 a hF
    try simp only [decide_eq_true_eq, decide_eq_false_iff_not, Bool.not_eq_true', Bool.not_eq_false', Bool.not_true, Bool.not_false] at hc1
    refine sv hF (v_move rfl) rfl ?_; clear hF a; intro a hF
    refine svg hF rfl ?_
    refine sv hF (v_move rfl) rfl ?_; clear hF a; intro a hF
    refine svg hF rfl ?_
    refine sv hF (v_fieldAddr fa35_1 rfl) rfl ?_; clear hF a; intro a hF
    refine svg hF rfl ?_
    refine sv hF (v_load sc3 rfl (hy.blk.at 1 rfl)) rfl ?_; clear hF a; intro a hF
    refine svg hF rfl ?_
    refine sb hF (v_lss rfl rfl) rfl ?_ ?_
    · clear hF a; intro hc2 a hF
      try simp only [decide_eq_true_eq, decide_eq_false_iff_not, Bool.not_eq_true', Bool.not_eq_false', Bool.not_true, Bool.not_false] at hc2
      refine sv hF (v_pickT rfl rfl) rfl ?_; clear hF a; intro a hF
      refine sv hF (v_move rfl) rfl ?_; clear hF a; intro a hF
      refine svg hF rfl ?_
      refine sv hF (v_fieldAddr fa42_3 rfl) rfl ?_; clear hF a; intro a hF
      refine svg hF rfl ?_
      refine sv hF (v_load sc5 rfl ((hR.kc 3 (prOf_lay hp6)).c)) rfl ?_; clear hF a; intro a hF
      refine svg hF rfl ?_
      refine sv hF (v_fieldAddr fa42_3 rfl) rfl ?_; clear hF a; intro a hF
      refine svg hF rfl ?_
      refine sv hF (v_load sc5 rfl ((hQ.kc 3 (prOf_lay hp62)).c)) rfl ?_; clear hF a; intro a hF
      refine svg hF rfl ?_
      refine sb hF (v_eql rfl rfl) rfl ?_ ?_
      · clear hF a; intro hc3 a hF
        try simp only [decide_eq_true_eq, decide_eq_false_iff_not, Bool.not_eq_true', Bool.not_eq_false', Bool.not_true, Bool.not_false] at hc3
        refine sv hF (v_pickT rfl rfl) rfl ?_; clear hF a; intro a hF
        refine sv hF (v_move rfl) rfl ?_; clear hF a; intro a hF
        refine svg hF rfl ?_
        refine sv hF (v_fieldAddr fa35_1 rfl) rfl ?_; clear hF a; intro a hF
        refine svg hF rfl ?_
        refine sv hF (v_load sc3 rfl (hx.blk.at 1 rfl)) rfl ?_; clear hF a; intro a hF
        refine svg hF rfl ?_
        refine sv hF (v_fieldAddr fa35_1 rfl) rfl ?_; clear hF a; intro a hF
        refine svg hF rfl ?_
        refine sv hF (v_load sc3 rfl (hy.blk.at 1 rfl)) rfl ?_; clear hF a; intro a hF
        refine svg hF rfl ?_
        refine sb hF (v_eql rfl rfl) rfl ?_ ?_
        · clear hF a; intro hc4 a hF
          try simp only [decide_eq_true_eq, decide_eq_false_iff_not, Bool.not_eq_true', Bool.not_eq_false', Bool.not_true, Bool.not_false] at hc4
          refine sv hF (v_pickT rfl rfl) rfl ?_; clear hF a; intro a hF
          refine sv hF (v_move rfl) rfl ?_; clear hF a; intro a hF
          refine svg hF rfl ?_
          refine sv hF (v_move rfl) rfl ?_; clear hF a; intro a hF
          refine svg hF rfl ?_
          refine sv hF (v_move rfl) rfl ?_; clear hF a; intro a hF
          refine svg hF rfl ?_
          refine sb hF (v_eql rfl rfl) rfl ?_ ?_
          · clear hF a; intro hc5 a hF
            try simp only [decide_eq_true_eq, decide_eq_false_iff_not, Bool.not_eq_true', Bool.not_eq_false', Bool.not_true, Bool.not_false] at hc5
            refine sv hF (v_pickT rfl rfl) rfl ?_; clear hF a; intro a hF
            refine sv hF (v_assign rfl) rfl ?_; clear hF a; intro a hF
            refine WL_nil (hK _ _ ?_)
            clear hK K
            replace hF := hF.sub _ (c_ 20 rfl (c_ 15 rfl (c_ 14 rfl (c_ 13 rfl (c_ 12 rfl (c_ 11 rfl (c_ 10 rfl (c_ 9 rfl (c_ 8 rfl (c_ 7 rfl (c_ 6 rfl (n_))))))))))))
            refine W_sr rfl (fun K hK => ?_)
            refine sv hF (v_move rfl) rfl ?_; clear hF a; intro a hF
            refine sv hF (v_fieldAddr fa35_1 rfl) rfl ?_; clear hF a; intro a hF
            refine sv hF (v_load sc3 rfl (hx.blk.at 1 rfl)) rfl ?_; clear hF a; intro a hF
            refine sb hF (v_geq rfl rfl) rfl ?_ ?_
            · clear hF a; intro hc6 a hF
              try simp only [decide_eq_true_eq, decide_eq_false_iff_not, Bool.not_eq_true', Bool.not_eq_false', Bool.not_true, Bool.not_false] at hc6
              refine sv hF (v_move rfl) rfl ?_; clear hF a; intro a hF
              refine svg hF rfl ?_
              refine sv hF (v_move rfl) rfl ?_; clear hF a; intro a hF
              refine svg hF rfl ?_
              refine sv hF (v_fieldAddr fa35_1 rfl) rfl ?_; clear hF a; intro a hF
              refine svg hF rfl ?_
              refine sv hF (v_load sc3 rfl (hy.blk.at 1 rfl)) rfl ?_; clear hF a; intro a hF
              refine svg hF rfl ?_
              refine sb hF (v_geq rfl rfl) rfl ?_ ?_
              · clear hF a; intro hc7 a hF
                try simp only [decide_eq_true_eq, decide_eq_false_iff_not, Bool.not_eq_true', Bool.not_eq_false', Bool.not_true, Bool.not_false] at hc7
                refine sv hF (v_pickT rfl rfl) rfl ?_; clear hF a; intro a hF
                refine sv hF (v_move rfl) rfl ?_; clear hF a; intro a hF
                refine svg hF rfl ?_
                refine sv hF (v_loadN Tryd.underlying35 rfl (by kernel_rfl) rfl hx.blk) rfl ?_; clear hF a; intro a hF
                refine svg hF rfl ?_
                refine sv hF (v_loadN Tryd.underlying35 rfl (by kernel_rfl) rfl hy.blk) rfl ?_; clear hF a; intro a hF
                refine svg hF rfl ?_
                refine sb hF (v_eqlP3 Tryd.underlying35 (by kernel_rfl) (by kernel_rfl) Tryd.underlying3 Tryd.underlying3 Tryd.underlying3 (by decide) rfl rfl rfl rfl rfl) rfl ?_ ?_
                · clear hF a; intro hc8 a hF
                  try simp only [decide_eq_true_eq, decide_eq_false_iff_not, Bool.not_eq_true', Bool.not_eq_false', Bool.not_true, Bool.not_false] at hc8
                  refine sv hF (v_pickT rfl rfl) rfl ?_; clear hF a; intro a hF
                  refine sv hF (v_move rfl) rfl ?_; clear hF a; intro a hF
                  refine svg hF rfl ?_
                  refine sv hF (v_move rfl) rfl ?_; clear hF a; intro a hF
                  refine svg hF rfl ?_
                  refine sv hF (v_move rfl) rfl ?_; clear hF a; intro a hF
                  refine svg hF rfl ?_
                  refine sb hF (v_eql rfl rfl) rfl ?_ ?_
                  · clear hF a; intro hc9 a hF
                    try simp only [decide_eq_true_eq, decide_eq_false_iff_not, Bool.not_eq_true', Bool.not_eq_false', Bool.not_true, Bool.not_false] at hc9
                    refine sv hF (v_pickT rfl rfl) rfl ?_; clear hF a; intro a hF
                    refine sv hF (v_assign rfl) rfl ?_; clear hF a; intro a hF
                    refine WL_nil (hK _ _ ?_)
                    clear hK K
                    replace hF := hF.sub _ (c_ 21 rfl (c_ 20 rfl (c_ 15 rfl (c_ 14 rfl (c_ 13 rfl (c_ 12 rfl (c_ 7 rfl (c_ 6 rfl (n_)))))))))
                    refine W_sr rfl (fun K hK => ?_)
                    refine sv hF (v_move rfl) rfl ?_; clear hF a; intro a hF
                    refine sv hF (v_move rfl) rfl ?_; clear hF a; intro a hF
                    refine svg hF rfl ?_
                    refine sv hF (v_move rfl) rfl ?_; clear hF a; intro a hF
                    refine svg hF rfl ?_
                    refine sv hF ((v_eql rfl rfl).as (congrArg Value.bool (decide_eq_true (rfl)))) rfl ?_; clear hF a; intro a hF
                    refine sv hF (v_pickT rfl rfl) rfl ?_; clear hF a; intro a hF
                    refine sv hF (v_move rfl) rfl ?_; clear hF a; intro a hF
                    refine svg hF rfl ?_
                    refine sv hF (v_move rfl) rfl ?_; clear hF a; intro a hF
                    refine svg hF rfl ?_
                    refine sv hF ((v_eql rfl rfl).as (congrArg Value.bool (decide_eq_true (rfl)))) rfl ?_; clear hF a; intro a hF
                    refine sv hF (v_pickT rfl rfl) rfl ?_; clear hF a; intro a hF
                    refine sv hF (v_move rfl) rfl ?_; clear hF a; intro a hF
                    refine svg hF rfl ?_
                    refine sv hF (v_move rfl) rfl ?_; clear hF a; intro a hF
                    refine svg hF rfl ?_
                    refine sv hF (v_move rfl) rfl ?_; clear hF a; intro a hF
                    refine svg hF rfl ?_
                    refine sv hF (v_eqlT rfl rfl) rfl ?_; clear hF a; intro a hF
                    refine svg hF rfl ?_
                    refine sv hF (v_move rfl) rfl ?_; clear hF a; intro a hF
                    refine svg hF rfl ?_
                    refine sv hF (v_move rfl) rfl ?_; clear hF a; intro a hF
                    refine svn hF rfl rfl rfl ?_; clear hF a; intro a hF
                    refine svg hF rfl ?_
                    refine sv hF (v_pickT rfl rfl) rfl ?_; clear hF a; intro a hF
                    refine svg hF rfl ?_
                    refine sv hF ((v_eqlB Tryd.underlying4 rfl rfl).as (congrArg Value.bool (decide_eq_true (by first | exact decide_eq_true (hiff.2 (by omega)) | exact decide_eq_false (fun e => by have h9 := hiff.1 e; omega))))) rfl ?_; clear hF a; intro a hF
                    refine sv hF (v_pickT rfl rfl) rfl ?_; clear hF a; intro a hF
                    refine sv hF (v_assign rfl) rfl ?_; clear hF a; intro a hF
                    refine WL_nil (hK _ _ ?_)
                    clear hK K
                    replace hF := hF.sub _ (c_ 6 rfl (n_))
                    refine W_ret ?_
                    refine ⟨_, _, hF, rfl, ?_⟩
                    exact ⟨rfl, hS⟩
                  · clear hF a; intro hc9 a hF
                    try simp only [decide_eq_true_eq, decide_eq_false_iff_not, Bool.not_eq_true', Bool.not_eq_false', Bool.not_true, Bool.not_false] at hc9
                    refine sv hF (v_pickT rfl rfl) rfl ?_; clear hF a; intro a hF
                    refine sv hF (v_assign rfl) rfl ?_; clear hF a; intro a hF
                    refine WL_nil (hK _ _ ?_)
                    clear hK K
                    replace hF := hF.sub _ (c_ 21 rfl (c_ 20 rfl (c_ 15 rfl (c_ 14 rfl (c_ 13 rfl (c_ 12 rfl (c_ 7 rfl (c_ 6 rfl (n_)))))))))
                    refine W_sr rfl (fun K hK => ?_)
                    refine sv hF (v_move rfl) rfl ?_; clear hF a; intro a hF
                    refine sv hF (v_move rfl) rfl ?_; clear hF a; intro a hF
                    refine svg hF rfl ?_
                    refine sv hF (v_move rfl) rfl ?_; clear hF a; intro a hF
                    refine svg hF rfl ?_
                    refine sv hF ((v_eql rfl rfl).as (congrArg Value.bool (decide_eq_true (rfl)))) rfl ?_; clear hF a; intro a hF
                    refine sv hF (v_pickT rfl rfl) rfl ?_; clear hF a; intro a hF
                    refine sv hF (v_move rfl) rfl ?_; clear hF a; intro a hF
                    refine svg hF rfl ?_
                    refine sv hF (v_move rfl) rfl ?_; clear hF a; intro a hF
                    refine svg hF rfl ?_
                    refine sv hF ((v_eql rfl rfl).as (congrArg Value.bool (decide_eq_true (rfl)))) rfl ?_; clear hF a; intro a hF
                    refine sv hF (v_pickT rfl rfl) rfl ?_; clear hF a; intro a hF
                    refine sv hF (v_move rfl) rfl ?_; clear hF a; intro a hF
                    refine svg hF rfl ?_
                    refine sv hF (v_move rfl) rfl ?_; clear hF a; intro a hF
                    refine svg hF rfl ?_
                    refine sv hF (v_move rfl) rfl ?_; clear hF a; intro a hF
                    refine svg hF rfl ?_
                    refine sv hF (v_eqlT rfl rfl) rfl ?_; clear hF a; intro a hF
                    refine svg hF rfl ?_
                    refine sv hF (v_move rfl) rfl ?_; clear hF a; intro a hF
                    refine svg hF rfl ?_
                    refine sv hF (v_move rfl) rfl ?_; clear hF a; intro a hF
                    refine svn hF rfl rfl rfl ?_; clear hF a; intro a hF
                    refine svg hF rfl ?_
                    refine sv hF (v_pickT rfl rfl) rfl ?_; clear hF a; intro a hF
                    refine svg hF rfl ?_
                    refine sv hF ((v_eqlB Tryd.underlying4 rfl rfl).as (congrArg Value.bool (decide_eq_true (by first | exact decide_eq_true (hiff.2 (by omega)) | exact decide_eq_false (fun e => by have h9 := hiff.1 e; omega))))) rfl ?_; clear hF a; intro a hF
                    refine sv hF (v_pickT rfl rfl) rfl ?_; clear hF a; intro a hF
                    refine sv hF (v_assign rfl) rfl ?_; clear hF a; intro a hF
                    refine WL_nil (hK _ _ ?_)
                    clear hK K
                    replace hF := hF.sub _ (c_ 6 rfl (n_))
                    refine W_ret ?_
                    refine ⟨_, _, hF, rfl, ?_⟩
                    exact ⟨rfl, hS⟩
                · clear hF a; intro hc8 a hF
                  try simp only [decide_eq_true_eq, decide_eq_false_iff_not, Bool.not_eq_true', Bool.not_eq_false', Bool.not_true, Bool.not_false] at hc8
                  refine sv hF (v_pickT rfl rfl) rfl ?_; clear hF a; intro a hF
                  refine sv hF (v_move rfl) rfl ?_; clear hF a; intro a hF
                  refine svn hF rfl rfl rfl ?_; clear hF a; intro a hF
                  refine svn hF rfl rfl rfl ?_; clear hF a; intro a hF
                  refine svn hF rfl rfl rfl ?_; clear hF a; intro a hF
                  refine sv hF (v_pickF rfl rfl) rfl ?_; clear hF a; intro a hF
                  refine sv hF (v_assign rfl) rfl ?_; clear hF a; intro a hF
                  refine WL_nil (hK _ _ ?_)
                  clear hK K
                  replace hF := hF.sub _ (c_ 21 rfl (c_ 20 rfl (c_ 15 rfl (c_ 14 rfl (c_ 13 rfl (c_ 12 rfl (c_ 7 rfl (c_ 6 rfl (n_)))))))))
                  refine W_sr rfl (fun K hK => ?_)
                  refine sv hF (v_move rfl) rfl ?_; clear hF a; intro a hF
                  refine sv hF (v_move rfl) rfl ?_; clear hF a; intro a hF
                  refine svg hF rfl ?_
                  refine sv hF (v_move rfl) rfl ?_; clear hF a; intro a hF
                  refine svg hF rfl ?_
                  refine sv hF ((v_eql rfl rfl).as (congrArg Value.bool (decide_eq_true (rfl)))) rfl ?_; clear hF a; intro a hF
                  refine sv hF (v_pickT rfl rfl) rfl ?_; clear hF a; intro a hF
                  refine sv hF (v_move rfl) rfl ?_; clear hF a; intro a hF
                  refine svg hF rfl ?_
                  refine sv hF (v_move rfl) rfl ?_; clear hF a; intro a hF
                  refine svg hF rfl ?_
                  refine sv hF ((v_eql rfl rfl).as (congrArg Value.bool (decide_eq_true (rfl)))) rfl ?_; clear hF a; intro a hF
                  refine sv hF (v_pickT rfl rfl) rfl ?_; clear hF a; intro a hF
                  refine sv hF (v_move rfl) rfl ?_; clear hF a; intro a hF
                  refine svg hF rfl ?_
                  refine sv hF (v_move rfl) rfl ?_; clear hF a; intro a hF
                  refine svg hF rfl ?_
                  refine sv hF (v_move rfl) rfl ?_; clear hF a; intro a hF
                  refine svg hF rfl ?_
                  refine sv hF (v_eqlT rfl rfl) rfl ?_; clear hF a; intro a hF
                  refine svg hF rfl ?_
                  refine sv hF (v_move rfl) rfl ?_; clear hF a; intro a hF
                  refine svg hF rfl ?_
                  refine sv hF (v_move rfl) rfl ?_; clear hF a; intro a hF
                  refine svn hF rfl rfl rfl ?_; clear hF a; intro a hF
                  refine svg hF rfl ?_
                  refine sv hF (v_pickT rfl rfl) rfl ?_; clear hF a; intro a hF
                  refine svg hF rfl ?_
                  refine sv hF ((v_eqlB Tryd.underlying4 rfl rfl).as (congrArg Value.bool (decide_eq_true (by first | exact decide_eq_true (hiff.2 (by omega)) | exact decide_eq_false (fun e => by have h9 := hiff.1 e; omega))))) rfl ?_; clear hF a; intro a hF
                  refine sv hF (v_pickT rfl rfl) rfl ?_; clear hF a; intro a hF
                  refine sv hF (v_assign rfl) rfl ?_; clear hF a; intro a hF
                  refine WL_nil (hK _ _ ?_)
                  clear hK K
                  replace hF := hF.sub _ (c_ 6 rfl (n_))
                  refine W_ret ?_
                  refine ⟨_, _, hF, rfl, ?_⟩
                  exact ⟨rfl, hS⟩
              · clear hF a; intro hc7 a hF
                try simp only [decide_eq_true_eq, decide_eq_false_iff_not, Bool.not_eq_true', Bool.not_eq_false', Bool.not_true, Bool.not_false] at hc7
                refine sv hF (v_pickT rfl rfl) rfl ?_; clear hF a; intro a hF
                refine sv hF (v_move rfl) rfl ?_; clear hF a; intro a hF
                refine svn hF rfl rfl rfl ?_; clear hF a; intro a hF
                refine svn hF rfl rfl rfl ?_; clear hF a; intro a hF
                refine svn hF rfl rfl rfl ?_; clear hF a; intro a hF
                refine sv hF (v_pickF rfl rfl) rfl ?_; clear hF a; intro a hF
                refine sv hF (v_move rfl) rfl ?_; clear hF a; intro a hF
                refine svn hF rfl rfl rfl ?_; clear hF a; intro a hF
                refine svn hF rfl rfl rfl ?_; clear hF a; intro a hF
                refine svn hF rfl rfl rfl ?_; clear hF a; intro a hF
                refine sv hF (v_pickF rfl rfl) rfl ?_; clear hF a; intro a hF
                refine sv hF (v_assign rfl) rfl ?_; clear hF a; intro a hF
                refine WL_nil (hK _ _ ?_)
                clear hK K
                replace hF := hF.sub _ (c_ 21 rfl (c_ 20 rfl (c_ 15 rfl (c_ 14 rfl (c_ 13 rfl (c_ 12 rfl (c_ 7 rfl (c_ 6 rfl (n_)))))))))
                refine W_sr rfl (fun K hK => ?_)
                refine sv hF (v_move rfl) rfl ?_; clear hF a; intro a hF
                refine sv hF (v_move rfl) rfl ?_; clear hF a; intro a hF
                refine svg hF rfl ?_
                refine sv hF (v_move rfl) rfl ?_; clear hF a; intro a hF
                refine svg hF rfl ?_
                refine sv hF ((v_eql rfl rfl).as (congrArg Value.bool (decide_eq_true (rfl)))) rfl ?_; clear hF a; intro a hF
                refine sv hF (v_pickT rfl rfl) rfl ?_; clear hF a; intro a hF
                refine sv hF (v_move rfl) rfl ?_; clear hF a; intro a hF
                refine svg hF rfl ?_
                refine sv hF (v_move rfl) rfl ?_; clear hF a; intro a hF
                refine svg hF rfl ?_
                refine sv hF ((v_eql rfl rfl).as (congrArg Value.bool (decide_eq_true (rfl)))) rfl ?_; clear hF a; intro a hF
                refine sv hF (v_pickT rfl rfl) rfl ?_; clear hF a; intro a hF
                refine sv hF (v_move rfl) rfl ?_; clear hF a; intro a hF
                refine svg hF rfl ?_
                refine sv hF (v_move rfl) rfl ?_; clear hF a; intro a hF
                refine svg hF rfl ?_
                refine sv hF (v_move rfl) rfl ?_; clear hF a; intro a hF
                refine svg hF rfl ?_
                refine sv hF (v_eqlT rfl rfl) rfl ?_; clear hF a; intro a hF
                refine svg hF rfl ?_
                refine sv hF (v_move rfl) rfl ?_; clear hF a; intro a hF
                refine svg hF rfl ?_
                refine sv hF (v_move rfl) rfl ?_; clear hF a; intro a hF
                refine svn hF rfl rfl rfl ?_; clear hF a; intro a hF
                refine svg hF rfl ?_
                refine sv hF (v_pickT rfl rfl) rfl ?_; clear hF a; intro a hF
                refine svg hF rfl ?_
                refine sv hF ((v_eqlB Tryd.underlying4 rfl rfl).as (congrArg Value.bool (decide_eq_true (by first | exact decide_eq_true (hiff.2 (by omega)) | exact decide_eq_false (fun e => by have h9 := hiff.1 e; omega))))) rfl ?_; clear hF a; intro a hF
                refine sv hF (v_pickT rfl rfl) rfl ?_; clear hF a; intro a hF
                refine sv hF (v_assign rfl) rfl ?_; clear hF a; intro a hF
                refine WL_nil (hK _ _ ?_)
                clear hK K
                replace hF := hF.sub _ (c_ 6 rfl (n_))
                refine W_ret ?_
                refine ⟨_, _, hF, rfl, ?_⟩
                exact ⟨rfl, hS⟩
            · clear hF a; intro hc6 a hF
              try simp only [decide_eq_true_eq, decide_eq_false_iff_not, Bool.not_eq_true', Bool.not_eq_false', Bool.not_true, Bool.not_false] at hc6
              refine sv hF (v_move rfl) rfl ?_; clear hF a; intro a hF
              refine svn hF rfl rfl rfl ?_; clear hF a; intro a hF
              refine svn hF rfl rfl rfl ?_; clear hF a; intro a hF
              refine svn hF rfl rfl rfl ?_; clear hF a; intro a hF
              refine svn hF rfl rfl rfl ?_; clear hF a; intro a hF
              refine sv hF (v_pickF rfl rfl) rfl ?_; clear hF a; intro a hF
              refine sv hF (v_move rfl) rfl ?_; clear hF a; intro a hF
              refine svn hF rfl rfl rfl ?_; clear hF a; intro a hF
              refine svn hF rfl rfl rfl ?_; clear hF a; intro a hF
              refine svn hF rfl rfl rfl ?_; clear hF a; intro a hF
              refine sv hF (v_pickF rfl rfl) rfl ?_; clear hF a; intro a hF
              refine sv hF (v_move rfl) rfl ?_; clear hF a; intro a hF
              refine svn hF rfl rfl rfl ?_; clear hF a; intro a hF
              refine svn hF rfl rfl rfl ?_; clear hF a; intro a hF
              refine svn hF rfl rfl rfl ?_; clear hF a; intro a hF
              refine sv hF (v_pickF rfl rfl) rfl ?_; clear hF a; intro a hF
              refine sv hF (v_assign rfl) rfl ?_; clear hF a; intro a hF
              refine WL_nil (hK _ _ ?_)
              clear hK K
              replace hF := hF.sub _ (c_ 21 rfl (c_ 20 rfl (c_ 15 rfl (c_ 14 rfl (c_ 13 rfl (c_ 12 rfl (c_ 7 rfl (c_ 6 rfl (n_)))))))))
              refine W_sr rfl (fun K hK => ?_)
              refine sv hF (v_move rfl) rfl ?_; clear hF a; intro a hF
              refine sv hF (v_move rfl) rfl ?_; clear hF a; intro a hF
              refine svg hF rfl ?_
              refine sv hF (v_move rfl) rfl ?_; clear hF a; intro a hF
              refine svg hF rfl ?_
              refine sv hF ((v_eql rfl rfl).as (congrArg Value.bool (decide_eq_true (rfl)))) rfl ?_; clear hF a; intro a hF
              refine sv hF (v_pickT rfl rfl) rfl ?_; clear hF a; intro a hF
              refine sv hF (v_move rfl) rfl ?_; clear hF a; intro a hF
              refine svg hF rfl ?_
              refine sv hF (v_move rfl) rfl ?_; clear hF a; intro a hF
              refine svg hF rfl ?_
              refine sv hF ((v_eql rfl rfl).as (congrArg Value.bool (decide_eq_true (rfl)))) rfl ?_; clear hF a; intro a hF
              refine sv hF (v_pickT rfl rfl) rfl ?_; clear hF a; intro a hF
              refine sv hF (v_move rfl) rfl ?_; clear hF a; intro a hF
              refine svg hF rfl ?_
              refine sv hF (v_move rfl) rfl ?_; clear hF a; intro a hF
              refine svg hF rfl ?_
              refine sv hF (v_move rfl) rfl ?_; clear hF a; intro a hF
              refine svg hF rfl ?_
              refine sv hF (v_eqlT rfl rfl) rfl ?_; clear hF a; intro a hF
              refine svg hF rfl ?_
              refine sv hF (v_move rfl) rfl ?_; clear hF a; intro a hF
              refine svg hF rfl ?_
              refine sv hF (v_move rfl) rfl ?_; clear hF a; intro a hF
              refine svn hF rfl rfl rfl ?_; clear hF a; intro a hF
              refine svg hF rfl ?_
              refine sv hF (v_pickT rfl rfl) rfl ?_; clear hF a; intro a hF
              refine svg hF rfl ?_
              refine sv hF ((v_eqlB Tryd.underlying4 rfl rfl).as (congrArg Value.bool (decide_eq_true (by first | exact decide_eq_true (hiff.2 (by omega)) | exact decide_eq_false (fun e => by have h9 := hiff.1 e; omega))))) rfl ?_; clear hF a; intro a hF
              refine sv hF (v_pickT rfl rfl) rfl ?_; clear hF a; intro a hF
              refine sv hF (v_assign rfl) rfl ?_; clear hF a; intro a hF
              refine WL_nil (hK _ _ ?_)
              clear hK K
              replace hF := hF.sub _ (c_ 6 rfl (n_))
              refine W_ret ?_
              refine ⟨_, _, hF, rfl, ?_⟩
              exact ⟨rfl, hS⟩
          · clear hF a; intro hc5 a hF
            try simp only [decide_eq_true_eq, decide_eq_false_iff_not, Bool.not_eq_true', Bool.not_eq_false', Bool.not_true, Bool.not_false] at hc5
            refine sv hF (v_pickT rfl rfl) rfl ?_; clear hF a; intro a hF
            refine sv hF (v_assign rfl) rfl ?_; clear hF a; intro a hF
            refine WL_nil (hK _ _ ?_)
            clear hK K
            replace hF := hF.sub _ (c_ 20 rfl (c_ 15 rfl (c_ 14 rfl (c_ 13 rfl (c_ 12 rfl (c_ 11 rfl (c_ 10 rfl (c_ 9 rfl (c_ 8 rfl (c_ 7 rfl (c_ 6 rfl (n_))))))))))))
            refine W_sr rfl (fun K hK => ?_)
            refine sv hF (v_move rfl) rfl ?_; clear hF a; intro a hF
            refine sv hF (v_fieldAddr fa35_1 rfl) rfl ?_; clear hF a; intro a hF
            refine sv hF (v_load sc3 rfl (hx.blk.at 1 rfl)) rfl ?_; clear hF a; intro a hF
            refine sb hF (v_geq rfl rfl) rfl ?_ ?_
            · clear hF a; intro hc10 a hF
              try simp only [decide_eq_true_eq, decide_eq_false_iff_not, Bool.not_eq_true', Bool.not_eq_false', Bool.not_true, Bool.not_false] at hc10
              refine sv hF (v_move rfl) rfl ?_; clear hF a; intro a hF
              refine svg hF rfl ?_
              refine sv hF (v_move rfl) rfl ?_; clear hF a; intro a hF
              refine svg hF rfl ?_
              refine sv hF (v_fieldAddr fa35_1 rfl) rfl ?_; clear hF a; intro a hF
              refine svg hF rfl ?_
              refine sv hF (v_load sc3 rfl (hy.blk.at 1 rfl)) rfl ?_; clear hF a; intro a hF
              refine svg hF rfl ?_
              refine sb hF (v_geq rfl rfl) rfl ?_ ?_
              · clear hF a; intro hc11 a hF
                try simp only [decide_eq_true_eq, decide_eq_false_iff_not, Bool.not_eq_true', Bool.not_eq_false', Bool.not_true, Bool.not_false] at hc11
                refine sv hF (v_pickT rfl rfl) rfl ?_; clear hF a; intro a hF
                refine sv hF (v_move rfl) rfl ?_; clear hF a; intro a hF
                refine svg hF rfl ?_
                refine sv hF (v_loadN Tryd.underlying35 rfl (by kernel_rfl) rfl hx.blk) rfl ?_; clear hF a; intro a hF
                refine svg hF rfl ?_
                refine sv hF (v_loadN Tryd.underlying35 rfl (by kernel_rfl) rfl hy.blk) rfl ?_; clear hF a; intro a hF
                refine svg hF rfl ?_
                refine sb hF (v_eqlP3 Tryd.underlying35 (by kernel_rfl) (by kernel_rfl) Tryd.underlying3 Tryd.underlying3 Tryd.underlying3 (by decide) rfl rfl rfl rfl rfl) rfl ?_ ?_
                · clear hF a; intro hc12 a hF
                  try simp only [decide_eq_true_eq, decide_eq_false_iff_not, Bool.not_eq_true', Bool.not_eq_false', Bool.not_true, Bool.not_false] at hc12
                  refine sv hF (v_pickT rfl rfl) rfl ?_; clear hF a; intro a hF
                  refine sv hF (v_move rfl) rfl ?_; clear hF a; intro a hF
                  refine svg hF rfl ?_
                  refine sv hF (v_move rfl) rfl ?_; clear hF a; intro a hF
                  refine svg hF rfl ?_
                  refine sv hF (v_move rfl) rfl ?_; clear hF a; intro a hF
                  refine svg hF rfl ?_
                  refine sb hF (v_eql rfl rfl) rfl ?_ ?_
                  · clear hF a; intro hc13 a hF
                    try simp only [decide_eq_true_eq, decide_eq_false_iff_not, Bool.not_eq_true', Bool.not_eq_false', Bool.not_true, Bool.not_false] at hc13
                    refine sv hF (v_pickT rfl rfl) rfl ?_; clear hF a; intro a hF
                    refine sv hF (v_assign rfl) rfl ?_; clear hF a; intro a hF
                    refine WL_nil (hK _ _ ?_)
                    clear hK K
                    replace hF := hF.sub _ (c_ 21 rfl (c_ 20 rfl (c_ 15 rfl (c_ 14 rfl (c_ 13 rfl (c_ 12 rfl (c_ 7 rfl (c_ 6 rfl (n_)))))))))
                    refine W_sr rfl (fun K hK => ?_)
                    refine sv hF (v_move rfl) rfl ?_; clear hF a; intro a hF
                    refine sv hF (v_move rfl) rfl ?_; clear hF a; intro a hF
                    refine svg hF rfl ?_
                    refine sv hF (v_move rfl) rfl ?_; clear hF a; intro a hF
                    refine svg hF rfl ?_
                    refine sv hF ((v_eql rfl rfl).as (congrArg Value.bool (decide_eq_true (rfl)))) rfl ?_; clear hF a; intro a hF
                    refine sv hF (v_pickT rfl rfl) rfl ?_; clear hF a; intro a hF
                    refine sv hF (v_move rfl) rfl ?_; clear hF a; intro a hF
                    refine svg hF rfl ?_
                    refine sv hF (v_move rfl) rfl ?_; clear hF a; intro a hF
                    refine svg hF rfl ?_
                    refine sv hF ((v_eql rfl rfl).as (congrArg Value.bool (decide_eq_true (rfl)))) rfl ?_; clear hF a; intro a hF
                    refine sv hF (v_pickT rfl rfl) rfl ?_; clear hF a; intro a hF
                    refine sv hF (v_move rfl) rfl ?_; clear hF a; intro a hF
                    refine svg hF rfl ?_
                    refine sv hF (v_move rfl) rfl ?_; clear hF a; intro a hF
                    refine svg hF rfl ?_
                    refine sv hF (v_move rfl) rfl ?_; clear hF a; intro a hF
                    refine svg hF rfl ?_
                    refine sv hF (v_eqlT rfl rfl) rfl ?_; clear hF a; intro a hF
                    refine svg hF rfl ?_
                    refine sv hF (v_move rfl) rfl ?_; clear hF a; intro a hF
                    refine svg hF rfl ?_
                    refine sv hF (v_move rfl) rfl ?_; clear hF a; intro a hF
                    refine svg hF rfl ?_
                    refine sv hF (v_move rfl) rfl ?_; clear hF a; intro a hF
                    refine svg hF rfl ?_
                    refine sv hF (v_pickF rfl rfl) rfl ?_; clear hF a; intro a hF
                    refine svg hF rfl ?_
                    refine sv hF ((v_eqlB Tryd.underlying4 rfl rfl).as (congrArg Value.bool (decide_eq_true (by first | exact decide_eq_true (hiff.2 (by omega)) | exact decide_eq_false (fun e => by have h9 := hiff.1 e; omega))))) rfl ?_; clear hF a; intro a hF
                    refine sv hF (v_pickT rfl rfl) rfl ?_; clear hF a; intro a hF
                    refine sv hF (v_assign rfl) rfl ?_; clear hF a; intro a hF
                    refine WL_nil (hK _ _ ?_)
                    clear hK K
                    replace hF := hF.sub _ (c_ 6 rfl (n_))
                    refine W_ret ?_
                    refine ⟨_, _, hF, rfl, ?_⟩
                    exact ⟨rfl, hS⟩
                  · clear hF a; intro hc13 a hF
                    try simp only [decide_eq_true_eq, decide_eq_false_iff_not, Bool.not_eq_true', Bool.not_eq_false', Bool.not_true, Bool.not_false] at hc13
                    refine sv hF (v_pickT rfl rfl) rfl ?_; clear hF a; intro a hF
                    refine sv hF (v_assign rfl) rfl ?_; clear hF a; intro a hF
                    refine WL_nil (hK _ _ ?_)
                    clear hK K
                    replace hF := hF.sub _ (c_ 21 rfl (c_ 20 rfl (c_ 15 rfl (c_ 14 rfl (c_ 13 rfl (c_ 12 rfl (c_ 7 rfl (c_ 6 rfl (n_)))))))))
                    refine W_sr rfl (fun K hK => ?_)
                    refine sv hF (v_move rfl) rfl ?_; clear hF a; intro a hF
                    refine sv hF (v_move rfl) rfl ?_; clear hF a; intro a hF
                    refine svg hF rfl ?_
                    refine sv hF (v_move rfl) rfl ?_; clear hF a; intro a hF
                    refine svg hF rfl ?_
                    refine sv hF ((v_eql rfl rfl).as (congrArg Value.bool (decide_eq_true (rfl)))) rfl ?_; clear hF a; intro a hF
                    refine sv hF (v_pickT rfl rfl) rfl ?_; clear hF a; intro a hF
                    refine sv hF (v_move rfl) rfl ?_; clear hF a; intro a hF
                    refine svg hF rfl ?_
                    refine sv hF (v_move rfl) rfl ?_; clear hF a; intro a hF
                    refine svg hF rfl ?_
                    refine sv hF ((v_eql rfl rfl).as (congrArg Value.bool (decide_eq_true (rfl)))) rfl ?_; clear hF a; intro a hF
                    refine sv hF (v_pickT rfl rfl) rfl ?_; clear hF a; intro a hF
                    refine sv hF (v_move rfl) rfl ?_; clear hF a; intro a hF
                    refine svg hF rfl ?_
                    refine sv hF (v_move rfl) rfl ?_; clear hF a; intro a hF
                    refine svg hF rfl ?_
                    refine sv hF (v_move rfl) rfl ?_; clear hF a; intro a hF
                    refine svg hF rfl ?_
                    refine sv hF (v_eqlT rfl rfl) rfl ?_; clear hF a; intro a hF
                    refine svg hF rfl ?_
                    refine sv hF (v_move rfl) rfl ?_; clear hF a; intro a hF
                    refine svg hF rfl ?_
                    refine sv hF (v_move rfl) rfl ?_; clear hF a; intro a hF
                    refine svg hF rfl ?_
                    refine sv hF (v_move rfl) rfl ?_; clear hF a; intro a hF
                    refine svg hF rfl ?_
                    refine sv hF (v_pickF rfl rfl) rfl ?_; clear hF a; intro a hF
                    refine svg hF rfl ?_
                    refine sv hF ((v_eqlB Tryd.underlying4 rfl rfl).as (congrArg Value.bool (decide_eq_true (by first | exact decide_eq_true (hiff.2 (by omega)) | exact decide_eq_false (fun e => by have h9 := hiff.1 e; omega))))) rfl ?_; clear hF a; intro a hF
                    refine sv hF (v_pickT rfl rfl) rfl ?_; clear hF a; intro a hF
                    refine sv hF (v_assign rfl) rfl ?_; clear hF a; intro a hF
                    refine WL_nil (hK _ _ ?_)
                    clear hK K
                    replace hF := hF.sub _ (c_ 6 rfl (n_))
                    refine W_ret ?_
                    refine ⟨_, _, hF, rfl, ?_⟩
                    exact ⟨rfl, hS⟩
                · clear hF a; intro hc12 a hF
                  try simp only [decide_eq_true_eq, decide_eq_false_iff_not, Bool.not_eq_true', Bool.not_eq_false', Bool.not_true, Bool.not_false] at hc12
                  refine sv hF (v_pickT rfl rfl) rfl ?_; clear hF a; intro a hF
                  refine sv hF (v_move rfl) rfl ?_; clear hF a; intro a hF
                  refine svn hF rfl rfl rfl ?_; clear hF a; intro a hF
                  refine svn hF rfl rfl rfl ?_; clear hF a; intro a hF
                  refine svn hF rfl rfl rfl ?_; clear hF a; intro a hF
                  refine sv hF (v_pickF rfl rfl) rfl ?_; clear hF a; intro a hF
                  refine sv hF (v_assign rfl) rfl ?_; clear hF a; intro a hF
                  refine WL_nil (hK _ _ ?_)
                  clear hK K
                  replace hF := hF.sub _ (c_ 21 rfl (c_ 20 rfl (c_ 15 rfl (c_ 14 rfl (c_ 13 rfl (c_ 12 rfl (c_ 7 rfl (c_ 6 rfl (n_)))))))))
                  refine W_sr rfl (fun K hK => ?_)
                  refine sv hF (v_move rfl) rfl ?_; clear hF a; intro a hF
                  refine sv hF (v_move rfl) rfl ?_; clear hF a; intro a hF
                  refine svg hF rfl ?_
                  refine sv hF (v_move rfl) rfl ?_; clear hF a; intro a hF
                  refine svg hF rfl ?_
                  refine sv hF ((v_eql rfl rfl).as (congrArg Value.bool (decide_eq_true (rfl)))) rfl ?_; clear hF a; intro a hF
                  refine sv hF (v_pickT rfl rfl) rfl ?_; clear hF a; intro a hF
                  refine sv hF (v_move rfl) rfl ?_; clear hF a; intro a hF
                  refine svg hF rfl ?_
                  refine sv hF (v_move rfl) rfl ?_; clear hF a; intro a hF
                  refine svg hF rfl ?_
                  refine sv hF ((v_eql rfl rfl).as (congrArg Value.bool (decide_eq_true (rfl)))) rfl ?_; clear hF a; intro a hF
                  refine sv hF (v_pickT rfl rfl) rfl ?_; clear hF a; intro a hF
                  refine sv hF (v_move rfl) rfl ?_; clear hF a; intro a hF
                  refine svg hF rfl ?_
                  refine sv hF (v_move rfl) rfl ?_; clear hF a; intro a hF
                  refine svg hF rfl ?_
                  refine sv hF (v_move rfl) rfl ?_; clear hF a; intro a hF
                  refine svg hF rfl ?_
                  refine sv hF (v_eqlT rfl rfl) rfl ?_; clear hF a; intro a hF
                  refine svg hF rfl ?_
                  refine sv hF (v_move rfl) rfl ?_; clear hF a; intro a hF
                  refine svg hF rfl ?_
                  refine sv hF (v_move rfl) rfl ?_; clear hF a; intro a hF
                  refine svg hF rfl ?_
                  refine sv hF (v_move rfl) rfl ?_; clear hF a; intro a hF
                  refine svg hF rfl ?_
                  refine sv hF (v_pickF rfl rfl) rfl ?_; clear hF a; intro a hF
                  refine svg hF rfl ?_
                  refine sv hF ((v_eqlB Tryd.underlying4 rfl rfl).as (congrArg Value.bool (decide_eq_true (by first | exact decide_eq_true (hiff.2 (by omega)) | exact decide_eq_false (fun e => by have h9 := hiff.1 e; omega))))) rfl ?_; clear hF a; intro a hF
                  refine sv hF (v_pickT rfl rfl) rfl ?_; clear hF a; intro a hF
                  refine sv hF (v_assign rfl) rfl ?_; clear hF a; intro a hF
                  refine WL_nil (hK _ _ ?_)
                  clear hK K
                  replace hF := hF.sub _ (c_ 6 rfl (n_))
                  refine W_ret ?_
                  refine ⟨_, _, hF, rfl, ?_⟩
                  exact ⟨rfl, hS⟩
              · clear hF a; intro hc11 a hF
                try simp only [decide_eq_true_eq, decide_eq_false_iff_not, Bool.not_eq_true', Bool.not_eq_false', Bool.not_true, Bool.not_false] at hc11
                refine sv hF (v_pickT rfl rfl) rfl ?_; clear hF a; intro a hF
                refine sv hF (v_move rfl) rfl ?_; clear hF a; intro a hF
                refine svn hF rfl rfl rfl ?_; clear hF a; intro a hF
                refine svn hF rfl rfl rfl ?_; clear hF a; intro a hF
                refine svn hF rfl rfl rfl ?_; clear hF a; intro a hF
                refine sv hF (v_pickF rfl rfl) rfl ?_; clear hF a; intro a hF
                refine sv hF (v_move rfl) rfl ?_; clear hF a; intro a hF
                refine svn hF rfl rfl rfl ?_; clear hF a; intro a hF
                refine svn hF rfl rfl rfl ?_; clear hF a; intro a hF
                refine svn hF rfl rfl rfl ?_; clear hF a; intro a hF
                refine sv hF (v_pickF rfl rfl) rfl ?_; clear hF a; intro a hF
                refine sv hF (v_assign rfl) rfl ?_; clear hF a; intro a hF
                refine WL_nil (hK _ _ ?_)
                clear hK K
                replace hF := hF.sub _ (c_ 21 rfl (c_ 20 rfl (c_ 15 rfl (c_ 14 rfl (c_ 13 rfl (c_ 12 rfl (c_ 7 rfl (c_ 6 rfl (n_)))))))))
                refine W_sr rfl (fun K hK => ?_)
                refine sv hF (v_move rfl) rfl ?_; clear hF a; intro a hF
                refine sv hF (v_move rfl) rfl ?_; clear hF a; intro a hF
                refine svg hF rfl ?_
                refine sv hF (v_move rfl) rfl ?_; clear hF a; intro a hF
                refine svg hF rfl ?_
                refine sv hF ((v_eql rfl rfl).as (congrArg Value.bool (decide_eq_true (rfl)))) rfl ?_; clear hF a; intro a hF
                refine sv hF (v_pickT rfl rfl) rfl ?_; clear hF a; intro a hF
                refine sv hF (v_move rfl) rfl ?_; clear hF a; intro a hF
                refine svg hF rfl ?_
                refine sv hF (v_move rfl) rfl ?_; clear hF a; intro a hF
                refine svg hF rfl ?_
                refine sv hF ((v_eql rfl rfl).as (congrArg Value.bool (decide_eq_true (rfl)))) rfl ?_; clear hF a; intro a hF
                refine sv hF (v_pickT rfl rfl) rfl ?_; clear hF a; intro a hF
                refine sv hF (v_move rfl) rfl ?_; clear hF a; intro a hF
                refine svg hF rfl ?_
                refine sv hF (v_move rfl) rfl ?_; clear hF a; intro a hF
                refine svg hF rfl ?_
                refine sv hF (v_move rfl) rfl ?_; clear hF a; intro a hF
                refine svg hF rfl ?_
                refine sv hF (v_eqlT rfl rfl) rfl ?_; clear hF a; intro a hF
                refine svg hF rfl ?_
                refine sv hF (v_move rfl) rfl ?_; clear hF a; intro a hF
                refine svg hF rfl ?_
                refine sv hF (v_move rfl) rfl ?_; clear hF a; intro a hF
                refine svg hF rfl ?_
                refine sv hF (v_move rfl) rfl ?_; clear hF a; intro a hF
                refine svg hF rfl ?_
                refine sv hF (v_pickF rfl rfl) rfl ?_; clear hF a; intro a hF
                refine svg hF rfl ?_
                refine sv hF ((v_eqlB Tryd.underlying4 rfl rfl).as (congrArg Value.bool (decide_eq_true (by first | exact decide_eq_true (hiff.2 (by omega)) | exact decide_eq_false (fun e => by have h9 := hiff.1 e; omega))))) rfl ?_; clear hF a; intro a hF
                refine sv hF (v_pickT rfl rfl) rfl ?_; clear hF a; intro a hF
                refine sv hF (v_assign rfl) rfl ?_; clear hF a; intro a hF
                refine WL_nil (hK _ _ ?_)
                clear hK K
                replace hF := hF.sub _ (c_ 6 rfl (n_))
                refine W_ret ?_
                refine ⟨_, _, hF, rfl, ?_⟩
                exact ⟨rfl, hS⟩
            · clear hF a; intro hc10 a hF
              try simp only [decide_eq_true_eq, decide_eq_false_iff_not, Bool.not_eq_true', Bool.not_eq_false', Bool.not_true, Bool.not_false] at hc10
              refine sv hF (v_move rfl) rfl ?_; clear hF a; intro a hF
              refine svn hF rfl rfl rfl ?_; clear hF a; intro a hF
              refine svn hF rfl rfl rfl ?_; clear hF a; intro a hF
              refine svn hF rfl rfl rfl ?_; clear hF a; intro a hF
              refine svn hF rfl rfl rfl ?_; clear hF a; intro a hF
              refine sv hF (v_pickF rfl rfl) rfl ?_; clear hF a; intro a hF
              refine sv hF (v_move rfl) rfl ?_; clear hF a; intro a hF
              refine svn hF rfl rfl rfl ?_; clear hF a; intro a hF
              refine svn hF rfl rfl rfl ?_; clear hF a; intro a hF
              refine svn hF rfl rfl rfl ?_; clear hF a; intro a hF
              refine sv hF (v_pickF rfl rfl) rfl ?_; clear hF a; intro a hF
              refine sv hF (v_move rfl) rfl ?_; clear hF a; intro a hF
              refine svn hF rfl rfl rfl ?_; clear hF a; intro a hF
              refine svn hF rfl rfl rfl ?_; clear hF a; intro a hF
              refine svn hF rfl rfl rfl ?_; clear hF a; intro a hF
              refine sv hF (v_pickF rfl rfl) rfl ?_; clear hF a; intro a hF
              refine sv hF (v_assign rfl) rfl ?_; clear hF a; intro a hF
              refine WL_nil (hK _ _ ?_)
              clear hK K
              replace hF := hF.sub _ (c_ 21 rfl (c_ 20 rfl (c_ 15 rfl (c_ 14 rfl (c_ 13 rfl (c_ 12 rfl (c_ 7 rfl (c_ 6 rfl (n_)))))))))
              refine W_sr rfl (fun K hK => ?_)
              refine sv hF (v_move rfl) rfl ?_; clear hF a; intro a hF
              refine sv hF (v_move rfl) rfl ?_; clear hF a; intro a hF
              refine svg hF rfl ?_
              refine sv hF (v_move rfl) rfl ?_; clear hF a; intro a hF
              refine svg hF rfl ?_
              refine sv hF ((v_eql rfl rfl).as (congrArg Value.bool (decide_eq_true (rfl)))) rfl ?_; clear hF a; intro a hF
              refine sv hF (v_pickT rfl rfl) rfl ?_; clear hF a; intro a hF
              refine sv hF (v_move rfl) rfl ?_; clear hF a; intro a hF
              refine svg hF rfl ?_
              refine sv hF (v_move rfl) rfl ?_; clear hF a; intro a hF
              refine svg hF rfl ?_
              refine sv hF ((v_eql rfl rfl).as (congrArg Value.bool (decide_eq_true (rfl)))) rfl ?_; clear hF a; intro a hF
              refine sv hF (v_pickT rfl rfl) rfl ?_; clear hF a; intro a hF
              refine sv hF (v_move rfl) rfl ?_; clear hF a; intro a hF
              refine svg hF rfl ?_
              refine sv hF (v_move rfl) rfl ?_; clear hF a; intro a hF
              refine svg hF rfl ?_
              refine sv hF (v_move rfl) rfl ?_; clear hF a; intro a hF
              refine svg hF rfl ?_
              refine sv hF (v_eqlT rfl rfl) rfl ?_; clear hF a; intro a hF
              refine svg hF rfl ?_
              refine sv hF (v_move rfl) rfl ?_; clear hF a; intro a hF
              refine svg hF rfl ?_
              refine sv hF (v_move rfl) rfl ?_; clear hF a; intro a hF
              refine svg hF rfl ?_
              refine sv hF (v_move rfl) rfl ?_; clear hF a; intro a hF
              refine svg hF rfl ?_
              refine sv hF (v_pickF rfl rfl) rfl ?_; clear hF a; intro a hF
              refine svg hF rfl ?_
              refine sv hF ((v_eqlB Tryd.underlying4 rfl rfl).as (congrArg Value.bool (decide_eq_true (by first | exact decide_eq_true (hiff.2 (by omega)) | exact decide_eq_false (fun e => by have h9 := hiff.1 e; omega))))) rfl ?_; clear hF a; intro a hF
              refine sv hF (v_pickT rfl rfl) rfl ?_; clear hF a; intro a hF
              refine sv hF (v_assign rfl) rfl ?_; clear hF a; intro a hF
              refine WL_nil (hK _ _ ?_)
              clear hK K
              replace hF := hF.sub _ (c_ 6 rfl (n_))
              refine W_ret ?_
              refine ⟨_, _, hF, rfl, ?_⟩
              exact ⟨rfl, hS⟩
        · clear hF a; intro hc4 a hF
          try simp only [decide_eq_true_eq, decide_eq_false_iff_not, Bool.not_eq_true', Bool.not_eq_false', Bool.not_true, Bool.not_false] at hc4
          refine sv hF (v_pickT rfl rfl) rfl ?_; clear hF a; intro a hF
          refine sv hF (v_move rfl) rfl ?_; clear hF a; intro a hF
          refine svn hF rfl rfl rfl ?_; clear hF a; intro a hF
          refine svn hF rfl rfl rfl ?_; clear hF a; intro a hF
          refine svn hF rfl rfl rfl ?_; clear hF a; intro a hF
          refine sv hF (v_pickF rfl rfl) rfl ?_; clear hF a; intro a hF
          refine sv hF (v_assign rfl) rfl ?_; clear hF a; intro a hF
          refine WL_nil (hK _ _ ?_)
          clear hK K
          replace hF := hF.sub _ (c_ 20 rfl (c_ 15 rfl (c_ 14 rfl (c_ 13 rfl (c_ 12 rfl (c_ 11 rfl (c_ 10 rfl (c_ 9 rfl (c_ 8 rfl (c_ 7 rfl (c_ 6 rfl (n_))))))))))))
          refine W_sr rfl (fun K hK => ?_)
          refine sv hF (v_move rfl) rfl ?_; clear hF a; intro a hF
          refine sv hF (v_fieldAddr fa35_1 rfl) rfl ?_; clear hF a; intro a hF
          refine sv hF (v_load sc3 rfl (hx.blk.at 1 rfl)) rfl ?_; clear hF a; intro a hF
          refine sb hF (v_geq rfl rfl) rfl ?_ ?_
          · clear hF a; intro hc14 a hF
            try simp only [decide_eq_true_eq, decide_eq_false_iff_not, Bool.not_eq_true', Bool.not_eq_false', Bool.not_true, Bool.not_false] at hc14
            refine sv hF (v_move rfl) rfl ?_; clear hF a; intro a hF
            refine svg hF rfl ?_
            refine sv hF (v_move rfl) rfl ?_; clear hF a; intro a hF
            refine svg hF rfl ?_
            refine sv hF (v_fieldAddr fa35_1 rfl) rfl ?_; clear hF a; intro a hF
            refine svg hF rfl ?_
            refine sv hF (v_load sc3 rfl (hy.blk.at 1 rfl)) rfl ?_; clear hF a; intro a hF
            refine svg hF rfl ?_
            refine sb hF (v_geq rfl rfl) rfl ?_ ?_
            · clear hF a; intro hc15 a hF
              try simp only [decide_eq_true_eq, decide_eq_false_iff_not, Bool.not_eq_true', Bool.not_eq_false', Bool.not_true, Bool.not_false] at hc15
              refine sv hF (v_pickT rfl rfl) rfl ?_; clear hF a; intro a hF
              refine sv hF (v_move rfl) rfl ?_; clear hF a; intro a hF
              refine svg hF rfl ?_
              refine sv hF (v_loadN Tryd.underlying35 rfl (by kernel_rfl) rfl hx.blk) rfl ?_; clear hF a; intro a hF
              refine svg hF rfl ?_
              refine sv hF (v_loadN Tryd.underlying35 rfl (by kernel_rfl) rfl hy.blk) rfl ?_; clear hF a; intro a hF
              refine svg hF rfl ?_
              refine sb hF (v_eqlP3 Tryd.underlying35 (by kernel_rfl) (by kernel_rfl) Tryd.underlying3 Tryd.underlying3 Tryd.underlying3 (by decide) rfl rfl rfl rfl rfl) rfl ?_ ?_
              · clear hF a; intro hc16 a hF
                try simp only [decide_eq_true_eq, decide_eq_false_iff_not, Bool.not_eq_true', Bool.not_eq_false', Bool.not_true, Bool.not_false] at hc16
                refine sv hF (v_pickT rfl rfl) rfl ?_; clear hF a; intro a hF
                refine sv hF (v_move rfl) rfl ?_; clear hF a; intro a hF
                refine svg hF rfl ?_
                refine sv hF (v_move rfl) rfl ?_; clear hF a; intro a hF
                refine svg hF rfl ?_
                refine sv hF (v_move rfl) rfl ?_; clear hF a; intro a hF
                refine svg hF rfl ?_
                refine sb hF (v_eql rfl rfl) rfl ?_ ?_
                · clear hF a; intro hc17 a hF
                  try simp only [decide_eq_true_eq, decide_eq_false_iff_not, Bool.not_eq_true', Bool.not_eq_false', Bool.not_true, Bool.not_false] at hc17
                  refine sv hF (v_pickT rfl rfl) rfl ?_; clear hF a; intro a hF
                  refine sv hF (v_assign rfl) rfl ?_; clear hF a; intro a hF
                  refine WL_nil (hK _ _ ?_)
                  clear hK K
                  replace hF := hF.sub _ (c_ 21 rfl (c_ 20 rfl (c_ 15 rfl (c_ 14 rfl (c_ 13 rfl (c_ 12 rfl (c_ 7 rfl (c_ 6 rfl (n_)))))))))
                  refine W_sr rfl (fun K hK => ?_)
                  refine sv hF (v_move rfl) rfl ?_; clear hF a; intro a hF
                  refine sv hF (v_move rfl) rfl ?_; clear hF a; intro a hF
                  refine svg hF rfl ?_
                  refine sv hF (v_move rfl) rfl ?_; clear hF a; intro a hF
                  refine svg hF rfl ?_
                  refine sv hF ((v_eql rfl rfl).as (congrArg Value.bool (decide_eq_true (rfl)))) rfl ?_; clear hF a; intro a hF
                  refine sv hF (v_pickT rfl rfl) rfl ?_; clear hF a; intro a hF
                  refine sv hF (v_move rfl) rfl ?_; clear hF a; intro a hF
                  refine svg hF rfl ?_
                  refine sv hF (v_move rfl) rfl ?_; clear hF a; intro a hF
                  refine svg hF rfl ?_
                  refine sv hF ((v_eql rfl rfl).as (congrArg Value.bool (decide_eq_true (rfl)))) rfl ?_; clear hF a; intro a hF
                  refine sv hF (v_pickT rfl rfl) rfl ?_; clear hF a; intro a hF
                  refine sv hF (v_move rfl) rfl ?_; clear hF a; intro a hF
                  refine svg hF rfl ?_
                  refine sv hF (v_move rfl) rfl ?_; clear hF a; intro a hF
                  refine svg hF rfl ?_
                  refine sv hF (v_move rfl) rfl ?_; clear hF a; intro a hF
                  refine svg hF rfl ?_
                  refine sv hF (v_eqlT rfl rfl) rfl ?_; clear hF a; intro a hF
                  refine svg hF rfl ?_
                  refine sv hF (v_move rfl) rfl ?_; clear hF a; intro a hF
                  refine svg hF rfl ?_
                  refine sv hF (v_move rfl) rfl ?_; clear hF a; intro a hF
                  refine svg hF rfl ?_
                  refine sv hF (v_move rfl) rfl ?_; clear hF a; intro a hF
                  refine svg hF rfl ?_
                  refine sv hF (v_pickF rfl rfl) rfl ?_; clear hF a; intro a hF
                  refine svg hF rfl ?_
                  refine sv hF ((v_eqlB Tryd.underlying4 rfl rfl).as (congrArg Value.bool (decide_eq_true (by first | exact decide_eq_true (hiff.2 (by omega)) | exact decide_eq_false (fun e => by have h9 := hiff.1 e; omega))))) rfl ?_; clear hF a; intro a hF
                  refine sv hF (v_pickT rfl rfl) rfl ?_; clear hF a; intro a hF
                  refine sv hF (v_assign rfl) rfl ?_; clear hF a; intro a hF
                  refine WL_nil (hK _ _ ?_)
                  clear hK K
                  replace hF := hF.sub _ (c_ 6 rfl (n_))
                  refine W_ret ?_
                  refine ⟨_, _, hF, rfl, ?_⟩
                  exact ⟨rfl, hS⟩
                · clear hF a; intro hc17 a hF
                  try simp only [decide_eq_true_eq, decide_eq_false_iff_not, Bool.not_eq_true', Bool.not_eq_false', Bool.not_true, Bool.not_false] at hc17
                  refine sv hF (v_pickT rfl rfl) rfl ?_; clear hF a; intro a hF
                  refine sv hF (v_assign rfl) rfl ?_; clear hF a; intro a hF
                  refine WL_nil (hK _ _ ?_)
                  clear hK K
                  replace hF := hF.sub _ (c_ 21 rfl (c_ 20 rfl (c_ 15 rfl (c_ 14 rfl (c_ 13 rfl (c_ 12 rfl (c_ 7 rfl (c_ 6 rfl (n_)))))))))
                  refine W_sr rfl (fun K hK => ?_)
                  refine sv hF (v_move rfl) rfl ?_; clear hF a; intro a hF
                  refine sv hF (v_move rfl) rfl ?_; clear hF a; intro a hF
                  refine svg hF rfl ?_
                  refine sv hF (v_move rfl) rfl ?_; clear hF a; intro a hF
                  refine svg hF rfl ?_
                  refine sv hF ((v_eql rfl rfl).as (congrArg Value.bool (decide_eq_true (rfl)))) rfl ?_; clear hF a; intro a hF
                  refine sv hF (v_pickT rfl rfl) rfl ?_; clear hF a; intro a hF
                  refine sv hF (v_move rfl) rfl ?_; clear hF a; intro a hF
                  refine svg hF rfl ?_
                  refine sv hF (v_move rfl) rfl ?_; clear hF a; intro a hF
                  refine svg hF rfl ?_
                  refine sv hF ((v_eql rfl rfl).as (congrArg Value.bool (decide_eq_true (rfl)))) rfl ?_; clear hF a; intro a hF
                  refine sv hF (v_pickT rfl rfl) rfl ?_; clear hF a; intro a hF
                  refine sv hF (v_move rfl) rfl ?_; clear hF a; intro a hF
                  refine svg hF rfl ?_
                  refine sv hF (v_move rfl) rfl ?_; clear hF a; intro a hF
                  refine svg hF rfl ?_
                  refine sv hF (v_move rfl) rfl ?_; clear hF a; intro a hF
                  refine svg hF rfl ?_
                  refine sv hF (v_eqlT rfl rfl) rfl ?_; clear hF a; intro a hF
                  refine svg hF rfl ?_
                  refine sv hF (v_move rfl) rfl ?_; clear hF a; intro a hF
                  refine svg hF rfl ?_
                  refine sv hF (v_move rfl) rfl ?_; clear hF a; intro a hF
                  refine svg hF rfl ?_
                  refine sv hF (v_move rfl) rfl ?_; clear hF a; intro a hF
                  refine svg hF rfl ?_
                  refine sv hF (v_pickF rfl rfl) rfl ?_; clear hF a; intro a hF
                  refine svg hF rfl ?_
                  refine sv hF ((v_eqlB Tryd.underlying4 rfl rfl).as (congrArg Value.bool (decide_eq_true (by first | exact decide_eq_true (hiff.2 (by omega)) | exact decide_eq_false (fun e => by have h9 := hiff.1 e; omega))))) rfl ?_; clear hF a; intro a hF
                  refine sv hF (v_pickT rfl rfl) rfl ?_; clear hF a; intro a hF
                  refine sv hF (v_assign rfl) rfl ?_; clear hF a; intro a hF
                  refine WL_nil (hK _ _ ?_)
                  clear hK K
                  replace hF := hF.sub _ (c_ 6 rfl (n_))
                  refine W_ret ?_
                  refine ⟨_, _, hF, rfl, ?_⟩
                  exact ⟨rfl, hS⟩
              · clear hF a; intro hc16 a hF
                try simp only [decide_eq_true_eq, decide_eq_false_iff_not, Bool.not_eq_true', Bool.not_eq_false', Bool.not_true, Bool.not_false] at hc16
                refine sv hF (v_pickT rfl rfl) rfl ?_; clear hF a; intro a hF
                refine sv hF (v_move rfl) rfl ?_; clear hF a; intro a hF
                refine svn hF rfl rfl rfl ?_; clear hF a; intro a hF
                refine svn hF rfl rfl rfl ?_; clear hF a; intro a hF
                refine svn hF rfl rfl rfl ?_; clear hF a; intro a hF
                refine sv hF (v_pickF rfl rfl) rfl ?_; clear hF a; intro a hF
                refine sv hF (v_assign rfl) rfl ?_; clear hF a; intro a hF
                refine WL_nil (hK _ _ ?_)
                clear hK K
                replace hF := hF.sub _ (c_ 21 rfl (c_ 20 rfl (c_ 15 rfl (c_ 14 rfl (c_ 13 rfl (c_ 12 rfl (c_ 7 rfl (c_ 6 rfl (n_)))))))))
                refine W_sr rfl (fun K hK => ?_)
                refine sv hF (v_move rfl) rfl ?_; clear hF a; intro a hF
                refine sv hF (v_move rfl) rfl ?_; clear hF a; intro a hF
                refine svg hF rfl ?_
                refine sv hF (v_move rfl) rfl ?_; clear hF a; intro a hF
                refine svg hF rfl ?_
                refine sv hF ((v_eql rfl rfl).as (congrArg Value.bool (decide_eq_true (rfl)))) rfl ?_; clear hF a; intro a hF
                refine sv hF (v_pickT rfl rfl) rfl ?_; clear hF a; intro a hF
                refine sv hF (v_move rfl) rfl ?_; clear hF a; intro a hF
                refine svg hF rfl ?_
                refine sv hF (v_move rfl) rfl ?_; clear hF a; intro a hF
                refine svg hF rfl ?_
                refine sv hF ((v_eql rfl rfl).as (congrArg Value.bool (decide_eq_true (rfl)))) rfl ?_; clear hF a; intro a hF
                refine sv hF (v_pickT rfl rfl) rfl ?_; clear hF a; intro a hF
                refine sv hF (v_move rfl) rfl ?_; clear hF a; intro a hF
                refine svg hF rfl ?_
                refine sv hF (v_move rfl) rfl ?_; clear hF a; intro a hF
                refine svg hF rfl ?_
                refine sv hF (v_move rfl) rfl ?_; clear hF a; intro a hF
                refine svg hF rfl ?_
                refine sv hF (v_eqlT rfl rfl) rfl ?_; clear hF a; intro a hF
                refine svg hF rfl ?_
                refine sv hF (v_move rfl) rfl ?_; clear hF a; intro a hF
                refine svg hF rfl ?_
                refine sv hF (v_move rfl) rfl ?_; clear hF a; intro a hF
                refine svg hF rfl ?_
                refine sv hF (v_move rfl) rfl ?_; clear hF a; intro a hF
                refine svg hF rfl ?_
                refine sv hF (v_pickF rfl rfl) rfl ?_; clear hF a; intro a hF
                refine svg hF rfl ?_
                refine sv hF ((v_eqlB Tryd.underlying4 rfl rfl).as (congrArg Value.bool (decide_eq_true (by first | exact decide_eq_true (hiff.2 (by omega)) | exact decide_eq_false (fun e => by have h9 := hiff.1 e; omega))))) rfl ?_; clear hF a; intro a hF
                refine sv hF (v_pickT rfl rfl) rfl ?_; clear hF a; intro a hF
                refine sv hF (v_assign rfl) rfl ?_; clear hF a; intro a hF
                refine WL_nil (hK _ _ ?_)
                clear hK K
                replace hF := hF.sub _ (c_ 6 rfl (n_))
                refine W_ret ?_
                refine ⟨_, _, hF, rfl, ?_⟩
                exact ⟨rfl, hS⟩
            · clear hF a; intro hc15 a hF
              try simp only [decide_eq_true_eq, decide_eq_false_iff_not, Bool.not_eq_true', Bool.not_eq_false', Bool.not_true, Bool.not_false] at hc15
              refine sv hF (v_pickT rfl rfl) rfl ?_; clear hF a; intro a hF
              refine sv hF (v_move rfl) rfl ?_; clear hF a; intro a hF
              refine svn hF rfl rfl rfl ?_; clear hF a; intro a hF
              refine svn hF rfl rfl rfl ?_; clear hF a; intro a hF
              refine svn hF rfl rfl rfl ?_; clear hF a; intro a hF
              refine sv hF (v_pickF rfl rfl) rfl ?_; clear hF a; intro a hF
              refine sv hF (v_move rfl) rfl ?_; clear hF a; intro a hF
              refine svn hF rfl rfl rfl ?_; clear hF a; intro a hF
              refine svn hF rfl rfl rfl ?_; clear hF a; intro a hF
              refine svn hF rfl rfl rfl ?_; clear hF a; intro a hF
              refine sv hF (v_pickF rfl rfl) rfl ?_; clear hF a; intro a hF
              refine sv hF (v_assign rfl) rfl ?_; clear hF a; intro a hF
              refine WL_nil (hK _ _ ?_)
              clear hK K
              replace hF := hF.sub _ (c_ 21 rfl (c_ 20 rfl (c_ 15 rfl (c_ 14 rfl (c_ 13 rfl (c_ 12 rfl (c_ 7 rfl (c_ 6 rfl (n_)))))))))
              refine W_sr rfl (fun K hK => ?_)
              refine sv hF (v_move rfl) rfl ?_; clear hF a; intro a hF
              refine sv hF (v_move rfl) rfl ?_; clear hF a; intro a hF
              refine svg hF rfl ?_
              refine sv hF (v_move rfl) rfl ?_; clear hF a; intro a hF
              refine svg hF rfl ?_
              refine sv hF ((v_eql rfl rfl).as (congrArg Value.bool (decide_eq_true (rfl)))) rfl ?_; clear hF a; intro a hF
              refine sv hF (v_pickT rfl rfl) rfl ?_; clear hF a; intro a hF
              refine sv hF (v_move rfl) rfl ?_; clear hF a; intro a hF
              refine svg hF rfl ?_
              refine sv hF (v_move rfl) rfl ?_; clear hF a; intro a hF
              refine svg hF rfl ?_
              refine sv hF ((v_eql rfl rfl).as (congrArg Value.bool (decide_eq_true (rfl)))) rfl ?_; clear hF a; intro a hF
              refine sv hF (v_pickT rfl rfl) rfl ?_; clear hF a; intro a hF
              refine sv hF (v_move rfl) rfl ?_; clear hF a; intro a hF
              refine svg hF rfl ?_
              refine sv hF (v_move rfl) rfl ?_; clear hF a; intro a hF
              refine svg hF rfl ?_
              refine sv hF (v_move rfl) rfl ?_; clear hF a; intro a hF
              refine svg hF rfl ?_
              refine sv hF (v_eqlT rfl rfl) rfl ?_; clear hF a; intro a hF
              refine svg hF rfl ?_
              refine sv hF (v_move rfl) rfl ?_; clear hF a; intro a hF
              refine svg hF rfl ?_
              refine sv hF (v_move rfl) rfl ?_; clear hF a; intro a hF
              refine svg hF rfl ?_
              refine sv hF (v_move rfl) rfl ?_; clear hF a; intro a hF
              refine svg hF rfl ?_
              refine sv hF (v_pickF rfl rfl) rfl ?_; clear hF a; intro a hF
              refine svg hF rfl ?_
              refine sv hF ((v_eqlB Tryd.underlying4 rfl rfl).as (congrArg Value.bool (decide_eq_true (by first | exact decide_eq_true (hiff.2 (by omega)) | exact decide_eq_false (fun e => by have h9 := hiff.1 e; omega))))) rfl ?_; clear hF a; intro a hF
              refine sv hF (v_pickT rfl rfl) rfl ?_; clear hF a; intro a hF
              refine sv hF (v_assign rfl) rfl ?_; clear hF a; intro a hF
              refine WL_nil (hK _ _ ?_)
              clear hK K
              replace hF := hF.sub _ (c_ 6 rfl (n_))
              refine W_ret ?_
              refine ⟨_, _, hF, rfl, ?_⟩
              exact ⟨rfl, hS⟩
          · clear hF a; intro hc14 a hF
            try simp only [decide_eq_true_eq, decide_eq_false_iff_not, Bool.not_eq_true', Bool.not_eq_false', Bool.not_true, Bool.not_false] at hc14
            refine sv hF (v_move rfl) rfl ?_; clear hF a; intro a hF
            refine svn hF rfl rfl rfl ?_; clear hF a; intro a hF
            refine svn hF rfl rfl rfl ?_; clear hF a; intro a hF
            refine svn hF rfl rfl rfl ?_; clear hF a; intro a hF
            refine svn hF rfl rfl rfl ?_; clear hF a; intro a hF
            refine sv hF (v_pickF rfl rfl) rfl ?_; clear hF a; intro a hF
            refine sv hF (v_move rfl) rfl ?_; clear hF a; intro a hF
            refine svn hF rfl rfl rfl ?_; clear hF a; intro a hF
            refine svn hF rfl rfl rfl ?_; clear hF a; intro a hF
            refine svn hF rfl rfl rfl ?_; clear hF a; intro a hF
            refine sv hF (v_pickF rfl rfl) rfl ?_; clear hF a; intro a hF
            refine sv hF (v_move rfl) rfl ?_; clear hF a; intro a hF
            refine svn hF rfl rfl rfl ?_; clear hF a; intro a hF
            refine svn hF rfl rfl rfl ?_; clear hF a; intro a hF
            refine svn hF rfl rfl rfl ?_; clear hF a; intro a hF
            refine sv hF (v_pickF rfl rfl) rfl ?_; clear hF a; intro a hF
            refine sv hF (v_assign rfl) rfl ?_; clear hF a; intro a hF
            refine WL_nil (hK _ _ ?_)
            clear hK K
            replace hF := hF.sub _ (c_ 21 rfl (c_ 20 rfl (c_ 15 rfl (c_ 14 rfl (c_ 13 rfl (c_ 12 rfl (c_ 7 rfl (c_ 6 rfl (n_)))))))))
            refine W_sr rfl (fun K hK => ?_)
            refine sv hF (v_move rfl) rfl ?_; clear hF a; intro a hF
            refine sv hF (v_move rfl) rfl ?_; clear hF a; intro a hF
            refine svg hF rfl ?_
            refine sv hF (v_move rfl) rfl ?_; clear hF a; intro a hF
            refine svg hF rfl ?_
            refine sv hF ((v_eql rfl rfl).as (congrArg Value.bool (decide_eq_true (rfl)))) rfl ?_; clear hF a; intro a hF
            refine sv hF (v_pickT rfl rfl) rfl ?_; clear hF a; intro a hF
            refine sv hF (v_move rfl) rfl ?_; clear hF a; intro a hF
            refine svg hF rfl ?_
            refine sv hF (v_move rfl) rfl ?_; clear hF a; intro a hF
            refine svg hF rfl ?_
            refine sv hF ((v_eql rfl rfl).as (congrArg Value.bool (decide_eq_true (rfl)))) rfl ?_; clear hF a; intro a hF
            refine sv hF (v_pickT rfl rfl) rfl ?_; clear hF a; intro a hF
            refine sv hF (v_move rfl) rfl ?_; clear hF a; intro a hF
            refine svg hF rfl ?_
            refine sv hF (v_move rfl) rfl ?_; clear hF a; intro a hF
            refine svg hF rfl ?_
            refine sv hF (v_move rfl) rfl ?_; clear hF a; intro a hF
            refine svg hF rfl ?_
            refine sv hF (v_eqlT rfl rfl) rfl ?_; clear hF a; intro a hF
            refine svg hF rfl ?_
            refine sv hF (v_move rfl) rfl ?_; clear hF a; intro a hF
            refine svg hF rfl ?_
            refine sv hF (v_move rfl) rfl ?_; clear hF a; intro a hF
            refine svg hF rfl ?_
            refine sv hF (v_move rfl) rfl ?_; clear hF a; intro a hF
            refine svg hF rfl ?_
            refine sv hF (v_pickF rfl rfl) rfl ?_; clear hF a; intro a hF
            refine svg hF rfl ?_
            refine sv hF ((v_eqlB Tryd.underlying4 rfl rfl).as (congrArg Value.bool (decide_eq_true (by first | exact decide_eq_true (hiff.2 (by omega)) | exact decide_eq_false (fun e => by have h9 := hiff.1 e; omega))))) rfl ?_; clear hF a; intro a hF
            refine sv hF (v_pickT rfl rfl) rfl ?_; clear hF a; intro a hF
            refine sv hF (v_assign rfl) rfl ?_; clear hF a; intro a hF
            refine WL_nil (hK _ _ ?_)
            clear hK K
            replace hF := hF.sub _ (c_ 6 rfl (n_))
            refine W_ret ?_
            refine ⟨_, _, hF, rfl, ?_⟩
            exact ⟨rfl, hS⟩
      · clear hF a; intro hc3 a hF
        try simp only [decide_eq_true_eq, decide_eq_false_iff_not, Bool.not_eq_true', Bool.not_eq_false', Bool.not_true, Bool.not_false] at hc3
        refine sv hF (v_pickT rfl rfl) rfl ?_; clear hF a; intro a hF
        refine sv hF (v_move rfl) rfl ?_; clear hF a; intro a hF
        refine svn hF rfl rfl rfl ?_; clear hF a; intro a hF
        refine svn hF rfl rfl rfl ?_; clear hF a; intro a hF
        refine svn hF rfl rfl rfl ?_; clear hF a; intro a hF
        refine svn hF rfl rfl rfl ?_; clear hF a; intro a hF
        refine svn hF rfl rfl rfl ?_; clear hF a; intro a hF
        refine sv hF (v_pickF rfl rfl) rfl ?_; clear hF a; intro a hF
        refine sv hF (v_move rfl) rfl ?_; clear hF a; intro a hF
        refine svn hF rfl rfl rfl ?_; clear hF a; intro a hF
        refine svn hF rfl rfl rfl ?_; clear hF a; intro a hF
        refine svn hF rfl rfl rfl ?_; clear hF a; intro a hF
        refine sv hF (v_pickF rfl rfl) rfl ?_; clear hF a; intro a hF
        refine sv hF (v_assign rfl) rfl ?_; clear hF a; intro a hF
        refine WL_nil (hK _ _ ?_)
        clear hK K
        replace hF := hF.sub _ (c_ 20 rfl (c_ 15 rfl (c_ 14 rfl (c_ 13 rfl (c_ 12 rfl (c_ 11 rfl (c_ 10 rfl (c_ 9 rfl (c_ 8 rfl (c_ 7 rfl (c_ 6 rfl (n_))))))))))))
        refine W_sr rfl (fun K hK => ?_)
        refine sv hF (v_move rfl) rfl ?_; clear hF a; intro a hF
        refine sv hF (v_fieldAddr fa35_1 rfl) rfl ?_; clear hF a; intro a hF
        refine sv hF (v_load sc3 rfl (hx.blk.at 1 rfl)) rfl ?_; clear hF a; intro a hF
        refine sb hF (v_geq rfl rfl) rfl ?_ ?_
        · clear hF a; intro hc18 a hF
          try simp only [decide_eq_true_eq, decide_eq_false_iff_not, Bool.not_eq_true', Bool.not_eq_false', Bool.not_true, Bool.not_false] at hc18
          refine sv hF (v_move rfl) rfl ?_; clear hF a; intro a hF
          refine svg hF rfl ?_
          refine sv hF (v_move rfl) rfl ?_; clear hF a; intro a hF
          refine svg hF rfl ?_
          refine sv hF (v_fieldAddr fa35_1 rfl) rfl ?_; clear hF a; intro a hF
          refine svg hF rfl ?_
          refine sv hF (v_load sc3 rfl (hy.blk.at 1 rfl)) rfl ?_; clear hF a; intro a hF
          refine svg hF rfl ?_
          refine sb hF (v_geq rfl rfl) rfl ?_ ?_
          · clear hF a; intro hc19 a hF
            try simp only [decide_eq_true_eq, decide_eq_false_iff_not, Bool.not_eq_true', Bool.not_eq_false', Bool.not_true, Bool.not_false] at hc19
            refine sv hF (v_pickT rfl rfl) rfl ?_; clear hF a; intro a hF
            refine sv hF (v_move rfl) rfl ?_; clear hF a; intro a hF
            refine svg hF rfl ?_
            refine sv hF (v_loadN Tryd.underlying35 rfl (by kernel_rfl) rfl hx.blk) rfl ?_; clear hF a; intro a hF
            refine svg hF rfl ?_
            refine sv hF (v_loadN Tryd.underlying35 rfl (by kernel_rfl) rfl hy.blk) rfl ?_; clear hF a; intro a hF
            refine svg hF rfl ?_
            refine sb hF (v_eqlP3 Tryd.underlying35 (by kernel_rfl) (by kernel_rfl) Tryd.underlying3 Tryd.underlying3 Tryd.underlying3 (by decide) rfl rfl rfl rfl rfl) rfl ?_ ?_
            · clear hF a; intro hc20 a hF
              try simp only [decide_eq_true_eq, decide_eq_false_iff_not, Bool.not_eq_true', Bool.not_eq_false', Bool.not_true, Bool.not_false] at hc20
              refine sv hF (v_pickT rfl rfl) rfl ?_; clear hF a; intro a hF
              refine sv hF (v_move rfl) rfl ?_; clear hF a; intro a hF
              refine svg hF rfl ?_
              refine sv hF (v_move rfl) rfl ?_; clear hF a; intro a hF
              refine svg hF rfl ?_
              refine sv hF (v_move rfl) rfl ?_; clear hF a; intro a hF
              refine svg hF rfl ?_
              refine sb hF (v_eql rfl rfl) rfl ?_ ?_
              · clear hF a; intro hc21 a hF
                try simp only [decide_eq_true_eq, decide_eq_false_iff_not, Bool.not_eq_true', Bool.not_eq_false', Bool.not_true, Bool.not_false] at hc21
                refine sv hF (v_pickT rfl rfl) rfl ?_; clear hF a; intro a hF
                refine sv hF (v_assign rfl) rfl ?_; clear hF a; intro a hF
                refine WL_nil (hK _ _ ?_)
                clear hK K
                replace hF := hF.sub _ (c_ 21 rfl (c_ 20 rfl (c_ 15 rfl (c_ 14 rfl (c_ 13 rfl (c_ 12 rfl (c_ 7 rfl (c_ 6 rfl (n_)))))))))
                refine W_sr rfl (fun K hK => ?_)
                refine sv hF (v_move rfl) rfl ?_; clear hF a; intro a hF
                refine sv hF (v_move rfl) rfl ?_; clear hF a; intro a hF
                refine svg hF rfl ?_
                refine sv hF (v_move rfl) rfl ?_; clear hF a; intro a hF
                refine svg hF rfl ?_
                refine sv hF ((v_eql rfl rfl).as (congrArg Value.bool (decide_eq_true (rfl)))) rfl ?_; clear hF a; intro a hF
                refine sv hF (v_pickT rfl rfl) rfl ?_; clear hF a; intro a hF
                refine sv hF (v_move rfl) rfl ?_; clear hF a; intro a hF
                refine svg hF rfl ?_
                refine sv hF (v_move rfl) rfl ?_; clear hF a; intro a hF
                refine svg hF rfl ?_
                refine sv hF ((v_eql rfl rfl).as (congrArg Value.bool (decide_eq_true (rfl)))) rfl ?_; clear hF a; intro a hF
                refine sv hF (v_pickT rfl rfl) rfl ?_; clear hF a; intro a hF
                refine sv hF (v_move rfl) rfl ?_; clear hF a; intro a hF
                refine svg hF rfl ?_
                refine sv hF (v_move rfl) rfl ?_; clear hF a; intro a hF
                refine svg hF rfl ?_
                refine sv hF (v_move rfl) rfl ?_; clear hF a; intro a hF
                refine svg hF rfl ?_
                refine sv hF (v_eqlT rfl rfl) rfl ?_; clear hF a; intro a hF
                refine svg hF rfl ?_
                refine sv hF (v_move rfl) rfl ?_; clear hF a; intro a hF
                refine svg hF rfl ?_
                refine sv hF (v_move rfl) rfl ?_; clear hF a; intro a hF
                refine svg hF rfl ?_
                refine sv hF (v_move rfl) rfl ?_; clear hF a; intro a hF
                refine svg hF rfl ?_
                refine sv hF (v_pickF rfl rfl) rfl ?_; clear hF a; intro a hF
                refine svg hF rfl ?_
                refine sv hF ((v_eqlB Tryd.underlying4 rfl rfl).as (congrArg Value.bool (decide_eq_true (by first | exact decide_eq_true (hiff.2 (by omega)) | exact decide_eq_false (fun e => by have h9 := hiff.1 e; omega))))) rfl ?_; clear hF a; intro a hF
                refine sv hF (v_pickT rfl rfl) rfl ?_; clear hF a; intro a hF
                refine sv hF (v_assign rfl) rfl ?_; clear hF a; intro a hF
                refine WL_nil (hK _ _ ?_)
                clear hK K
                replace hF := hF.sub _ (c_ 6 rfl (n_))
                refine W_ret ?_
                refine ⟨_, _, hF, rfl, ?_⟩
                exact ⟨rfl, hS⟩
              · clear hF a; intro hc21 a hF
                try simp only [decide_eq_true_eq, decide_eq_false_iff_not, Bool.not_eq_true', Bool.not_eq_false', Bool.not_true, Bool.not_false] at hc21
                refine sv hF (v_pickT rfl rfl) rfl ?_; clear hF a; intro a hF
                refine sv hF (v_assign rfl) rfl ?_; clear hF a; intro a hF
                refine WL_nil (hK _ _ ?_)
                clear hK K
                replace hF := hF.sub _ (c_ 21 rfl (c_ 20 rfl (c_ 15 rfl (c_ 14 rfl (c_ 13 rfl (c_ 12 rfl (c_ 7 rfl (c_ 6 rfl (n_)))))))))
                refine W_sr rfl (fun K hK => ?_)
                refine sv hF (v_move rfl) rfl ?_; clear hF a; intro a hF
                refine sv hF (v_move rfl) rfl ?_; clear hF a; intro a hF
                refine svg hF rfl ?_
                refine sv hF (v_move rfl) rfl ?_; clear hF a; intro a hF
                refine svg hF rfl ?_
                refine sv hF ((v_eql rfl rfl).as (congrArg Value.bool (decide_eq_true (rfl)))) rfl ?_; clear hF a; intro a hF
                refine sv hF (v_pickT rfl rfl) rfl ?_; clear hF a; intro a hF
                refine sv hF (v_move rfl) rfl ?_; clear hF a; intro a hF
                refine svg hF rfl ?_
                refine sv hF (v_move rfl) rfl ?_; clear hF a; intro a hF
                refine svg hF rfl ?_
                refine sv hF ((v_eql rfl rfl).as (congrArg Value.bool (decide_eq_true (rfl)))) rfl ?_; clear hF a; intro a hF
                refine sv hF (v_pickT rfl rfl) rfl ?_; clear hF a; intro a hF
                refine sv hF (v_move rfl) rfl ?_; clear hF a; intro a hF
                refine svg hF rfl ?_
                refine sv hF (v_move rfl) rfl ?_; clear hF a; intro a hF
                refine svg hF rfl ?_
                refine sv hF (v_move rfl) rfl ?_; clear hF a; intro a hF
                refine svg hF rfl ?_
                refine sv hF (v_eqlT rfl rfl) rfl ?_; clear hF a; intro a hF
                refine svg hF rfl ?_
                refine sv hF (v_move rfl) rfl ?_; clear hF a; intro a hF
                refine svg hF rfl ?_
                refine sv hF (v_move rfl) rfl ?_; clear hF a; intro a hF
                refine svg hF rfl ?_
                refine sv hF (v_move rfl) rfl ?_; clear hF a; intro a hF
                refine svg hF rfl ?_
                refine sv hF (v_pickF rfl rfl) rfl ?_; clear hF a; intro a hF
                refine svg hF rfl ?_
                refine sv hF ((v_eqlB Tryd.underlying4 rfl rfl).as (congrArg Value.bool (decide_eq_true (by first | exact decide_eq_true (hiff.2 (by omega)) | exact decide_eq_false (fun e => by have h9 := hiff.1 e; omega))))) rfl ?_; clear hF a; intro a hF
                refine sv hF (v_pickT rfl rfl) rfl ?_; clear hF a; intro a hF
                refine sv hF (v_assign rfl) rfl ?_; clear hF a; intro a hF
                refine WL_nil (hK _ _ ?_)
                clear hK K
                replace hF := hF.sub _ (c_ 6 rfl (n_))
                refine W_ret ?_
                refine ⟨_, _, hF, rfl, ?_⟩
                exact ⟨rfl, hS⟩
            · clear hF a; intro hc20 a hF
              try simp only [decide_eq_true_eq, decide_eq_false_iff_not, Bool.not_eq_true', Bool.not_eq_false', Bool.not_true, Bool.not_false] at hc20
              refine sv hF (v_pickT rfl rfl) rfl ?_; clear hF a; intro a hF
              refine sv hF (v_move rfl) rfl ?_; clear hF a; intro a hF
              refine svn hF rfl rfl rfl ?_; clear hF a; intro a hF
              refine svn hF rfl rfl rfl ?_; clear hF a; intro a hF
              refine svn hF rfl rfl rfl ?_; clear hF a; intro a hF
              refine sv hF (v_pickF rfl rfl) rfl ?_; clear hF a; intro a hF
              refine sv hF (v_assign rfl) rfl ?_; clear hF a; intro a hF
              refine WL_nil (hK _ _ ?_)
              clear hK K
              replace hF := hF.sub _ (c_ 21 rfl (c_ 20 rfl (c_ 15 rfl (c_ 14 rfl (c_ 13 rfl (c_ 12 rfl (c_ 7 rfl (c_ 6 rfl (n_)))))))))
              refine W_sr rfl (fun K hK => ?_)
              refine sv hF (v_move rfl) rfl ?_; clear hF a; intro a hF
              refine sv hF (v_move rfl) rfl ?_; clear hF a; intro a hF
              refine svg hF rfl ?_
              refine sv hF (v_move rfl) rfl ?_; clear hF a; intro a hF
              refine svg hF rfl ?_
              refine sv hF ((v_eql rfl rfl).as (congrArg Value.bool (decide_eq_true (rfl)))) rfl ?_; clear hF a; intro a hF
              refine sv hF (v_pickT rfl rfl) rfl ?_; clear hF a; intro a hF
              refine sv hF (v_move rfl) rfl ?_; clear hF a; intro a hF
              refine svg hF rfl ?_
              refine sv hF (v_move rfl) rfl ?_; clear hF a; intro a hF
              refine svg hF rfl ?_
              refine sv hF ((v_eql rfl rfl).as (congrArg Value.bool (decide_eq_true (rfl)))) rfl ?_; clear hF a; intro a hF
              refine sv hF (v_pickT rfl rfl) rfl ?_; clear hF a; intro a hF
              refine sv hF (v_move rfl) rfl ?_; clear hF a; intro a hF
              refine svg hF rfl ?_
              refine sv hF (v_move rfl) rfl ?_; clear hF a; intro a hF
              refine svg hF rfl ?_
              refine sv hF (v_move rfl) rfl ?_; clear hF a; intro a hF
              refine svg hF rfl ?_
              refine sv hF (v_eqlT rfl rfl) rfl ?_; clear hF a; intro a hF
              refine svg hF rfl ?_
              refine sv hF (v_move rfl) rfl ?_; clear hF a; intro a hF
              refine svg hF rfl ?_
              refine sv hF (v_move rfl) rfl ?_; clear hF a; intro a hF
              refine svg hF rfl ?_
              refine sv hF (v_move rfl) rfl ?_; clear hF a; intro a hF
              refine svg hF rfl ?_
              refine sv hF (v_pickF rfl rfl) rfl ?_; clear hF a; intro a hF
              refine svg hF rfl ?_
              refine sv hF ((v_eqlB Tryd.underlying4 rfl rfl).as (congrArg Value.bool (decide_eq_true (by first | exact decide_eq_true (hiff.2 (by omega)) | exact decide_eq_false (fun e => by have h9 := hiff.1 e; omega))))) rfl ?_; clear hF a; intro a hF
              refine sv hF (v_pickT rfl rfl) rfl ?_; clear hF a; intro a hF
              refine sv hF (v_assign rfl) rfl ?_; clear hF a; intro a hF
              refine WL_nil (hK _ _ ?_)
              clear hK K
              replace hF := hF.sub _ (c_ 6 rfl (n_))
              refine W_ret ?_
              refine ⟨_, _, hF, rfl, ?_⟩
              exact ⟨rfl, hS⟩
          · clear hF a; intro hc19 a hF
            try simp only [decide_eq_true_eq, decide_eq_false_iff_not, Bool.not_eq_true', Bool.not_eq_false', Bool.not_true, Bool.not_false] at hc19
            refine sv hF (v_pickT rfl rfl) rfl ?_; clear hF a; intro a hF
            refine sv hF (v_move rfl) rfl ?_; clear hF a; intro a hF
            refine svn hF rfl rfl rfl ?_; clear hF a; intro a hF
            refine svn hF rfl rfl rfl ?_; clear hF a; intro a hF
            refine svn hF rfl rfl rfl ?_; clear hF a; intro a hF
            refine sv hF (v_pickF rfl rfl) rfl ?_; clear hF a; intro a hF
            refine sv hF (v_move rfl) rfl ?_; clear hF a; intro a hF
            refine svn hF rfl rfl rfl ?_; clear hF a; intro a hF
            refine svn hF rfl rfl rfl ?_; clear hF a; intro a hF
            refine svn hF rfl rfl rfl ?_; clear hF a; intro a hF
            refine sv hF (v_pickF rfl rfl) rfl ?_; clear hF a; intro a hF
            refine sv hF (v_assign rfl) rfl ?_; clear hF a; intro a hF
            refine WL_nil (hK _ _ ?_)
            clear hK K
            replace hF := hF.sub _ (c_ 21 rfl (c_ 20 rfl (c_ 15 rfl (c_ 14 rfl (c_ 13 rfl (c_ 12 rfl (c_ 7 rfl (c_ 6 rfl (n_)))))))))
            refine W_sr rfl (fun K hK => ?_)
            refine sv hF (v_move rfl) rfl ?_; clear hF a; intro a hF
            refine sv hF (v_move rfl) rfl ?_; clear hF a; intro a hF
            refine svg hF rfl ?_
            refine sv hF (v_move rfl) rfl ?_; clear hF a; intro a hF
            refine svg hF rfl ?_
            refine sv hF ((v_eql rfl rfl).as (congrArg Value.bool (decide_eq_true (rfl)))) rfl ?_; clear hF a; intro a hF
            refine sv hF (v_pickT rfl rfl) rfl ?_; clear hF a; intro a hF
            refine sv hF (v_move rfl) rfl ?_; clear hF a; intro a hF
            refine svg hF rfl ?_
            refine sv hF (v_move rfl) rfl ?_; clear hF a; intro a hF
            refine svg hF rfl ?_
            refine sv hF ((v_eql rfl rfl).as (congrArg Value.bool (decide_eq_true (rfl)))) rfl ?_; clear hF a; intro a hF
            refine sv hF (v_pickT rfl rfl) rfl ?_; clear hF a; intro a hF
            refine sv hF (v_move rfl) rfl ?_; clear hF a; intro a hF
            refine svg hF rfl ?_
            refine sv hF (v_move rfl) rfl ?_; clear hF a; intro a hF
            refine svg hF rfl ?_
            refine sv hF (v_move rfl) rfl ?_; clear hF a; intro a hF
            refine svg hF rfl ?_
            refine sv hF (v_eqlT rfl rfl) rfl ?_; clear hF a; intro a hF
            refine svg hF rfl ?_
            refine sv hF (v_move rfl) rfl ?_; clear hF a; intro a hF
            refine svg hF rfl ?_
            refine sv hF (v_move rfl) rfl ?_; clear hF a; intro a hF
            refine svg hF rfl ?_
            refine sv hF (v_move rfl) rfl ?_; clear hF a; intro a hF
            refine svg hF rfl ?_
            refine sv hF (v_pickF rfl rfl) rfl ?_; clear hF a; intro a hF
            refine svg hF rfl ?_
            refine sv hF ((v_eqlB Tryd.underlying4 rfl rfl).as (congrArg Value.bool (decide_eq_true (by first | exact decide_eq_true (hiff.2 (by omega)) | exact decide_eq_false (fun e => by have h9 := hiff.1 e; omega))))) rfl ?_; clear hF a; intro a hF
            refine sv hF (v_pickT rfl rfl) rfl ?_; clear hF a; intro a hF
            refine sv hF (v_assign rfl) rfl ?_; clear hF a; intro a hF
            refine WL_nil (hK _ _ ?_)
            clear hK K
            replace hF := hF.sub _ (c_ 6 rfl (n_))
            refine W_ret ?_
            refine ⟨_, _, hF, rfl, ?_⟩
            exact ⟨rfl, hS⟩
        · clear hF a; intro hc18 a hF
          try simp only [decide_eq_true_eq, decide_eq_false_iff_not, Bool.not_eq_true', Bool.not_eq_false', Bool.not_true, Bool.not_false] at hc18
          refine sv hF (v_move rfl) rfl ?_; clear hF a; intro a hF
          refine svn hF rfl rfl rfl ?_; clear hF a; intro a hF
          refine svn hF rfl rfl rfl ?_; clear hF a; intro a hF
          refine svn hF rfl rfl rfl ?_; clear hF a; intro a hF
          refine svn hF rfl rfl rfl ?_; clear hF a; intro a hF
          refine sv hF (v_pickF rfl rfl) rfl ?_; clear hF a; intro a hF
          refine sv hF (v_move rfl) rfl ?_; clear hF a; intro a hF
          refine svn hF rfl rfl rfl ?_; clear hF a; intro a hF
          refine svn hF rfl rfl rfl ?_; clear hF a; intro a hF
          refine svn hF rfl rfl rfl ?_; clear hF a; intro a hF
          refine sv hF (v_pickF rfl rfl) rfl ?_; clear hF a; intro a hF
          refine sv hF (v_move rfl) rfl ?_; clear hF a; intro a hF
          refine svn hF rfl rfl rfl ?_; clear hF a; intro a hF
          refine svn hF rfl rfl rfl ?_; clear hF a; intro a hF
          refine svn hF rfl rfl rfl ?_; clear hF a; intro a hF
          refine sv hF (v_pickF rfl rfl) rfl ?_; clear hF a; intro a hF
          refine sv hF (v_assign rfl) rfl ?_; clear hF a; intro a hF
          refine WL_nil (hK _ _ ?_)
          clear hK K
          replace hF := hF.sub _ (c_ 21 rfl (c_ 20 rfl (c_ 15 rfl (c_ 14 rfl (c_ 13 rfl (c_ 12 rfl (c_ 7 rfl (c_ 6 rfl (n_)))))))))
          refine W_sr rfl (fun K hK => ?_)
          refine sv hF (v_move rfl) rfl ?_; clear hF a; intro a hF
          refine sv hF (v_move rfl) rfl ?_; clear hF a; intro a hF
          refine svg hF rfl ?_
          refine sv hF (v_move rfl) rfl ?_; clear hF a; intro a hF
          refine svg hF rfl ?_
          refine sv hF ((v_eql rfl rfl).as (congrArg Value.bool (decide_eq_true (rfl)))) rfl ?_; clear hF a; intro a hF
          refine sv hF (v_pickT rfl rfl) rfl ?_; clear hF a; intro a hF
          refine sv hF (v_move rfl) rfl ?_; clear hF a; intro a hF
          refine svg hF rfl ?_
          refine sv hF (v_move rfl) rfl ?_; clear hF a; intro a hF
          refine svg hF rfl ?_
          refine sv hF ((v_eql rfl rfl).as (congrArg Value.bool (decide_eq_true (rfl)))) rfl ?_; clear hF a; intro a hF
          refine sv hF (v_pickT rfl rfl) rfl ?_; clear hF a; intro a hF
          refine sv hF (v_move rfl) rfl ?_; clear hF a; intro a hF
          refine svg hF rfl ?_
          refine sv hF (v_move rfl) rfl ?_; clear hF a; intro a hF
          refine svg hF rfl ?_
          refine sv hF (v_move rfl) rfl ?_; clear hF a; intro a hF
          refine svg hF rfl ?_
          refine sv hF (v_eqlT rfl rfl) rfl ?_; clear hF a; intro a hF
          refine svg hF rfl ?_
          refine sv hF (v_move rfl) rfl ?_; clear hF a; intro a hF
          refine svg hF rfl ?_
          refine sv hF (v_move rfl) rfl ?_; clear hF a; intro a hF
          refine svg hF rfl ?_
          refine sv hF (v_move rfl) rfl ?_; clear hF a; intro a hF
          refine svg hF rfl ?_
          refine sv hF (v_pickF rfl rfl) rfl ?_; clear hF a; intro a hF
          refine svg hF rfl ?_
          refine sv hF ((v_eqlB Tryd.underlying4 rfl rfl).as (congrArg Value.bool (decide_eq_true (by first | exact decide_eq_true (hiff.2 (by omega)) | exact decide_eq_false (fun e => by have h9 := hiff.1 e; omega))))) rfl ?_; clear hF a; intro a hF
          refine sv hF (v_pickT rfl rfl) rfl ?_; clear hF a; intro a hF
          refine sv hF (v_assign rfl) rfl ?_; clear hF a; intro a hF
          refine WL_nil (hK _ _ ?_)
          clear hK K
          replace hF := hF.sub _ (c_ 6 rfl (n_))
          refine W_ret ?_
          refine ⟨_, _, hF, rfl, ?_⟩
          exact ⟨rfl, hS⟩
    · clear hF a; intro hc2 a hF
      try simp only [decide_eq_true_eq, decide_eq_false_iff_not, Bool.not_eq_true', Bool.not_eq_false', Bool.not_true, Bool.not_false] at hc2
      refine sv hF (v_pickT rfl rfl) rfl ?_; clear hF a; intro a hF
      refine sv hF (v_move rfl) rfl ?_; clear hF a; intro a hF
      refine svn hF rfl rfl rfl ?_; clear hF a; intro a hF
      refine svn hF rfl rfl rfl ?_; clear hF a; intro a hF
      refine svn hF rfl rfl rfl ?_; clear hF a; intro a hF
      refine svn hF rfl rfl rfl ?_; clear hF a; intro a hF
      refine svn hF rfl rfl rfl ?_; clear hF a; intro a hF
      refine sv hF (v_pickF rfl rfl) rfl ?_; clear hF a; intro a hF
      refine sv hF (v_move rfl) rfl ?_; clear hF a; intro a hF
      refine svn hF rfl rfl rfl ?_; clear hF a; intro a hF
      refine svn hF rfl rfl rfl ?_; clear hF a; intro a hF
      refine svn hF rfl rfl rfl ?_; clear hF a; intro a hF
      refine svn hF rfl rfl rfl ?_; clear hF a; intro a hF
      refine svn hF rfl rfl rfl ?_; clear hF a; intro a hF
      refine sv hF (v_pickF rfl rfl) rfl ?_; clear hF a; intro a hF
      refine sv hF (v_move rfl) rfl ?_; clear hF a; intro a hF
      refine svn hF rfl rfl rfl ?_; clear hF a; intro a hF
      refine svn hF rfl rfl rfl ?_; clear hF a; intro a hF
      refine svn hF rfl rfl rfl ?_; clear hF a; intro a hF
      refine sv hF (v_pickF rfl rfl) rfl ?_; clear hF a; intro a hF
      refine sv hF (v_assign rfl) rfl ?_; clear hF a; intro a hF
      refine WL_nil (hK _ _ ?_)
      clear hK K
      replace hF := hF.sub _ (c_ 20 rfl (c_ 15 rfl (c_ 14 rfl (c_ 13 rfl (c_ 12 rfl (c_ 11 rfl (c_ 10 rfl (c_ 9 rfl (c_ 8 rfl (c_ 7 rfl (c_ 6 rfl (n_))))))))))))
      refine W_sr rfl (fun K hK => ?_)
      refine sv hF (v_move rfl) rfl ?_; clear hF a; intro a hF
      refine sv hF (v_fieldAddr fa35_1 rfl) rfl ?_; clear hF a; intro a hF
      refine sv hF (v_load sc3 rfl (hx.blk.at 1 rfl)) rfl ?_; clear hF a; intro a hF
      refine sb hF (v_geq rfl rfl) rfl ?_ ?_
      · clear hF a; intro hc22 a hF
        try simp only [decide_eq_true_eq, decide_eq_false_iff_not, Bool.not_eq_true', Bool.not_eq_false', Bool.not_true, Bool.not_false] at hc22
        refine sv hF (v_move rfl) rfl ?_; clear hF a; intro a hF
        refine svg hF rfl ?_
        refine sv hF (v_move rfl) rfl ?_; clear hF a; intro a hF
        refine svg hF rfl ?_
        refine sv hF (v_fieldAddr fa35_1 rfl) rfl ?_; clear hF a; intro a hF
        refine svg hF rfl ?_
        refine sv hF (v_load sc3 rfl (hy.blk.at 1 rfl)) rfl ?_; clear hF a; intro a hF
        refine svg hF rfl ?_
        refine sb hF (v_geq rfl rfl) rfl ?_ ?_
        · clear hF a; intro hc23 a hF
          try simp only [decide_eq_true_eq, decide_eq_false_iff_not, Bool.not_eq_true', Bool.not_eq_false', Bool.not_true, Bool.not_false] at hc23
          refine sv hF (v_pickT rfl rfl) rfl ?_; clear hF a; intro a hF
          refine sv hF (v_move rfl) rfl ?_; clear hF a; intro a hF
          refine svg hF rfl ?_
          refine sv hF (v_loadN Tryd.underlying35 rfl (by kernel_rfl) rfl hx.blk) rfl ?_; clear hF a; intro a hF
          refine svg hF rfl ?_
          refine sv hF (v_loadN Tryd.underlying35 rfl (by kernel_rfl) rfl hy.blk) rfl ?_; clear hF a; intro a hF
          refine svg hF rfl ?_
          refine sb hF (v_eqlP3 Tryd.underlying35 (by kernel_rfl) (by kernel_rfl) Tryd.underlying3 Tryd.underlying3 Tryd.underlying3 (by decide) rfl rfl rfl rfl rfl) rfl ?_ ?_
          · clear hF a; intro hc24 a hF
            try simp only [decide_eq_true_eq, decide_eq_false_iff_not, Bool.not_eq_true', Bool.not_eq_false', Bool.not_true, Bool.not_false] at hc24
            refine sv hF (v_pickT rfl rfl) rfl ?_; clear hF a; intro a hF
            refine sv hF (v_move rfl) rfl ?_; clear hF a; intro a hF
            refine svg hF rfl ?_
            refine sv hF (v_move rfl) rfl ?_; clear hF a; intro a hF
            refine svg hF rfl ?_
            refine sv hF (v_move rfl) rfl ?_; clear hF a; intro a hF
            refine svg hF rfl ?_
            refine sb hF (v_eql rfl rfl) rfl ?_ ?_
            · clear hF a; intro hc25 a hF
              try simp only [decide_eq_true_eq, decide_eq_false_iff_not, Bool.not_eq_true', Bool.not_eq_false', Bool.not_true, Bool.not_false] at hc25
              refine sv hF (v_pickT rfl rfl) rfl ?_; clear hF a; intro a hF
              refine sv hF (v_assign rfl) rfl ?_; clear hF a; intro a hF
              refine WL_nil (hK _ _ ?_)
              clear hK K
              replace hF := hF.sub _ (c_ 21 rfl (c_ 20 rfl (c_ 15 rfl (c_ 14 rfl (c_ 13 rfl (c_ 12 rfl (c_ 7 rfl (c_ 6 rfl (n_)))))))))
              refine W_sr rfl (fun K hK => ?_)
              refine sv hF (v_move rfl) rfl ?_; clear hF a; intro a hF
              refine sv hF (v_move rfl) rfl ?_; clear hF a; intro a hF
              refine svg hF rfl ?_
              refine sv hF (v_move rfl) rfl ?_; clear hF a; intro a hF
              refine svg hF rfl ?_
              refine sv hF ((v_eql rfl rfl).as (congrArg Value.bool (decide_eq_true (rfl)))) rfl ?_; clear hF a; intro a hF
              refine sv hF (v_pickT rfl rfl) rfl ?_; clear hF a; intro a hF
              refine sv hF (v_move rfl) rfl ?_; clear hF a; intro a hF
              refine svg hF rfl ?_
              refine sv hF (v_move rfl) rfl ?_; clear hF a; intro a hF
              refine svg hF rfl ?_
              refine sv hF ((v_eql rfl rfl).as (congrArg Value.bool (decide_eq_true (rfl)))) rfl ?_; clear hF a; intro a hF
              refine sv hF (v_pickT rfl rfl) rfl ?_; clear hF a; intro a hF
              refine sv hF (v_move rfl) rfl ?_; clear hF a; intro a hF
              refine svg hF rfl ?_
              refine sv hF (v_move rfl) rfl ?_; clear hF a; intro a hF
              refine svg hF rfl ?_
              refine sv hF (v_move rfl) rfl ?_; clear hF a; intro a hF
              refine svg hF rfl ?_
              refine sv hF (v_eqlT rfl rfl) rfl ?_; clear hF a; intro a hF
              refine svg hF rfl ?_
              refine sv hF (v_move rfl) rfl ?_; clear hF a; intro a hF
              refine svg hF rfl ?_
              refine sv hF (v_move rfl) rfl ?_; clear hF a; intro a hF
              refine svg hF rfl ?_
              refine sv hF (v_move rfl) rfl ?_; clear hF a; intro a hF
              refine svg hF rfl ?_
              refine sv hF (v_pickF rfl rfl) rfl ?_; clear hF a; intro a hF
              refine svg hF rfl ?_
              refine sv hF ((v_eqlB Tryd.underlying4 rfl rfl).as (congrArg Value.bool (decide_eq_true (by first | exact decide_eq_true (hiff.2 (by omega)) | exact decide_eq_false (fun e => by have h9 := hiff.1 e; omega))))) rfl ?_; clear hF a; intro a hF
              refine sv hF (v_pickT rfl rfl) rfl ?_; clear hF a; intro a hF
              refine sv hF (v_assign rfl) rfl ?_; clear hF a; intro a hF
              refine WL_nil (hK _ _ ?_)
              clear hK K
              replace hF := hF.sub _ (c_ 6 rfl (n_))
              refine W_ret ?_
              refine ⟨_, _, hF, rfl, ?_⟩
              exact ⟨rfl, hS⟩
            · clear hF a; intro hc25 a hF
              try simp only [decide_eq_true_eq, decide_eq_false_iff_not, Bool.not_eq_true', Bool.not_eq_false', Bool.not_true, Bool.not_false] at hc25
              refine sv hF (v_pickT rfl rfl) rfl ?_; clear hF a; intro a hF
              refine sv hF (v_assign rfl) rfl ?_; clear hF a; intro a hF
              refine WL_nil (hK _ _ ?_)
              clear hK K
              replace hF := hF.sub _ (c_ 21 rfl (c_ 20 rfl (c_ 15 rfl (c_ 14 rfl (c_ 13 rfl (c_ 12 rfl (c_ 7 rfl (c_ 6 rfl (n_)))))))))
              refine W_sr rfl (fun K hK => ?_)
              refine sv hF (v_move rfl) rfl ?_; clear hF a; intro a hF
              refine sv hF (v_move rfl) rfl ?_; clear hF a; intro a hF
              refine svg hF rfl ?_
              refine sv hF (v_move rfl) rfl ?_; clear hF a; intro a hF
              refine svg hF rfl ?_
              refine sv hF ((v_eql rfl rfl).as (congrArg Value.bool (decide_eq_true (rfl)))) rfl ?_; clear hF a; intro a hF
              refine sv hF (v_pickT rfl rfl) rfl ?_; clear hF a; intro a hF
              refine sv hF (v_move rfl) rfl ?_; clear hF a; intro a hF
              refine svg hF rfl ?_
              refine sv hF (v_move rfl) rfl ?_; clear hF a; intro a hF
              refine svg hF rfl ?_
              refine sv hF ((v_eql rfl rfl).as (congrArg Value.bool (decide_eq_true (rfl)))) rfl ?_; clear hF a; intro a hF
              refine sv hF (v_pickT rfl rfl) rfl ?_; clear hF a; intro a hF
              refine sv hF (v_move rfl) rfl ?_; clear hF a; intro a hF
              refine svg hF rfl ?_
              refine sv hF (v_move rfl) rfl ?_; clear hF a; intro a hF
              refine svg hF rfl ?_
              refine sv hF (v_move rfl) rfl ?_; clear hF a; intro a hF
              refine svg hF rfl ?_
              refine sv hF (v_eqlT rfl rfl) rfl ?_; clear hF a; intro a hF
              refine svg hF rfl ?_
              refine sv hF (v_move rfl) rfl ?_; clear hF a; intro a hF
              refine svg hF rfl ?_
              refine sv hF (v_move rfl) rfl ?_; clear hF a; intro a hF
              refine svg hF rfl ?_
              refine sv hF (v_move rfl) rfl ?_; clear hF a; intro a hF
              refine svg hF rfl ?_
              refine sv hF (v_pickF rfl rfl) rfl ?_; clear hF a; intro a hF
              refine svg hF rfl ?_
              refine sv hF ((v_eqlB Tryd.underlying4 rfl rfl).as (congrArg Value.bool (decide_eq_true (by first | exact decide_eq_true (hiff.2 (by omega)) | exact decide_eq_false (fun e => by have h9 := hiff.1 e; omega))))) rfl ?_; clear hF a; intro a hF
              refine sv hF (v_pickT rfl rfl) rfl ?_; clear hF a; intro a hF
              refine sv hF (v_assign rfl) rfl ?_; clear hF a; intro a hF
              refine WL_nil (hK _ _ ?_)
              clear hK K
              replace hF := hF.sub _ (c_ 6 rfl (n_))
              refine W_ret ?_
              refine ⟨_, _, hF, rfl, ?_⟩
              exact ⟨rfl, hS⟩
          · clear hF a; intro hc24 a hF
            try simp only [decide_eq_true_eq, decide_eq_false_iff_not, Bool.not_eq_true', Bool.not_eq_false', Bool.not_true, Bool.not_false] at hc24
            refine sv hF (v_pickT rfl rfl) rfl ?_; clear hF a; intro a hF
            refine sv hF (v_move rfl) rfl ?_; clear hF a; intro a hF
            refine svn hF rfl rfl rfl ?_; clear hF a; intro a hF
            refine svn hF rfl rfl rfl ?_; clear hF a; intro a hF
            refine svn hF rfl rfl rfl ?_; clear hF a; intro a hF
            refine sv hF (v_pickF rfl rfl) rfl ?_; clear hF a; intro a hF
            refine sv hF (v_assign rfl) rfl ?_; clear hF a; intro a hF
            refine WL_nil (hK _ _ ?_)
            clear hK K
            replace hF := hF.sub _ (c_ 21 rfl (c_ 20 rfl (c_ 15 rfl (c_ 14 rfl (c_ 13 rfl (c_ 12 rfl (c_ 7 rfl (c_ 6 rfl (n_)))))))))
            refine W_sr rfl (fun K hK => ?_)
            refine sv hF (v_move rfl) rfl ?_; clear hF a; intro a hF
            refine sv hF (v_move rfl) rfl ?_; clear hF a; intro a hF
            refine svg hF rfl ?_
            refine sv hF (v_move rfl) rfl ?_; clear hF a; intro a hF
            refine svg hF rfl ?_
            refine sv hF ((v_eql rfl rfl).as (congrArg Value.bool (decide_eq_true (rfl)))) rfl ?_; clear hF a; intro a hF
            refine sv hF (v_pickT rfl rfl) rfl ?_; clear hF a; intro a hF
            refine sv hF (v_move rfl) rfl ?_; clear hF a; intro a hF
            refine svg hF rfl ?_
            refine sv hF (v_move rfl) rfl ?_; clear hF a; intro a hF
            refine svg hF rfl ?_
            refine sv hF ((v_eql rfl rfl).as (congrArg Value.bool (decide_eq_true (rfl)))) rfl ?_; clear hF a; intro a hF
            refine sv hF (v_pickT rfl rfl) rfl ?_; clear hF a; intro a hF
            refine sv hF (v_move rfl) rfl ?_; clear hF a; intro a hF
            refine svg hF rfl ?_
            refine sv hF (v_move rfl) rfl ?_; clear hF a; intro a hF
            refine svg hF rfl ?_
            refine sv hF (v_move rfl) rfl ?_; clear hF a; intro a hF
            refine svg hF rfl ?_
            refine sv hF (v_eqlT rfl rfl) rfl ?_; clear hF a; intro a hF
            refine svg hF rfl ?_
            refine sv hF (v_move rfl) rfl ?_; clear hF a; intro a hF
            refine svg hF rfl ?_
            refine sv hF (v_move rfl) rfl ?_; clear hF a; intro a hF
            refine svg hF rfl ?_
            refine sv hF (v_move rfl) rfl ?_; clear hF a; intro a hF
            refine svg hF rfl ?_
            refine sv hF (v_pickF rfl rfl) rfl ?_; clear hF a; intro a hF
            refine svg hF rfl ?_
            refine sv hF ((v_eqlB Tryd.underlying4 rfl rfl).as (congrArg Value.bool (decide_eq_true (by first | exact decide_eq_true (hiff.2 (by omega)) | exact decide_eq_false (fun e => by have h9 := hiff.1 e; omega))))) rfl ?_; clear hF a; intro a hF
            refine sv hF (v_pickT rfl rfl) rfl ?_; clear hF a; intro a hF
            refine sv hF (v_assign rfl) rfl ?_; clear hF a; intro a hF
            refine WL_nil (hK _ _ ?_)
            clear hK K
            replace hF := hF.sub _ (c_ 6 rfl (n_))
            refine W_ret ?_
            refine ⟨_, _, hF, rfl, ?_⟩
            exact ⟨rfl, hS⟩
        · clear hF a; intro hc23 a hF
          try simp only [decide_eq_true_eq, decide_eq_false_iff_not, Bool.not_eq_true', Bool.not_eq_false', Bool.not_true, Bool.not_false] at hc23
          refine sv hF (v_pickT rfl rfl) rfl ?_; clear hF a; intro a hF
          refine sv hF (v_move rfl) rfl ?_; clear hF a; intro a hF
          refine svn hF rfl rfl rfl ?_; clear hF a; intro a hF
          refine svn hF rfl rfl rfl ?_; clear hF a; intro a hF
          refine svn hF rfl rfl rfl ?_; clear hF a; intro a hF
          refine sv hF (v_pickF rfl rfl) rfl ?_; clear hF a; intro a hF
          refine sv hF (v_move rfl) rfl ?_; clear hF a; intro a hF
          refine svn hF rfl rfl rfl ?_; clear hF a; intro a hF
          refine svn hF rfl rfl rfl ?_; clear hF a; intro a hF
          refine svn hF rfl rfl rfl ?_; clear hF a; intro a hF
          refine sv hF (v_pickF rfl rfl) rfl ?_; clear hF a; intro a hF
          refine sv hF (v_assign rfl) rfl ?_; clear hF a; intro a hF
          refine WL_nil (hK _ _ ?_)
          clear hK K
          replace hF := hF.sub _ (c_ 21 rfl (c_ 20 rfl (c_ 15 rfl (c_ 14 rfl (c_ 13 rfl (c_ 12 rfl (c_ 7 rfl (c_ 6 rfl (n_)))))))))
          refine W_sr rfl (fun K hK => ?_)
          refine sv hF (v_move rfl) rfl ?_; clear hF a; intro a hF
          refine sv hF (v_move rfl) rfl ?_; clear hF a; intro a hF
          refine svg hF rfl ?_
          refine sv hF (v_move rfl) rfl ?_; clear hF a; intro a hF
          refine svg hF rfl ?_
          refine sv hF ((v_eql rfl rfl).as (congrArg Value.bool (decide_eq_true (rfl)))) rfl ?_; clear hF a; intro a hF
          refine sv hF (v_pickT rfl rfl) rfl ?_; clear hF a; intro a hF
          refine sv hF (v_move rfl) rfl ?_; clear hF a; intro a hF
          refine svg hF rfl ?_
          refine sv hF (v_move rfl) rfl ?_; clear hF a; intro a hF
          refine svg hF rfl ?_
          refine sv hF ((v_eql rfl rfl).as (congrArg Value.bool (decide_eq_true (rfl)))) rfl ?_; clear hF a; intro a hF
          refine sv hF (v_pickT rfl rfl) rfl ?_; clear hF a; intro a hF
          refine sv hF (v_move rfl) rfl ?_; clear hF a; intro a hF
          refine svg hF rfl ?_
          refine sv hF (v_move rfl) rfl ?_; clear hF a; intro a hF
          refine svg hF rfl ?_
          refine sv hF (v_move rfl) rfl ?_; clear hF a; intro a hF
          refine svg hF rfl ?_
          refine sv hF (v_eqlT rfl rfl) rfl ?_; clear hF a; intro a hF
          refine svg hF rfl ?_
          refine sv hF (v_move rfl) rfl ?_; clear hF a; intro a hF
          refine svg hF rfl ?_
          refine sv hF (v_move rfl) rfl ?_; clear hF a; intro a hF
          refine svg hF rfl ?_
          refine sv hF (v_move rfl) rfl ?_; clear hF a; intro a hF
          refine svg hF rfl ?_
          refine sv hF (v_pickF rfl rfl) rfl ?_; clear hF a; intro a hF
          refine svg hF rfl ?_
          refine sv hF ((v_eqlB Tryd.underlying4 rfl rfl).as (congrArg Value.bool (decide_eq_true (by first | exact decide_eq_true (hiff.2 (by omega)) | exact decide_eq_false (fun e => by have h9 := hiff.1 e; omega))))) rfl ?_; clear hF a; intro a hF
          refine sv hF (v_pickT rfl rfl) rfl ?_; clear hF a; intro a hF
          refine sv hF (v_assign rfl) rfl ?_; clear hF a; intro a hF
          refine WL_nil (hK _ _ ?_)
          clear hK K
          replace hF := hF.sub _ (c_ 6 rfl (n_))
          refine W_ret ?_
          refine ⟨_, _, hF, rfl, ?_⟩
          exact ⟨rfl, hS⟩
      · clear hF a; intro hc22 a hF
        try simp only [decide_eq_true_eq, decide_eq_false_iff_not, Bool.not_eq_true', Bool.not_eq_false', Bool.not_true, Bool.not_false] at hc22
        refine sv hF (v_move rfl) rfl ?_; clear hF a; intro a hF
        refine svn hF rfl rfl rfl ?_; clear hF a; intro a hF
        refine svn hF rfl rfl rfl ?_; clear hF a; intro a hF
        refine svn hF rfl rfl rfl ?_; clear hF a; intro a hF
        refine svn hF rfl rfl rfl ?_; clear hF a; intro a hF
        refine sv hF (v_pickF rfl rfl) rfl ?_; clear hF a; intro a hF
        refine sv hF (v_move rfl) rfl ?_; clear hF a; intro a hF
        refine svn hF rfl rfl rfl ?_; clear hF a; intro a hF
        refine svn hF rfl rfl rfl ?_; clear hF a; intro a hF
        refine svn hF rfl rfl rfl ?_; clear hF a; intro a hF
        refine sv hF (v_pickF rfl rfl) rfl ?_; clear hF a; intro a hF
        refine sv hF (v_move rfl) rfl ?_; clear hF a; intro a hF
        refine svn hF rfl rfl rfl ?_; clear hF a; intro a hF
        refine svn hF rfl rfl rfl ?_; clear hF a; intro a hF
        refine svn hF rfl rfl rfl ?_; clear hF a; intro a hF
        refine sv hF (v_pickF rfl rfl) rfl ?_; clear hF a; intro a hF
        refine sv hF (v_assign rfl) rfl ?_; clear hF a; intro a hF
        refine WL_nil (hK _ _ ?_)
        clear hK K
        replace hF := hF.sub _ (c_ 21 rfl (c_ 20 rfl (c_ 15 rfl (c_ 14 rfl (c_ 13 rfl (c_ 12 rfl (c_ 7 rfl (c_ 6 rfl (n_)))))))))
        refine W_sr rfl (fun K hK => ?_)
        refine sv hF (v_move rfl) rfl ?_; clear hF a; intro a hF
        refine sv hF (v_move rfl) rfl ?_; clear hF a; intro a hF
        refine svg hF rfl ?_
        refine sv hF (v_move rfl) rfl ?_; clear hF a; intro a hF
        refine svg hF rfl ?_
        refine sv hF ((v_eql rfl rfl).as (congrArg Value.bool (decide_eq_true (rfl)))) rfl ?_; clear hF a; intro a hF
        refine sv hF (v_pickT rfl rfl) rfl ?_; clear hF a; intro a hF
        refine sv hF (v_move rfl) rfl ?_; clear hF a; intro a hF
        refine svg hF rfl ?_
        refine sv hF (v_move rfl) rfl ?_; clear hF a; intro a hF
        refine svg hF rfl ?_
        refine sv hF ((v_eql rfl rfl).as (congrArg Value.bool (decide_eq_true (rfl)))) rfl ?_; clear hF a; intro a hF
        refine sv hF (v_pickT rfl rfl) rfl ?_; clear hF a; intro a hF
        refine sv hF (v_move rfl) rfl ?_; clear hF a; intro a hF
        refine svg hF rfl ?_
        refine sv hF (v_move rfl) rfl ?_; clear hF a; intro a hF
        refine svg hF rfl ?_
        refine sv hF (v_move rfl) rfl ?_; clear hF a; intro a hF
        refine svg hF rfl ?_
        refine sv hF (v_eqlT rfl rfl) rfl ?_; clear hF a; intro a hF
        refine svg hF rfl ?_
        refine sv hF (v_move rfl) rfl ?_; clear hF a; intro a hF
        refine svg hF rfl ?_
        refine sv hF (v_move rfl) rfl ?_; clear hF a; intro a hF
        refine svg hF rfl ?_
        refine sv hF (v_move rfl) rfl ?_; clear hF a; intro a hF
        refine svg hF rfl ?_
        refine sv hF (v_pickF rfl rfl) rfl ?_; clear hF a; intro a hF
        refine svg hF rfl ?_
        refine sv hF ((v_eqlB Tryd.underlying4 rfl rfl).as (congrArg Value.bool (decide_eq_true (by first | exact decide_eq_true (hiff.2 (by omega)) | exact decide_eq_false (fun e => by have h9 := hiff.1 e; omega))))) rfl ?_; clear hF a; intro a hF
        refine sv hF (v_pickT rfl rfl) rfl ?_; clear hF a; intro a hF
        refine sv hF (v_assign rfl) rfl ?_; clear hF a; intro a hF
        refine WL_nil (hK _ _ ?_)
        clear hK K
        replace hF := hF.sub _ (c_ 6 rfl (n_))
        refine W_ret ?_
        refine ⟨_, _, hF, rfl, ?_⟩
        exact ⟨rfl, hS⟩
  · clear hF a; intro hc1 a hF
    try simp only [decide_eq_true_eq, decide_eq_false_iff_not, Bool.not_eq_true', Bool.not_eq_false', Bool.not_true, Bool.not_false] at hc1
    refine sv hF (v_move rfl) rfl ?_; clear hF a; intro a hF
    refine svn hF rfl rfl rfl ?_; clear hF a; intro a hF
    refine svn hF rfl rfl rfl ?_; clear hF a; intro a hF
    refine svn hF rfl rfl rfl ?_; clear hF a; intro a hF
    refine svn hF rfl rfl rfl ?_; clear hF a; intro a hF
    refine sv hF (v_pickF rfl rfl) rfl ?_; clear hF a; intro a hF
    refine sv hF (v_move rfl) rfl ?_; clear hF a; intro a hF
    refine svn hF rfl rfl rfl ?_; clear hF a; intro a hF
    refine svn hF rfl rfl rfl ?_; clear hF a; intro a hF
    refine svn hF rfl rfl rfl ?_; clear hF a; intro a hF
    refine svn hF rfl rfl rfl ?_; clear hF a; intro a hF
    refine svn hF rfl rfl rfl ?_; clear hF a; intro a hF
    refine sv hF (v_pickF rfl rfl) rfl ?_; clear hF a; intro a hF
    refine sv hF (v_move rfl) rfl ?_; clear hF a; intro a hF
    refine svn hF rfl rfl rfl ?_; clear hF a; intro a hF
    refine svn hF rfl rfl rfl ?_; clear hF a; intro a hF
    refine svn hF rfl rfl rfl ?_; clear hF a; intro a hF
    refine svn hF rfl rfl rfl ?_; clear hF a; intro a hF
    refine svn hF rfl rfl rfl ?_; clear hF a; intro a hF
    refine sv hF (v_pickF rfl rfl) rfl ?_; clear hF a; intro a hF
    refine sv hF (v_move rfl) rfl ?_; clear hF a; intro a hF
    refine svn hF rfl rfl rfl ?_; clear hF a; intro a hF
    refine svn hF rfl rfl rfl ?_; clear hF a; intro a hF
    refine svn hF rfl rfl rfl ?_; clear hF a; intro a hF
    refine sv hF (v_pickF rfl rfl) rfl ?_; clear hF a; intro a hF
    refine sv hF (v_assign rfl) rfl ?_; clear hF a; intro a hF
    refine WL_nil (hK _ _ ?_)
    clear hK K
    replace hF := hF.sub _ (c_ 20 rfl (c_ 15 rfl (c_ 14 rfl (c_ 13 rfl (c_ 12 rfl (c_ 11 rfl (c_ 10 rfl (c_ 9 rfl (c_ 8 rfl (c_ 7 rfl (c_ 6 rfl (n_))))))))))))
    refine W_sr rfl (fun K hK => ?_)
    refine sv hF (v_move rfl) rfl ?_; clear hF a; intro a hF
    refine sv hF (v_fieldAddr fa35_1 rfl) rfl ?_; clear hF a; intro a hF
    refine sv hF (v_load sc3 rfl (hx.blk.at 1 rfl)) rfl ?_; clear hF a; intro a hF
    refine sb hF (v_geq rfl rfl) rfl ?_ ?_
    · clear hF a; intro hc26 a hF
      try simp only [decide_eq_true_eq, decide_eq_false_iff_not, Bool.not_eq_true', Bool.not_eq_false', Bool.not_true, Bool.not_false] at hc26
      refine sv hF (v_move rfl) rfl ?_; clear hF a; intro a hF
      refine svg hF rfl ?_
      refine sv hF (v_move rfl) rfl ?_; clear hF a; intro a hF
      refine svg hF rfl ?_
      refine sv hF (v_fieldAddr fa35_1 rfl) rfl ?_; clear hF a; intro a hF
      refine svg hF rfl ?_
      refine sv hF (v_load sc3 rfl (hy.blk.at 1 rfl)) rfl ?_; clear hF a; intro a hF
      refine svg hF rfl ?_
      refine sb hF (v_geq rfl rfl) rfl ?_ ?_
      · clear hF a; intro hc27 a hF
        try simp only [decide_eq_true_eq, decide_eq_false_iff_not, Bool.not_eq_true', Bool.not_eq_false', Bool.not_true, Bool.not_false] at hc27
        refine sv hF (v_pickT rfl rfl) rfl ?_; clear hF a; intro a hF
        refine sv hF (v_move rfl) rfl ?_; clear hF a; intro a hF
        refine svg hF rfl ?_
        refine sv hF (v_loadN Tryd.underlying35 rfl (by kernel_rfl) rfl hx.blk) rfl ?_; clear hF a; intro a hF
        refine svg hF rfl ?_
        refine sv hF (v_loadN Tryd.underlying35 rfl (by kernel_rfl) rfl hy.blk) rfl ?_; clear hF a; intro a hF
        refine svg hF rfl ?_
        refine sb hF (v_eqlP3 Tryd.underlying35 (by kernel_rfl) (by kernel_rfl) Tryd.underlying3 Tryd.underlying3 Tryd.underlying3 (by decide) rfl rfl rfl rfl rfl) rfl ?_ ?_
        · clear hF a; intro hc28 a hF
          try simp only [decide_eq_true_eq, decide_eq_false_iff_not, Bool.not_eq_true', Bool.not_eq_false', Bool.not_true, Bool.not_false] at hc28
          refine sv hF (v_pickT rfl rfl) rfl ?_; clear hF a; intro a hF
          refine sv hF (v_move rfl) rfl ?_; clear hF a; intro a hF
          refine svg hF rfl ?_
          refine sv hF (v_move rfl) rfl ?_; clear hF a; intro a hF
          refine svg hF rfl ?_
          refine sv hF (v_move rfl) rfl ?_; clear hF a; intro a hF
          refine svg hF rfl ?_
          refine sb hF (v_eql rfl rfl) rfl ?_ ?_
          · clear hF a; intro hc29 a hF
            try simp only [decide_eq_true_eq, decide_eq_false_iff_not, Bool.not_eq_true', Bool.not_eq_false', Bool.not_true, Bool.not_false] at hc29
            refine sv hF (v_pickT rfl rfl) rfl ?_; clear hF a; intro a hF
            refine sv hF (v_assign rfl) rfl ?_; clear hF a; intro a hF
            refine WL_nil (hK _ _ ?_)
            clear hK K
            replace hF := hF.sub _ (c_ 21 rfl (c_ 20 rfl (c_ 15 rfl (c_ 14 rfl (c_ 13 rfl (c_ 12 rfl (c_ 7 rfl (c_ 6 rfl (n_)))))))))
            refine W_sr rfl (fun K hK => ?_)
            refine sv hF (v_move rfl) rfl ?_; clear hF a; intro a hF
            refine sv hF (v_move rfl) rfl ?_; clear hF a; intro a hF
            refine svg hF rfl ?_
            refine sv hF (v_move rfl) rfl ?_; clear hF a; intro a hF
            refine svg hF rfl ?_
            refine sv hF ((v_eql rfl rfl).as (congrArg Value.bool (decide_eq_true (rfl)))) rfl ?_; clear hF a; intro a hF
            refine sv hF (v_pickT rfl rfl) rfl ?_; clear hF a; intro a hF
            refine sv hF (v_move rfl) rfl ?_; clear hF a; intro a hF
            refine svg hF rfl ?_
            refine sv hF (v_move rfl) rfl ?_; clear hF a; intro a hF
            refine svg hF rfl ?_
            refine sv hF ((v_eql rfl rfl).as (congrArg Value.bool (decide_eq_true (rfl)))) rfl ?_; clear hF a; intro a hF
            refine sv hF (v_pickT rfl rfl) rfl ?_; clear hF a; intro a hF
            refine sv hF (v_move rfl) rfl ?_; clear hF a; intro a hF
            refine svg hF rfl ?_
            refine sv hF (v_move rfl) rfl ?_; clear hF a; intro a hF
            refine svg hF rfl ?_
            refine sv hF (v_move rfl) rfl ?_; clear hF a; intro a hF
            refine svg hF rfl ?_
            refine sv hF (v_eqlT rfl rfl) rfl ?_; clear hF a; intro a hF
            refine svg hF rfl ?_
            refine sv hF (v_move rfl) rfl ?_; clear hF a; intro a hF
            refine svg hF rfl ?_
            refine sv hF (v_move rfl) rfl ?_; clear hF a; intro a hF
            refine svg hF rfl ?_
            refine sv hF (v_move rfl) rfl ?_; clear hF a; intro a hF
            refine svg hF rfl ?_
            refine sv hF (v_pickF rfl rfl) rfl ?_; clear hF a; intro a hF
            refine svg hF rfl ?_
            refine sv hF ((v_eqlB Tryd.underlying4 rfl rfl).as (congrArg Value.bool (decide_eq_true (by first | exact decide_eq_true (hiff.2 (by omega)) | exact decide_eq_false (fun e => by have h9 := hiff.1 e; omega))))) rfl ?_; clear hF a; intro a hF
            refine sv hF (v_pickT rfl rfl) rfl ?_; clear hF a; intro a hF
            refine sv hF (v_assign rfl) rfl ?_; clear hF a; intro a hF
            refine WL_nil (hK _ _ ?_)
            clear hK K
            replace hF := hF.sub _ (c_ 6 rfl (n_))
            refine W_ret ?_
            refine ⟨_, _, hF, rfl, ?_⟩
            exact ⟨rfl, hS⟩
          · clear hF a; intro hc29 a hF
            try simp only [decide_eq_true_eq, decide_eq_false_iff_not, Bool.not_eq_true', Bool.not_eq_false', Bool.not_true, Bool.not_false] at hc29
            refine sv hF (v_pickT rfl rfl) rfl ?_; clear hF a; intro a hF
            refine sv hF (v_assign rfl) rfl ?_; clear hF a; intro a hF
            refine WL_nil (hK _ _ ?_)
            clear hK K
            replace hF := hF.sub _ (c_ 21 rfl (c_ 20 rfl (c_ 15 rfl (c_ 14 rfl (c_ 13 rfl (c_ 12 rfl (c_ 7 rfl (c_ 6 rfl (n_)))))))))
            refine W_sr rfl (fun K hK => ?_)
            refine sv hF (v_move rfl) rfl ?_; clear hF a; intro a hF
            refine sv hF (v_move rfl) rfl ?_; clear hF a; intro a hF
            refine svg hF rfl ?_
            refine sv hF (v_move rfl) rfl ?_; clear hF a; intro a hF
            refine svg hF rfl ?_
            refine sv hF ((v_eql rfl rfl).as (congrArg Value.bool (decide_eq_true (rfl)))) rfl ?_; clear hF a; intro a hF
            refine sv hF (v_pickT rfl rfl) rfl ?_; clear hF a; intro a hF
            refine sv hF (v_move rfl) rfl ?_; clear hF a; intro a hF
            refine svg hF rfl ?_
            refine sv hF (v_move rfl) rfl ?_; clear hF a; intro a hF
            refine svg hF rfl ?_
            refine sv hF ((v_eql rfl rfl).as (congrArg Value.bool (decide_eq_true (rfl)))) rfl ?_; clear hF a; intro a hF
            refine sv hF (v_pickT rfl rfl) rfl ?_; clear hF a; intro a hF
            refine sv hF (v_move rfl) rfl ?_; clear hF a; intro a hF
            refine svg hF rfl ?_
            refine sv hF (v_move rfl) rfl ?_; clear hF a; intro a hF
            refine svg hF rfl ?_
            refine sv hF (v_move rfl) rfl ?_; clear hF a; intro a hF
            refine svg hF rfl ?_
            refine sv hF (v_eqlT rfl rfl) rfl ?_; clear hF a; intro a hF
            refine svg hF rfl ?_
            refine sv hF (v_move rfl) rfl ?_; clear hF a; intro a hF
            refine svg hF rfl ?_
            refine sv hF (v_move rfl) rfl ?_; clear hF a; intro a hF
            refine svg hF rfl ?_
            refine sv hF (v_move rfl) rfl ?_; clear hF a; intro a hF
            refine svg hF rfl ?_
            refine sv hF (v_pickF rfl rfl) rfl ?_; clear hF a; intro a hF
            refine svg hF rfl ?_
            refine sv hF ((v_eqlB Tryd.underlying4 rfl rfl).as (congrArg Value.bool (decide_eq_true (by first | exact decide_eq_true (hiff.2 (by omega)) | exact decide_eq_false (fun e => by have h9 := hiff.1 e; omega))))) rfl ?_; clear hF a; intro a hF
            refine sv hF (v_pickT rfl rfl) rfl ?_; clear hF a; intro a hF
            refine sv hF (v_assign rfl) rfl ?_; clear hF a; intro a hF
            refine WL_nil (hK _ _ ?_)
            clear hK K
            replace hF := hF.sub _ (c_ 6 rfl (n_))
            refine W_ret ?_
            refine ⟨_, _, hF, rfl, ?_⟩
            exact ⟨rfl, hS⟩
        · clear hF a; intro hc28 a hF
          try simp only [decide_eq_true_eq, decide_eq_false_iff_not, Bool.not_eq_true', Bool.not_eq_false', Bool.not_true, Bool.not_false] at hc28
          refine sv hF (v_pickT rfl rfl) rfl ?_; clear hF a; intro a hF
          refine sv hF (v_move rfl) rfl ?_; clear hF a; intro a hF
          refine svn hF rfl rfl rfl ?_; clear hF a; intro a hF
          refine svn hF rfl rfl rfl ?_; clear hF a; intro a hF
          refine svn hF rfl rfl rfl ?_; clear hF a; intro a hF
          refine sv hF (v_pickF rfl rfl) rfl ?_; clear hF a; intro a hF
          refine sv hF (v_assign rfl) rfl ?_; clear hF a; intro a hF
          refine WL_nil (hK _ _ ?_)
          clear hK K
          replace hF := hF.sub _ (c_ 21 rfl (c_ 20 rfl (c_ 15 rfl (c_ 14 rfl (c_ 13 rfl (c_ 12 rfl (c_ 7 rfl (c_ 6 rfl (n_)))))))))
          refine W_sr rfl (fun K hK => ?_)
          refine sv hF (v_move rfl) rfl ?_; clear hF a; intro a hF
          refine sv hF (v_move rfl) rfl ?_; clear hF a; intro a hF
          refine svg hF rfl ?_
          refine sv hF (v_move rfl) rfl ?_; clear hF a; intro a hF
          refine svg hF rfl ?_
          refine sv hF ((v_eql rfl rfl).as (congrArg Value.bool (decide_eq_true (rfl)))) rfl ?_; clear hF a; intro a hF
          refine sv hF (v_pickT rfl rfl) rfl ?_; clear hF a; intro a hF
          refine sv hF (v_move rfl) rfl ?_; clear hF a; intro a hF
          refine svg hF rfl ?_
          refine sv hF (v_move rfl) rfl ?_; clear hF a; intro a hF
          refine svg hF rfl ?_
          refine sv hF ((v_eql rfl rfl).as (congrArg Value.bool (decide_eq_true (rfl)))) rfl ?_; clear hF a; intro a hF
          refine sv hF (v_pickT rfl rfl) rfl ?_; clear hF a; intro a hF
          refine sv hF (v_move rfl) rfl ?_; clear hF a; intro a hF
          refine svg hF rfl ?_
          refine sv hF (v_move rfl) rfl ?_; clear hF a; intro a hF
          refine svg hF rfl ?_
          refine sv hF (v_move rfl) rfl ?_; clear hF a; intro a hF
          refine svg hF rfl ?_
          refine sv hF (v_eqlT rfl rfl) rfl ?_; clear hF a; intro a hF
          refine svg hF rfl ?_
          refine sv hF (v_move rfl) rfl ?_; clear hF a; intro a hF
          refine svg hF rfl ?_
          refine sv hF (v_move rfl) rfl ?_; clear hF a; intro a hF
          refine svg hF rfl ?_
          refine sv hF (v_move rfl) rfl ?_; clear hF a; intro a hF
          refine svg hF rfl ?_
          refine sv hF (v_pickF rfl rfl) rfl ?_; clear hF a; intro a hF
          refine svg hF rfl ?_
          refine sv hF ((v_eqlB Tryd.underlying4 rfl rfl).as (congrArg Value.bool (decide_eq_true (by first | exact decide_eq_true (hiff.2 (by omega)) | exact decide_eq_false (fun e => by have h9 := hiff.1 e; omega))))) rfl ?_; clear hF a; intro a hF
          refine sv hF (v_pickT rfl rfl) rfl ?_; clear hF a; intro a hF
          refine sv hF (v_assign rfl) rfl ?_; clear hF a; intro a hF
          refine WL_nil (hK _ _ ?_)
          clear hK K
          replace hF := hF.sub _ (c_ 6 rfl (n_))
          refine W_ret ?_
          refine ⟨_, _, hF, rfl, ?_⟩
          exact ⟨rfl, hS⟩
      · clear hF a; intro hc27 a hF
        try simp only [decide_eq_true_eq, decide_eq_false_iff_not, Bool.not_eq_true', Bool.not_eq_false', Bool.not_true, Bool.not_false] at hc27
        refine sv hF (v_pickT rfl rfl) rfl ?_; clear hF a; intro a hF
        refine sv hF (v_move rfl) rfl ?_; clear hF a; intro a hF
        refine svn hF rfl rfl rfl ?_; clear hF a; intro a hF
        refine svn hF rfl rfl rfl ?_; clear hF a; intro a hF
        refine svn hF rfl rfl rfl ?_; clear hF a; intro a hF
        refine sv hF (v_pickF rfl rfl) rfl ?_; clear hF a; intro a hF
        refine sv hF (v_move rfl) rfl ?_; clear hF a; intro a hF
        refine svn hF rfl rfl rfl ?_; clear hF a; intro a hF
        refine svn hF rfl rfl rfl ?_; clear hF a; intro a hF
        refine svn hF rfl rfl rfl ?_; clear hF a; intro a hF
        refine sv hF (v_pickF rfl rfl) rfl ?_; clear hF a; intro a hF
        refine sv hF (v_assign rfl) rfl ?_; clear hF a; intro a hF
        refine WL_nil (hK _ _ ?_)
        clear hK K
        replace hF := hF.sub _ (c_ 21 rfl (c_ 20 rfl (c_ 15 rfl (c_ 14 rfl (c_ 13 rfl (c_ 12 rfl (c_ 7 rfl (c_ 6 rfl (n_)))))))))
        refine W_sr rfl (fun K hK => ?_)
        refine sv hF (v_move rfl) rfl ?_; clear hF a; intro a hF
        refine sv hF (v_move rfl) rfl ?_; clear hF a; intro a hF
        refine svg hF rfl ?_
        refine sv hF (v_move rfl) rfl ?_; clear hF a; intro a hF
        refine svg hF rfl ?_
        refine sv hF ((v_eql rfl rfl).as (congrArg Value.bool (decide_eq_true (rfl)))) rfl ?_; clear hF a; intro a hF
        refine sv hF (v_pickT rfl rfl) rfl ?_; clear hF a; intro a hF
        refine sv hF (v_move rfl) rfl ?_; clear hF a; intro a hF
        refine svg hF rfl ?_
        refine sv hF (v_move rfl) rfl ?_; clear hF a; intro a hF
        refine svg hF rfl ?_
        refine sv hF ((v_eql rfl rfl).as (congrArg Value.bool (decide_eq_true (rfl)))) rfl ?_; clear hF a; intro a hF
        refine sv hF (v_pickT rfl rfl) rfl ?_; clear hF a; intro a hF
        refine sv hF (v_move rfl) rfl ?_; clear hF a; intro a hF
        refine svg hF rfl ?_
        refine sv hF (v_move rfl) rfl ?_; clear hF a; intro a hF
        refine svg hF rfl ?_
        refine sv hF (v_move rfl) rfl ?_; clear hF a; intro a hF
        refine svg hF rfl ?_
        refine sv hF (v_eqlT rfl rfl) rfl ?_; clear hF a; intro a hF
        refine svg hF rfl ?_
        refine sv hF (v_move rfl) rfl ?_; clear hF a; intro a hF
        refine svg hF rfl ?_
        refine sv hF (v_move rfl) rfl ?_; clear hF a; intro a hF
        refine svg hF rfl ?_
        refine sv hF (v_move rfl) rfl ?_; clear hF a; intro a hF
        refine svg hF rfl ?_
        refine sv hF (v_pickF rfl rfl) rfl ?_; clear hF a; intro a hF
        refine svg hF rfl ?_
        refine sv hF ((v_eqlB Tryd.underlying4 rfl rfl).as (congrArg Value.bool (decide_eq_true (by first | exact decide_eq_true (hiff.2 (by omega)) | exact decide_eq_false (fun e => by have h9 := hiff.1 e; omega))))) rfl ?_; clear hF a; intro a hF
        refine sv hF (v_pickT rfl rfl) rfl ?_; clear hF a; intro a hF
        refine sv hF (v_assign rfl) rfl ?_; clear hF a; intro a hF
        refine WL_nil (hK _ _ ?_)
        clear hK K
        replace hF := hF.sub _ (c_ 6 rfl (n_))
        refine W_ret ?_
        refine ⟨_, _, hF, rfl, ?_⟩
        exact ⟨rfl, hS⟩
    · clear hF a; intro hc26 a hF
      try simp only [decide_eq_true_eq, decide_eq_false_iff_not, Bool.not_eq_true', Bool.not_eq_false', Bool.not_true, Bool.not_false] at hc26
      refine sv hF (v_move rfl) rfl ?_; clear hF a; intro a hF
      refine svn hF rfl rfl rfl ?_; clear hF a; intro a hF
      refine svn hF rfl rfl rfl ?_; clear hF a; intro a hF
      refine svn hF rfl rfl rfl ?_; clear hF a; intro a hF
      refine svn hF rfl rfl rfl ?_; clear hF a; intro a hF
      refine sv hF (v_pickF rfl rfl) rfl ?_; clear hF a; intro a hF
      refine sv hF (v_move rfl) rfl ?_; clear hF a; intro a hF
      refine svn hF rfl rfl rfl ?_; clear hF a; intro a hF
      refine svn hF rfl rfl rfl ?_; clear hF a; intro a hF
      refine svn hF rfl rfl rfl ?_; clear hF a; intro a hF
      refine sv hF (v_pickF rfl rfl) rfl ?_; clear hF a; intro a hF
      refine sv hF (v_move rfl) rfl ?_; clear hF a; intro a hF
      refine svn hF rfl rfl rfl ?_; clear hF a; intro a hF
      refine svn hF rfl rfl rfl ?_; clear hF a; intro a hF
      refine svn hF rfl rfl rfl ?_; clear hF a; intro a hF
      refine sv hF (v_pickF rfl rfl) rfl ?_; clear hF a; intro a hF
      refine sv hF (v_assign rfl) rfl ?_; clear hF a; intro a hF
      refine WL_nil (hK _ _ ?_)
      clear hK K
      replace hF := hF.sub _ (c_ 21 rfl (c_ 20 rfl (c_ 15 rfl (c_ 14 rfl (c_ 13 rfl (c_ 12 rfl (c_ 7 rfl (c_ 6 rfl (n_)))))))))
      refine W_sr rfl (fun K hK => ?_)
      refine sv hF (v_move rfl) rfl ?_; clear hF a; intro a hF
      refine sv hF (v_move rfl) rfl ?_; clear hF a; intro a hF
      refine svg hF rfl ?_
      refine sv hF (v_move rfl) rfl ?_; clear hF a; intro a hF
      refine svg hF rfl ?_
      refine sv hF ((v_eql rfl rfl).as (congrArg Value.bool (decide_eq_true (rfl)))) rfl ?_; clear hF a; intro a hF
      refine sv hF (v_pickT rfl rfl) rfl ?_; clear hF a; intro a hF
      refine sv hF (v_move rfl) rfl ?_; clear hF a; intro a hF
      refine svg hF rfl ?_
      refine sv hF (v_move rfl) rfl ?_; clear hF a; intro a hF
      refine svg hF rfl ?_
      refine sv hF ((v_eql rfl rfl).as (congrArg Value.bool (decide_eq_true (rfl)))) rfl ?_; clear hF a; intro a hF
      refine sv hF (v_pickT rfl rfl) rfl ?_; clear hF a; intro a hF
      refine sv hF (v_move rfl) rfl ?_; clear hF a; intro a hF
      refine svg hF rfl ?_
      refine sv hF (v_move rfl) rfl ?_; clear hF a; intro a hF
      refine svg hF rfl ?_
      refine sv hF (v_move rfl) rfl ?_; clear hF a; intro a hF
      refine svg hF rfl ?_
      refine sv hF (v_eqlT rfl rfl) rfl ?_; clear hF a; intro a hF
      refine svg hF rfl ?_
      refine sv hF (v_move rfl) rfl ?_; clear hF a; intro a hF
      refine svg hF rfl ?_
      refine sv hF (v_move rfl) rfl ?_; clear hF a; intro a hF
      refine svg hF rfl ?_
      refine sv hF (v_move rfl) rfl ?_; clear hF a; intro a hF
      refine svg hF rfl ?_
      refine sv hF (v_pickF rfl rfl) rfl ?_; clear hF a; intro a hF
      refine svg hF rfl ?_
      refine sv hF ((v_eqlB Tryd.underlying4 rfl rfl).as (congrArg Value.bool (decide_eq_true (by first | exact decide_eq_true (hiff.2 (by omega)) | exact decide_eq_false (fun e => by have h9 := hiff.1 e; omega))))) rfl ?_; clear hF a; intro a hF
      refine sv hF (v_pickT rfl rfl) rfl ?_; clear hF a; intro a hF
      refine sv hF (v_assign rfl) rfl ?_; clear hF a; intro a hF
      refine WL_nil (hK _ _ ?_)
      clear hK K
      replace hF := hF.sub _ (c_ 6 rfl (n_))
      refine W_ret ?_
      refine ⟨_, _, hF, rfl, ?_⟩
      exact ⟨rfl, hS⟩

end Go.Proofs.YtkoiolamnnmokaaDoor
