/- The walk of gambrelref15.Read. -/
import Derived.Test.YtkoiolamnnmokaaDoorFRef15
set_option linter.unusedVariables false
set_option linter.unusedSimpArgs false
namespace Go.Proofs.YtkoiolamnnmokaaDoor
open Go Go.Gam


namespace FxFRef15c
theorem en15 : Ent Tryd.prog 15 := ent Tryd.func15 (by kernel_rfl) (by kernel_rfl)
theorem en16 : Ent Tryd.prog 16 := ent Tryd.func16 (by kernel_rfl) (by kernel_rfl)
theorem en19 : Ent Tryd.prog 19 := ent Tryd.func19 (by kernel_rfl) (by kernel_rfl)
theorem en31 : Ent Tryd.prog 31 := ent Tryd.func31 (by kernel_rfl) (by kernel_rfl)
theorem fa42_0 : FieldFact Tryd.prog 42 0 0 := ff_of (sz := 0) Tryd.underlying42 (by kernel_rfl)
theorem fa42_3 : FieldFact Tryd.prog 42 3 3 := ff_of (sz := 0) Tryd.underlying42 (by kernel_rfl)
theorem fa42_4 : FieldFact Tryd.prog 42 4 4 := ff_of (sz := 0) Tryd.underlying42 (by kernel_rfl)
theorem sc3 : Scalar Tryd.prog 3 := ⟨_, Tryd.underlying3, by simp, by simp⟩
theorem sc5 : Scalar Tryd.prog 5 := ⟨_, Tryd.underlying5, by simp, by simp⟩
theorem sc9 : Scalar Tryd.prog 9 := ⟨_, Tryd.underlying9, by simp, by simp⟩
end FxFRef15c
open FxFRef15c

/-- None of these names is b. -/
def noK (o b : List UInt8) (q : Int) (k : Nat) : Prop := (∀ i, i < k → dataN o (layL q) k i ≠ b) ∧ ∀ m i : Nat, mayP q (k : Int) (m : Int) = true → i < m → parN o (tagL q) k m i ≠ b
def noP (o b : List UInt8) (q : Int) : Prop := ∀ k : Nat, 1 ≤ k → k ≤ 8 → noK o b q k
theorem last_temp {f : List UInt8} {b : UInt8} (h : 1 ≤ f.length) (hb : f[f.length - 1]? = some b) : tempOf f = decide ((b.toNat : Int) = 126) := by
  unfold tempOf
  rw [List.getLast?_eq_getElem?, hb, decide_eq_decide]
  constructor
  · intro e; rw [Option.some.inj e]; rfl
  · intro e
    have : b = 126 := UInt8.toNat_inj.1 (by have h9 : ((126 : UInt8).toNat : Int) = 126 := rfl
                                            omega)
    rw [this]
theorem rd_data {f o : List UInt8} {p : Int} {k i : Nat} (ho : mayS o = true) (hp : 1 ≤ p ∧ p ≤ 6) (hk : 1 ≤ k ∧ k ≤ 8) (hi : i < k) (h : dataN o (layL p) k i = bareOf f) : rd f = some ⟨o, 1, layL p, [], k, 0, i, tempOf f⟩ := by
  rw [rd_at (s := 100 :: layL p :: fig [k, i]) h.symm ho, rdS_data hp hk hi]
theorem rd_par {f o : List UInt8} {p : Int} {k m i : Nat} (ho : mayS o = true) (hm : mayP p (k : Int) (m : Int) = true) (hi : i < m) (h : parN o (tagL p) k m i = bareOf f) : rd f = some ⟨o, 2, 0, tagL p, k, m, i, tempOf f⟩ := by
  rw [rd_at (s := 112 :: (tagL p ++ fig [k, m, i])) h.symm ho, rdS_par hm hi]
theorem rd_all {f : List UInt8} (hs : bareOf f ≠ objOf f ++ 46 :: sideL) (h : ∀ q : Nat, 1 ≤ q → q ≤ 6 → noP (objOf f) (bareOf f) (q : Int)) : rd f = none := by
  have key : ∀ p : Int, (1 ≤ p ∧ p ≤ 6) → noP (objOf f) (bareOf f) p := fun p hp => by
    have := h p.toNat (by omega) (by omega)
    rwa [show ((p.toNat : Nat) : Int) = p by omega] at this
  refine rd_none rfl hs (fun p k i hp hk hi e => (key p hp k hk.1 hk.2).1 i hi e.symm) (fun p k m i hm hi e => ?_)
  obtain ⟨hp1, hp2, kn, mn, e1, e2, hk1, hk2, -⟩ := mayP_of hm
  exact (key p ⟨hp1, hp2⟩ k (by omega) (by omega)).2 m i hm hi e.symm

set_option maxRecDepth 100000 in
set_option maxHeartbeats 1000000 in
theorem rRead_nil (B : Nat) (f : List UInt8) (w : World) (hI : Inv FDx B w) (hfl : f.length ≤ 1000) (hf : f = []) : Ret Tryd.prog 11 [.string (str f)] w fun v w' => v = .tuple #[.agg ((rd f).getD nmz).cells.toArray, .bool (rd f).isSome] ∧ St FDx B w w' := by
  refine enterCT 126 [(0, .string (str f))] 2 27 3 Tryd.func11 rfl rfl rfl rfl rfl ?_; intro a hF
  have hS := St.refl hI
  refine W_sr rfl (fun K hK => ?_)
  refine s_allocN (D := FDx) (B := B) (z := .agg nmz.cells.toArray) hF (by kernel_rfl) (by decide) hS.inv rfl ?_; clear hF a; intro gT w' a hm hI' hT hF
  replace hS := hS.mb0 hm
  clear hm hI'
  refine sv hF (v_assign rfl) rfl ?_; clear hF a; intro a hF
  refine WL_nil (hK _ _ ?_)
  clear hK K
  refine W_sr rfl (fun K hK => ?_)
  refine sv hF (v_move rfl) rfl ?_; clear hF a; intro a hF
  refine sc hF rfl rfl rfl en31 rfl (object_ok B f _ hS.inv hfl) ?_; clear hF a; intro v w' a hv hF
  obtain ⟨rfl, hS'⟩ := hv
  replace hT := hT.st hS'
  replace hS := hS.trans hS'
  clear hS'
  refine sv hF (v_assign rfl) rfl ?_; clear hF a; intro a hF
  refine WL_nil (hK _ _ ?_)
  clear hK K
  replace hF := hF.sub _ (c_ 4 rfl (c_ 3 rfl (c_ 2 rfl (c_ 0 rfl (n_)))))
  refine W_sr rfl (fun K hK => ?_)
  refine sv hF (v_move rfl) rfl ?_; clear hF a; intro a hF
  refine sv hF (v_lenT rfl Tryd.underlying9 rfl) rfl ?_; clear hF a; intro a hF
  refine sv hF ((v_gtr rfl rfl).as (congrArg Value.bool (decide_eq_false (by rw [hf]; simp)))) rfl ?_; clear hF a; intro a hF
  refine sv hF (v_move rfl) rfl ?_; clear hF a; intro a hF
  refine svn hF rfl rfl rfl ?_; clear hF a; intro a hF
  refine svn hF rfl rfl rfl ?_; clear hF a; intro a hF
  refine svn hF rfl rfl rfl ?_; clear hF a; intro a hF
  refine svn hF rfl rfl rfl ?_; clear hF a; intro a hF
  refine svn hF rfl rfl rfl ?_; clear hF a; intro a hF
  refine svn hF rfl rfl rfl ?_; clear hF a; intro a hF
  refine sv hF (v_pickF rfl rfl) rfl ?_; clear hF a; intro a hF
  refine sv hF (v_assign rfl) rfl ?_; clear hF a; intro a hF
  refine WL_nil (hK _ _ ?_)
  clear hK K
  replace hF := hF.sub _ (c_ 5 rfl (c_ 4 rfl (c_ 3 rfl (c_ 2 rfl (c_ 0 rfl (n_))))))
  refine W_sr rfl (fun K hK => ?_)
  refine sv hF (v_move rfl) rfl ?_; clear hF a; intro a hF
  refine sv hF (v_assign rfl) rfl ?_; clear hF a; intro a hF
  refine WL_nil (hK _ _ ?_)
  clear hK K
  replace hF := hF.sub _ (c_ 6 rfl (c_ 5 rfl (c_ 4 rfl (c_ 3 rfl (c_ 2 rfl (c_ 0 rfl (n_)))))))
  refine W_seq ?_
  refine W_sr rfl (fun K hK => ?_)
  refine sv hF (v_move rfl) rfl ?_; clear hF a; intro a hF
  refine WL_nil (hK _ _ ?_)
  clear hK K
  refine W_ifF hF rfl ?_
  refine W_skip ?_
  refine W_seq ?_
  refine W_sr rfl (fun K hK => ?_)
  refine sv hF (v_move rfl) rfl ?_; clear hF a; intro a hF
  refine sc hF rfl rfl rfl en16 rfl (rMay15_ok B (objOf f) _ hS.inv) ?_; clear hF a; intro v w' a hv hF
  obtain ⟨rfl, hS'⟩ := hv
  replace hT := hT.st hS'
  replace hS := hS.trans hS'
  clear hS'
  rw [show mayS (objOf f) = false by rw [hf]; rfl] at hF
  refine sv hF (v_not rfl) rfl ?_; clear hF a; intro a hF
  refine sv hF (v_move rfl) rfl ?_; clear hF a; intro a hF
  refine svn hF rfl rfl rfl ?_; clear hF a; intro a hF
  refine svn hF rfl rfl rfl ?_; clear hF a; intro a hF
  refine svn hF rfl rfl rfl ?_; clear hF a; intro a hF
  refine sv hF (v_pickT rfl rfl) rfl ?_; clear hF a; intro a hF
  refine WL_nil (hK _ _ ?_)
  clear hK K
  replace hF := hF.sub _ (c_ 45 rfl (c_ 6 rfl (c_ 5 rfl (c_ 4 rfl (c_ 3 rfl (c_ 2 rfl (n_)))))))
  refine W_ifT hF rfl ?_
  have hrd : rd f = none := by rw [hf]; rfl
  refine W_sr rfl (fun K hK => ?_)
  refine sv hF (v_build (cs := nmz.cells.toArray) rfl (by kernel_rfl)) rfl ?_; clear hF a; intro a hF
  refine s_storeN (D := FDx) (B := B) hF (by kernel_rfl) rfl rfl (rfl) (by rfl) hT hS.inv ?_; intro w' hm hI' hrc'
  replace hS := hS.mb hm (fun k h => by cases h; exact hT.low)
  replace hT := hrc'
  clear hm hI' hrc'
  refine sv hF (v_assign rfl) rfl ?_; clear hF a; intro a hF
  refine WL_nil (hK _ _ ?_)
  clear hK K
  replace hF := hF.sub _ (c_ 3 rfl (c_ 6 rfl (c_ 5 rfl (c_ 4 rfl (c_ 2 rfl (n_))))))
  refine W_ret ?_
  refine ⟨_, _, _, _, hF, rfl, (ld_rec Tryd.underlying27 rfl (by kernel_rfl) hT), rfl, ?_⟩
  exact ⟨by rw [hrd]; rfl, hS⟩

set_option maxRecDepth 100000 in
set_option maxHeartbeats 1000000 in
theorem rRead_cons (B : Nat) (f : List UInt8) (w : World) (hI : Inv FDx B w) (hfl : f.length ≤ 1000) (hf : 1 ≤ f.length) : Ret Tryd.prog 11 [.string (str f)] w fun v w' => v = .tuple #[.agg ((rd f).getD nmz).cells.toArray, .bool (rd f).isSome] ∧ St FDx B w w' := by
  refine enterCT 126 [(0, .string (str f))] 2 27 3 Tryd.func11 rfl rfl rfl rfl rfl ?_; intro a hF
  have hS := St.refl hI
  obtain ⟨b_, hb⟩ : ∃ z, f[f.length - 1]? = some z := ⟨_, List.getElem?_eq_getElem (by omega)⟩
  have ht := last_temp hf hb
  refine W_sr rfl (fun K hK => ?_)
  refine s_allocN (D := FDx) (B := B) (z := .agg nmz.cells.toArray) hF (by kernel_rfl) (by decide) hS.inv rfl ?_; clear hF a; intro gT w' a hm hI' hT hF
  replace hS := hS.mb0 hm
  clear hm hI'
  refine sv hF (v_assign rfl) rfl ?_; clear hF a; intro a hF
  refine WL_nil (hK _ _ ?_)
  clear hK K
  refine W_sr rfl (fun K hK => ?_)
  refine sv hF (v_move rfl) rfl ?_; clear hF a; intro a hF
  refine sc hF rfl rfl rfl en31 rfl (object_ok B f _ hS.inv hfl) ?_; clear hF a; intro v w' a hv hF
  obtain ⟨rfl, hS'⟩ := hv
  replace hT := hT.st hS'
  replace hS := hS.trans hS'
  clear hS'
  refine sv hF (v_assign rfl) rfl ?_; clear hF a; intro a hF
  refine WL_nil (hK _ _ ?_)
  clear hK K
  replace hF := hF.sub _ (c_ 4 rfl (c_ 3 rfl (c_ 2 rfl (c_ 0 rfl (n_)))))
  refine W_sr rfl (fun K hK => ?_)
  refine sv hF (v_move rfl) rfl ?_; clear hF a; intro a hF
  refine sv hF (v_lenT rfl Tryd.underlying9 rfl) rfl ?_; clear hF a; intro a hF
  refine sv hF ((v_gtr rfl rfl).as (congrArg Value.bool (decide_eq_true (by omega)))) rfl ?_; clear hF a; intro a hF
  refine sv hF (v_move rfl) rfl ?_; clear hF a; intro a hF
  refine svg hF rfl ?_
  refine sv hF (v_move rfl) rfl ?_; clear hF a; intro a hF
  refine svg hF rfl ?_
  refine sv hF (v_move rfl) rfl ?_; clear hF a; intro a hF
  refine svg hF rfl ?_
  refine sv hF (v_lenT rfl Tryd.underlying9 rfl) rfl ?_; clear hF a; intro a hF
  refine svg hF rfl ?_
  refine sv hF (v_subI rfl rfl (by omega)) rfl ?_; clear hF a; intro a hF
  refine svg hF rfl ?_
  refine sv hF (v_ixT (b := b_) Tryd.underlying9 rfl rfl (by omega) (by rw [show ((f.length : Int) - 1).toNat = f.length - 1 by omega]; exact hb)) rfl ?_; clear hF a; intro a hF
  refine svg hF rfl ?_
  refine sv hF (v_eql rfl rfl) rfl ?_; clear hF a; intro a hF
  rw [← ht] at hF
  refine sv hF (v_pickT rfl rfl) rfl ?_; clear hF a; intro a hF
  refine sv hF (v_assign rfl) rfl ?_; clear hF a; intro a hF
  refine WL_nil (hK _ _ ?_)
  clear hK K
  replace hF := hF.sub _ (c_ 5 rfl (c_ 4 rfl (c_ 3 rfl (c_ 2 rfl (c_ 0 rfl (n_))))))
  refine W_sr rfl (fun K hK => ?_)
  refine sv hF (v_move rfl) rfl ?_; clear hF a; intro a hF
  refine sv hF (v_assign rfl) rfl ?_; clear hF a; intro a hF
  refine WL_nil (hK _ _ ?_)
  clear hK K
  replace hF := hF.sub _ (c_ 6 rfl (c_ 5 rfl (c_ 4 rfl (c_ 3 rfl (c_ 2 rfl (c_ 0 rfl (n_)))))))
  refine W_cut (fun a w2 => Fr 126 [(2, .pointer (some ⟨gT, 0, none⟩)), (4, .string (str (objOf f))), (5, .bool (tempOf f)), (6, .string (str (bareOf f)))] a ∧ St FDx B w w2 ∧ RecB FDx B w.heap.size w2 gT 27 nmz.cells) ?_ ?_
  · skip
    refine W_sr rfl (fun K hK => ?_)
    refine sv hF (v_move rfl) rfl ?_; clear hF a; intro a hF
    refine WL_nil (hK _ _ ?_)
    clear hK K
    refine W_if hF rfl (fun hc1 => ?_) (fun hc1 => ?_)
    · skip
      try simp only [decide_eq_true_eq, decide_eq_false_iff_not, Bool.not_eq_true', Bool.not_eq_false', Bool.not_true, Bool.not_false] at hc1
      refine W_reg rfl (fun K hK => ?_)
      refine sv hF (v_move rfl) rfl ?_; clear hF a; intro a hF
      refine sv hF (v_move rfl) rfl ?_; clear hF a; intro a hF
      refine sv hF (v_lenT rfl Tryd.underlying9 rfl) rfl ?_; clear hF a; intro a hF
      refine sv hF ((v_subI rfl rfl (by omega)).as (show Value.int .i64 ((f.length : Int) - 1) = .int .i64 ((f.length - 1 : Nat) : Int) by congr 1; omega)) rfl ?_; clear hF a; intro a hF
      refine sv hF (v_slHiT Tryd.underlying9 rfl rfl (by omega)) rfl ?_; clear hF a; intro a hF
      refine sv hF (v_assign rfl) rfl ?_; clear hF a; intro a hF
      refine WL_nil (hK _ _ ?_)
      clear hK K
      replace hF := hF.sub _ (c_ 6 rfl (c_ 5 rfl (c_ 4 rfl (c_ 3 rfl (c_ 2 rfl (n_))))))
      rw [show f.take (f.length - 1) = bareOf f by unfold bareOf; rw [if_pos (by assumption), List.dropLast_eq_take]] at hF
      exact ⟨hF.sub _ (c_ 2 rfl (c_ 4 rfl (c_ 5 rfl (c_ 6 rfl n_)))), hS, hT⟩
    · skip
      try simp only [decide_eq_true_eq, decide_eq_false_iff_not, Bool.not_eq_true', Bool.not_eq_false', Bool.not_true, Bool.not_false] at hc1
      refine W_skip ?_
      have hbf : bareOf f = f := by unfold bareOf; rw [if_neg (by simp_all)]
      rw [hbf]
      exact ⟨hF.sub _ (c_ 2 rfl (c_ 4 rfl (c_ 5 rfl (c_ 6 rfl n_)))), hS, hT⟩
  · skip
    clear hF
    clear hS hT
    rintro a w1 ⟨hF, hS, hT⟩
    refine W_seq ?_
    refine W_sr rfl (fun K hK => ?_)
    refine sv hF (v_move rfl) rfl ?_; clear hF a; intro a hF
    refine sc hF rfl rfl rfl en16 rfl (rMay15_ok B (objOf f) _ hS.inv) ?_; clear hF a; intro v w' a hv hF
    obtain ⟨rfl, hS'⟩ := hv
    replace hT := hT.st hS'
    replace hS := hS.trans hS'
    clear hS'
    refine sb hF (v_not rfl) rfl ?_ ?_
    · clear hF a; intro hc2 a hF
      try simp only [decide_eq_true_eq, decide_eq_false_iff_not, Bool.not_eq_true', Bool.not_eq_false', Bool.not_true, Bool.not_false] at hc2
      refine sv hF (v_move rfl) rfl ?_; clear hF a; intro a hF
      refine svn hF rfl rfl rfl ?_; clear hF a; intro a hF
      refine svn hF rfl rfl rfl ?_; clear hF a; intro a hF
      refine svn hF rfl rfl rfl ?_; clear hF a; intro a hF
      refine sv hF (v_pickT rfl rfl) rfl ?_; clear hF a; intro a hF
      refine WL_nil (hK _ _ ?_)
      clear hK K
      replace hF := hF.sub _ (c_ 45 rfl (c_ 2 rfl (c_ 4 rfl (c_ 5 rfl (c_ 6 rfl (n_))))))
      refine W_ifT hF rfl ?_
      have hrd : rd f = none := rd_no (by first | (left; simpa using hc1) | (right; omega) | (left; simp_all))
      refine W_sr rfl (fun K hK => ?_)
      refine sv hF (v_build (cs := nmz.cells.toArray) rfl (by kernel_rfl)) rfl ?_; clear hF a; intro a hF
      refine s_storeN (D := FDx) (B := B) hF (by kernel_rfl) rfl rfl (rfl) (by rfl) hT hS.inv ?_; intro w' hm hI' hrc'
      replace hS := hS.mb hm (fun k h => by cases h; exact hT.low)
      replace hT := hrc'
      clear hm hI' hrc'
      refine sv hF (v_assign rfl) rfl ?_; clear hF a; intro a hF
      refine WL_nil (hK _ _ ?_)
      clear hK K
      replace hF := hF.sub _ (c_ 3 rfl (c_ 2 rfl (c_ 4 rfl (c_ 5 rfl (c_ 6 rfl (n_))))))
      refine W_ret ?_
      refine ⟨_, _, _, _, hF, rfl, (ld_rec Tryd.underlying27 rfl (by kernel_rfl) hT), rfl, ?_⟩
      exact ⟨by rw [hrd]; rfl, hS⟩
    · clear hF a; intro hc2 a hF
      try simp only [decide_eq_true_eq, decide_eq_false_iff_not, Bool.not_eq_true', Bool.not_eq_false', Bool.not_true, Bool.not_false] at hc2
      refine sv hF (v_move rfl) rfl ?_; clear hF a; intro a hF
      refine svg hF rfl ?_
      refine sv hF (v_move rfl) rfl ?_; clear hF a; intro a hF
      refine svg hF rfl ?_
      refine sv hF (v_lenT rfl Tryd.underlying9 rfl) rfl ?_; clear hF a; intro a hF
      refine svg hF rfl ?_
      refine sv hF (v_gtr rfl rfl) rfl ?_; clear hF a; intro a hF
      refine sv hF (v_pickF rfl rfl) rfl ?_; clear hF a; intro a hF
      refine WL_nil (hK _ _ ?_)
      clear hK K
      replace hF := hF.sub _ (c_ 45 rfl (c_ 2 rfl (c_ 4 rfl (c_ 5 rfl (c_ 6 rfl (n_))))))
      refine W_if hF rfl (fun hc3 => ?_) (fun hc3 => ?_)
      · skip
        try simp only [decide_eq_true_eq, decide_eq_false_iff_not, Bool.not_eq_true', Bool.not_eq_false', Bool.not_true, Bool.not_false] at hc3
        have hrd : rd f = none := rd_no (by first | (left; simpa using hc1) | (right; omega) | (left; simp_all))
        refine W_sr rfl (fun K hK => ?_)
        refine sv hF (v_build (cs := nmz.cells.toArray) rfl (by kernel_rfl)) rfl ?_; clear hF a; intro a hF
        refine s_storeN (D := FDx) (B := B) hF (by kernel_rfl) rfl rfl (rfl) (by rfl) hT hS.inv ?_; intro w' hm hI' hrc'
        replace hS := hS.mb hm (fun k h => by cases h; exact hT.low)
        replace hT := hrc'
        clear hm hI' hrc'
        refine sv hF (v_assign rfl) rfl ?_; clear hF a; intro a hF
        refine WL_nil (hK _ _ ?_)
        clear hK K
        replace hF := hF.sub _ (c_ 3 rfl (c_ 2 rfl (c_ 4 rfl (c_ 5 rfl (c_ 6 rfl (n_))))))
        refine W_ret ?_
        refine ⟨_, _, _, _, hF, rfl, (ld_rec Tryd.underlying27 rfl (by kernel_rfl) hT), rfl, ?_⟩
        exact ⟨by rw [hrd]; rfl, hS⟩
      · skip
        try simp only [decide_eq_true_eq, decide_eq_false_iff_not, Bool.not_eq_true', Bool.not_eq_false', Bool.not_true, Bool.not_false] at hc3
        refine W_skip ?_
        refine W_seq ?_
        have hms : mayS (objOf f) = true := by simp_all
        have hml := mayS_len hms
        refine W_sr rfl (fun K hK => ?_)
        refine sv hF (v_move rfl) rfl ?_; clear hF a; intro a hF
        refine sv hF (v_move rfl) rfl ?_; clear hF a; intro a hF
        refine sv hF (v_catT (b := [46, 115, 105, 100, 101]) rfl rfl (by simp [maxLen]; omega)) rfl ?_; clear hF a; intro a hF
        rw [show objOf f ++ [46, 115, 105, 100, 101] = objOf f ++ 46 :: sideL from rfl] at hF
        refine sv hF (v_eqlT rfl rfl) rfl ?_; clear hF a; intro a hF
        refine WL_nil (hK _ _ ?_)
        clear hK K
        replace hF := hF.sub _ (c_ 50 rfl (c_ 2 rfl (c_ 4 rfl (c_ 5 rfl (c_ 6 rfl (n_))))))
        refine W_if hF rfl (fun hc4 => ?_) (fun hc4 => ?_)
        · skip
          try simp only [decide_eq_true_eq, decide_eq_false_iff_not, Bool.not_eq_true', Bool.not_eq_false', Bool.not_true, Bool.not_false] at hc4
          have hrd : rd f = some ⟨objOf f, 3, 0, [], 0, 0, 0, tempOf f⟩ := by rw [rd_at (s := sideL) (by assumption) hms, rdS_side]
          refine W_sr rfl (fun K hK => ?_)
          refine sv hF (v_move rfl) rfl ?_; clear hF a; intro a hF
          refine sv hF (v_move rfl) rfl ?_; clear hF a; intro a hF
          refine sv hF (v_build (cs := (Nm.cells ⟨objOf f, 3, 0, [], 0, 0, 0, tempOf f⟩).toArray) rfl (by kernel_rfl)) rfl ?_; clear hF a; intro a hF
          refine s_storeN (D := FDx) (B := B) hF (by kernel_rfl) rfl rfl (rfl) (by rfl) hT hS.inv ?_; intro w' hm hI' hrc'
          replace hS := hS.mb hm (fun k h => by cases h; exact hT.low)
          replace hT := hrc'
          clear hm hI' hrc'
          refine sv hF (v_assign rfl) rfl ?_; clear hF a; intro a hF
          refine WL_nil (hK _ _ ?_)
          clear hK K
          replace hF := hF.sub _ (c_ 3 rfl (c_ 2 rfl (c_ 4 rfl (c_ 5 rfl (c_ 6 rfl (n_))))))
          refine W_ret ?_
          refine ⟨_, _, _, _, hF, rfl, (ld_rec Tryd.underlying27 rfl (by kernel_rfl) hT), rfl, ?_⟩
          exact ⟨by rw [hrd]; rfl, hS⟩
        · skip
          try simp only [decide_eq_true_eq, decide_eq_false_iff_not, Bool.not_eq_true', Bool.not_eq_false', Bool.not_true, Bool.not_false] at hc4
          have hns : ¬ bareOf f = objOf f ++ 46 :: sideL := by assumption
          refine W_skip ?_
          refine W_seq ?_
          refine W_sr rfl (fun K hK => ?_)
          refine sv hF (v_assign rfl) rfl ?_; clear hF a; intro a hF
          refine WL_nil (hK _ _ ?_)
          clear hK K
          replace hF := hF.sub _ (c_ 7 rfl (c_ 2 rfl (c_ 4 rfl (c_ 5 rfl (c_ 6 rfl (n_))))))
          refine W_block ?_
          refine W_loop (fun q0 a w1 => ∃ (p : Nat), Fr 126 [(2, .pointer (some ⟨gT, 0, none⟩)), (4, .string (str (objOf f))), (5, .bool (tempOf f)), (6, .string (str (bareOf f))), (7, .int .i64 (p : Int))] a ∧ (St FDx B w w1) ∧ (RecB FDx B w.heap.size w1 gT 27 nmz.cells) ∧ (1 ≤ p ∧ p ≤ 7) ∧ (∀ q : Nat, 1 ≤ q → q < p → noP (objOf f) (bareOf f) (q : Int)) ∧ (q0 + p = 7)) (6) ?_ ?_
          · skip
            exact ⟨1, hF.sub _ (c_ 2 rfl (c_ 4 rfl (c_ 5 rfl (c_ 6 rfl (c_ 7 rfl (n_)))))), hS, hT, by omega, fun q h1 h2 => by omega, by omega⟩
          · skip
            clear hF
            clear hS hT
            rintro q0 a w1 ⟨p, hF, hS, hT, hp, hp0, hq0⟩
            refine W_seq ?_
            refine W_sr rfl (fun K hK => ?_)
            refine sv hF (v_move rfl) rfl ?_; clear hF a; intro a hF
            refine sv hF (v_leq rfl rfl) rfl ?_; clear hF a; intro a hF
            refine WL_nil (hK _ _ ?_)
            clear hK K
            replace hF := hF.sub _ (c_ 55 rfl (c_ 2 rfl (c_ 4 rfl (c_ 5 rfl (c_ 6 rfl (c_ 7 rfl (n_)))))))
            refine W_if hF rfl (fun hc5 => ?_) (fun hc5 => ?_)
            · skip
              try simp only [decide_eq_true_eq, decide_eq_false_iff_not, Bool.not_eq_true', Bool.not_eq_false', Bool.not_true, Bool.not_false] at hc5
              have hp6 : 1 ≤ (p : Int) ∧ (p : Int) ≤ 6 := by omega
              refine W_skip ?_
              refine W_seq ?_
              refine W_block ?_
              refine W_sr rfl (fun K hK => ?_)
              refine sv hF (v_move rfl) rfl ?_; clear hF a; intro a hF
              refine sc hF rfl rfl rfl en15 rfl (rPOf_ok B (p : Int) _ hS.inv) ?_; clear hF a; intro v w' a hv hF
              obtain ⟨rfl, hS'⟩ := hv
              replace hT := hT.st hS'
              replace hS := hS.trans hS'
              clear hS'
              refine sv hF (v_move rfl) rfl ?_; clear hF a; intro a hF
              refine sv hF (v_ext rfl rfl) rfl ?_; clear hF a; intro a hF
              refine sv hF (v_ext rfl rfl) rfl ?_; clear hF a; intro a hF
              have hs0 := hS.ext.size
              have tT := heap_lt hT.blk
              refine s_allocN (D := FDx) (B := B) (z := .agg prz.toArray) hF (by kernel_rfl) (by decide) hS.inv rfl ?_; clear hF a; intro gR w' a hm hI' hR hF
              replace hT := hT.mb hm (by simp)
              replace hS := hS.mb0 hm
              clear hm hI'
              have hgR := hR.low
              replace hR := hR.le hs0
              clear hs0
              refine s_storeN (D := FDx) (B := B) hF (by rw [List.size_toArray, prOf_len]; kernel_rfl) rfl rfl (prOf_one _) (by rw [List.size_toArray, prOf_len]; rfl) hR hS.inv ?_; intro w' hm hI' hrc'
              replace hT := hT.mb hm (by simp; omega)
              replace hS := hS.mb hm (fun k h => by cases h; exact hR.low)
              replace hR := hrc'
              clear hm hI' hrc'
              refine sv hF (v_assign rfl) rfl ?_; clear hF a; intro a hF
              refine WL_nil (hK _ _ ?_)
              clear hK K
              replace hF := hF.sub _ (c_ 8 rfl (c_ 2 rfl (c_ 4 rfl (c_ 5 rfl (c_ 6 rfl (c_ 7 rfl (n_)))))))
              have hne : gT ≠ gR := by omega
              refine W_sr rfl (fun K hK => ?_)
              refine sv hF (v_assign rfl) rfl ?_; clear hF a; intro a hF
              refine WL_nil (hK _ _ ?_)
              clear hK K
              refine W_block ?_
              refine W_loop (fun q1 a w2 => ∃ (k : Nat), Fr 126 [(2, .pointer (some ⟨gT, 0, none⟩)), (4, .string (str (objOf f))), (5, .bool (tempOf f)), (6, .string (str (bareOf f))), (7, .int .i64 (p : Int)), (8, .pointer (some ⟨gR, 0, none⟩)), (10, .int .i64 (k : Int))] a ∧ (St FDx B w w2) ∧ (RecB FDx B w.heap.size w2 gT 27 nmz.cells) ∧ (RecB FDx B w.heap.size w2 gR 42 (prOf (p : Int))) ∧ (1 ≤ k ∧ k ≤ 9) ∧ (∀ l : Nat, 1 ≤ l → l < k → noK (objOf f) (bareOf f) (p : Int) l) ∧ (q1 + k = 9)) (8) ?_ ?_
              · skip
                exact ⟨1, hF.sub _ (c_ 2 rfl (c_ 4 rfl (c_ 5 rfl (c_ 6 rfl (c_ 7 rfl (c_ 8 rfl (c_ 10 rfl (n_)))))))), hS, hT, hR, by omega, fun l h1 h2 => by omega, by omega⟩
              · skip
                clear hF
                clear hS hT hR
                rintro q1 a w2 ⟨k, hF, hS, hT, hR, hk, hk0, hq1⟩
                refine W_seq ?_
                refine W_sr rfl (fun K hK => ?_)
                refine sv hF (v_move rfl) rfl ?_; clear hF a; intro a hF
                refine sv hF (v_leq rfl rfl) rfl ?_; clear hF a; intro a hF
                refine WL_nil (hK _ _ ?_)
                clear hK K
                replace hF := hF.sub _ (c_ 64 rfl (c_ 2 rfl (c_ 4 rfl (c_ 5 rfl (c_ 6 rfl (c_ 7 rfl (c_ 8 rfl (c_ 10 rfl (n_)))))))))
                refine W_if hF rfl (fun hc6 => ?_) (fun hc6 => ?_)
                · skip
                  try simp only [decide_eq_true_eq, decide_eq_false_iff_not, Bool.not_eq_true', Bool.not_eq_false', Bool.not_true, Bool.not_false] at hc6
                  refine W_skip ?_
                  refine W_seq ?_
                  refine W_block ?_
                  refine W_seq ?_
                  refine W_sr rfl (fun K hK => ?_)
                  refine sv hF (v_assign rfl) rfl ?_; clear hF a; intro a hF
                  refine WL_nil (hK _ _ ?_)
                  clear hK K
                  replace hF := hF.sub _ (c_ 11 rfl (c_ 2 rfl (c_ 4 rfl (c_ 5 rfl (c_ 6 rfl (c_ 7 rfl (c_ 8 rfl (c_ 10 rfl (n_)))))))))
                  refine W_block ?_
                  refine W_loop (fun q2 a w3 => ∃ (i : Nat), Fr 126 [(2, .pointer (some ⟨gT, 0, none⟩)), (4, .string (str (objOf f))), (5, .bool (tempOf f)), (6, .string (str (bareOf f))), (7, .int .i64 (p : Int)), (8, .pointer (some ⟨gR, 0, none⟩)), (10, .int .i64 (k : Int)), (11, .int .i64 (i : Int))] a ∧ (St FDx B w w3) ∧ (RecB FDx B w.heap.size w3 gT 27 nmz.cells) ∧ (RecB FDx B w.heap.size w3 gR 42 (prOf (p : Int))) ∧ (i ≤ k) ∧ (∀ j : Nat, j < i → dataN (objOf f) (layL (p : Int)) k j ≠ (bareOf f)) ∧ (q2 + i = k)) (k) ?_ ?_
                  · skip
                    exact ⟨0, hF.sub _ (c_ 2 rfl (c_ 4 rfl (c_ 5 rfl (c_ 6 rfl (c_ 7 rfl (c_ 8 rfl (c_ 10 rfl (c_ 11 rfl (n_))))))))), hS, hT, hR, by omega, fun j h => by omega, by omega⟩
                  · skip
                    clear hF
                    clear hS hT hR
                    rintro q2 a w3 ⟨i, hF, hS, hT, hR, hi, hi0, hq2⟩
                    refine W_seq ?_
                    refine W_sr rfl (fun K hK => ?_)
                    refine sv hF (v_move rfl) rfl ?_; clear hF a; intro a hF
                    refine sv hF (v_move rfl) rfl ?_; clear hF a; intro a hF
                    refine sv hF (v_lss rfl rfl) rfl ?_; clear hF a; intro a hF
                    refine WL_nil (hK _ _ ?_)
                    clear hK K
                    replace hF := hF.sub _ (c_ 69 rfl (c_ 2 rfl (c_ 4 rfl (c_ 5 rfl (c_ 6 rfl (c_ 7 rfl (c_ 8 rfl (c_ 10 rfl (c_ 11 rfl (n_))))))))))
                    refine W_if hF rfl (fun hc7 => ?_) (fun hc7 => ?_)
                    · skip
                      try simp only [decide_eq_true_eq, decide_eq_false_iff_not, Bool.not_eq_true', Bool.not_eq_false', Bool.not_true, Bool.not_false] at hc7
                      have hlt : i < k := by omega
                      refine W_skip ?_
                      refine W_seq ?_
                      refine W_block ?_
                      refine W_sr rfl (fun K hK => ?_)
                      refine sv hF (v_move rfl) rfl ?_; clear hF a; intro a hF
                      refine sv hF (v_move rfl) rfl ?_; clear hF a; intro a hF
                      refine sv hF (v_move rfl) rfl ?_; clear hF a; intro a hF
                      refine sv hF (v_build (cs := #[.int .i64 (p : Int), .int .i64 (k : Int), .int .i64 1]) rfl (by kernel_rfl)) rfl ?_; clear hF a; intro a hF
                      refine sv hF (v_move rfl) rfl ?_; clear hF a; intro a hF
                      refine sc hF rfl rfl rfl en19 rfl (rShard_ok B (objOf f) (p : Int) (k : Int) 1 (i : Int) _ hS.inv) ?_; clear hF a; intro v w' a hv hF
                      obtain ⟨rfl, hS'⟩ := hv
                      replace hT := hT.st hS'
                      replace hR := hR.st hS'
                      replace hS := hS.trans hS'
                      clear hS'
                      rw [show shardR (objOf f) (p : Int) (k : Int) 1 (i : Int) = (dataN (objOf f) (layL (p : Int)) k i, 0) from (shardR_is (m := 1) (i := i) hms (mayP_is (kn := k) (mn := 1) (p := (p : Int)) (by omega) (by omega) (by omega) (by omega)) (by omega)).trans (by rw [shardN, if_pos hlt])] at hF
                      refine sv hF (v_move rfl) rfl ?_; clear hF a; intro a hF
                      refine sv hF (v_ext rfl rfl) rfl ?_; clear hF a; intro a hF
                      refine sv hF (v_ext rfl rfl) rfl ?_; clear hF a; intro a hF
                      refine sv hF (v_assign rfl) rfl ?_; clear hF a; intro a hF
                      refine sv hF (v_assign rfl) rfl ?_; clear hF a; intro a hF
                      refine WL_nil (hK _ _ ?_)
                      clear hK K
                      replace hF := hF.sub _ (c_ 12 rfl (c_ 2 rfl (c_ 4 rfl (c_ 5 rfl (c_ 6 rfl (c_ 7 rfl (c_ 8 rfl (c_ 10 rfl (c_ 11 rfl (n_))))))))))
                      refine W_sr rfl (fun K hK => ?_)
                      refine sv hF (v_move rfl) rfl ?_; clear hF a; intro a hF
                      refine sv hF (v_move rfl) rfl ?_; clear hF a; intro a hF
                      refine sv hF (v_eqlT rfl rfl) rfl ?_; clear hF a; intro a hF
                      refine WL_nil (hK _ _ ?_)
                      clear hK K
                      replace hF := hF.sub _ (c_ 83 rfl (c_ 2 rfl (c_ 4 rfl (c_ 5 rfl (c_ 6 rfl (c_ 7 rfl (c_ 8 rfl (c_ 10 rfl (c_ 11 rfl (n_))))))))))
                      refine W_if hF rfl (fun hc8 => ?_) (fun hc8 => ?_)
                      · skip
                        try simp only [decide_eq_true_eq, decide_eq_false_iff_not, Bool.not_eq_true', Bool.not_eq_false', Bool.not_true, Bool.not_false] at hc8
                        have hrd := rd_data (f := f) hms hp6 (by omega) hlt (by assumption)
                        refine W_sr rfl (fun K hK => ?_)
                        refine sv hF (v_move rfl) rfl ?_; clear hF a; intro a hF
                        refine sv hF (v_fieldAddr fa42_3 rfl) rfl ?_; clear hF a; intro a hF
                        refine sv hF (v_load sc5 rfl ((hR.kc 3 (prOf_lay hp6)).c)) rfl ?_; clear hF a; intro a hF
                        refine sv hF (v_move rfl) rfl ?_; clear hF a; intro a hF
                        refine sv hF (v_move rfl) rfl ?_; clear hF a; intro a hF
                        refine sv hF (v_move rfl) rfl ?_; clear hF a; intro a hF
                        refine sv hF (v_build (cs := (Nm.cells ⟨objOf f, 1, layL (p : Int), [], (k : Int), 0, (i : Int), tempOf f⟩).toArray) rfl (by kernel_rfl)) rfl ?_; clear hF a; intro a hF
                        refine s_storeN (D := FDx) (B := B) hF (by kernel_rfl) rfl rfl (rfl) (by rfl) hT hS.inv ?_; intro w' hm hI' hrc'
                        replace hS := hS.mb hm (fun k h => by cases h; exact hT.low)
                        replace hT := hrc'
                        clear hm hI' hrc'
                        refine sv hF (v_assign rfl) rfl ?_; clear hF a; intro a hF
                        refine WL_nil (hK _ _ ?_)
                        clear hK K
                        replace hF := hF.sub _ (c_ 3 rfl (c_ 2 rfl (c_ 4 rfl (c_ 5 rfl (c_ 6 rfl (c_ 7 rfl (c_ 8 rfl (c_ 10 rfl (c_ 11 rfl (n_))))))))))
                        refine W_ret ?_
                        refine ⟨_, _, _, _, hF, rfl, (ld_rec Tryd.underlying27 rfl (by kernel_rfl) hT), rfl, ?_⟩
                        exact ⟨by rw [hrd]; rfl, hS⟩
                      · skip
                        try simp only [decide_eq_true_eq, decide_eq_false_iff_not, Bool.not_eq_true', Bool.not_eq_false', Bool.not_true, Bool.not_false] at hc8
                        have hno : ¬ dataN (objOf f) (layL (p : Int)) k i = bareOf f := by assumption
                        refine W_skip ?_
                        refine W_reg rfl (fun K hK => ?_)
                        refine sv hF (v_move rfl) rfl ?_; clear hF a; intro a hF
                        refine sv hF (v_addI rfl rfl (by omega)) rfl ?_; clear hF a; intro a hF
                        refine sv hF (v_assign rfl) rfl ?_; clear hF a; intro a hF
                        refine WL_nil (hK _ _ ?_)
                        clear hK K
                        replace hF := hF.sub _ (c_ 11 rfl (c_ 71 rfl (c_ 70 rfl (c_ 2 rfl (c_ 4 rfl (c_ 5 rfl (c_ 6 rfl (c_ 7 rfl (c_ 8 rfl (c_ 10 rfl (n_)))))))))))
                        exact ⟨q2 - 1, by omega, i + 1, hF.sub _ (c_ 2 rfl (c_ 4 rfl (c_ 5 rfl (c_ 6 rfl (c_ 7 rfl (c_ 8 rfl (c_ 10 rfl (c_ 11 rfl (n_))))))))), hS, hT, hR, by omega, (fun j h => by rcases Nat.lt_or_ge j i with h2 | h2; exact hi0 j h2; obtain rfl : j = i := (by omega); exact hno), by omega⟩
                    · skip
                      try simp only [decide_eq_true_eq, decide_eq_false_iff_not, Bool.not_eq_true', Bool.not_eq_false', Bool.not_true, Bool.not_false] at hc7
                      obtain rfl : k = i := by omega
                      refine W_exit rfl ?_
                      have hmx : 3 ≤ maxM (p : Int) ∧ maxM (p : Int) ≤ 4 ∧ ((p : Int) = 3 → maxM (p : Int) = 3) := by unfold maxM; split <;> omega
                      refine W_sr rfl (fun K hK => ?_)
                      refine sv hF (v_assign rfl) rfl ?_; clear hF a; intro a hF
                      refine WL_nil (hK _ _ ?_)
                      clear hK K
                      replace hF := hF.sub _ (c_ 14 rfl (c_ 2 rfl (c_ 4 rfl (c_ 5 rfl (c_ 6 rfl (c_ 7 rfl (c_ 8 rfl (c_ 10 rfl (c_ 11 rfl (n_))))))))))
                      refine W_block ?_
                      refine W_loop (fun q3 a w4 => ∃ (m : Nat), Fr 126 [(2, .pointer (some ⟨gT, 0, none⟩)), (4, .string (str (objOf f))), (5, .bool (tempOf f)), (6, .string (str (bareOf f))), (7, .int .i64 (p : Int)), (8, .pointer (some ⟨gR, 0, none⟩)), (10, .int .i64 (k : Int)), (14, .int .i64 (m : Int))] a ∧ (St FDx B w w4) ∧ (RecB FDx B w.heap.size w4 gT 27 nmz.cells) ∧ (RecB FDx B w.heap.size w4 gR 42 (prOf (p : Int))) ∧ (1 ≤ m ∧ (m : Int) ≤ maxM (p : Int) + 1) ∧ (∀ l j : Nat, 1 ≤ l → l < m → j < l → parN (objOf f) (tagL (p : Int)) k l j ≠ (bareOf f)) ∧ (q3 + m = (maxM (p : Int) + 1).toNat)) ((maxM (p : Int)).toNat) ?_ ?_
                      · skip
                        exact ⟨1, hF.sub _ (c_ 2 rfl (c_ 4 rfl (c_ 5 rfl (c_ 6 rfl (c_ 7 rfl (c_ 8 rfl (c_ 10 rfl (c_ 14 rfl (n_))))))))), hS, hT, hR, by omega, fun l j h1 h2 h3 => by omega, by omega⟩
                      · skip
                        clear hF
                        clear hS hT hR
                        rintro q3 a w4 ⟨m, hF, hS, hT, hR, hm, hm0, hq3⟩
                        refine W_seq ?_
                        refine W_sr rfl (fun K hK => ?_)
                        refine sv hF (v_move rfl) rfl ?_; clear hF a; intro a hF
                        refine sv hF (v_fieldAddr fa42_4 rfl) rfl ?_; clear hF a; intro a hF
                        refine sv hF (v_load sc3 rfl ((hR.kc 4 (prOf_max hp6.1 hp6.2)).c)) rfl ?_; clear hF a; intro a hF
                        refine sv hF (v_leq rfl rfl) rfl ?_; clear hF a; intro a hF
                        refine WL_nil (hK _ _ ?_)
                        clear hK K
                        refine W_if hF rfl (fun hc9 => ?_) (fun hc9 => ?_)
                        · skip
                          try simp only [decide_eq_true_eq, decide_eq_false_iff_not, Bool.not_eq_true', Bool.not_eq_false', Bool.not_true, Bool.not_false] at hc9
                          have hmay : mayP (p : Int) (k : Int) (m : Int) = true := mayP_is (by omega) (by omega) (by omega) (by omega)
                          refine W_skip ?_
                          refine W_seq ?_
                          refine W_block ?_
                          refine W_sr rfl (fun K hK => ?_)
                          refine sv hF (v_assign rfl) rfl ?_; clear hF a; intro a hF
                          refine WL_nil (hK _ _ ?_)
                          clear hK K
                          refine W_block ?_
                          refine W_loop (fun q4 a w5 => ∃ (i : Nat), Fr 126 [(2, .pointer (some ⟨gT, 0, none⟩)), (4, .string (str (objOf f))), (5, .bool (tempOf f)), (6, .string (str (bareOf f))), (7, .int .i64 (p : Int)), (8, .pointer (some ⟨gR, 0, none⟩)), (10, .int .i64 (k : Int)), (14, .int .i64 (m : Int)), (15, .int .i64 (i : Int))] a ∧ (St FDx B w w5) ∧ (RecB FDx B w.heap.size w5 gT 27 nmz.cells) ∧ (RecB FDx B w.heap.size w5 gR 42 (prOf (p : Int))) ∧ (i ≤ m) ∧ (∀ j : Nat, j < i → parN (objOf f) (tagL (p : Int)) k m j ≠ (bareOf f)) ∧ (q4 + i = m)) (m) ?_ ?_
                          · skip
                            exact ⟨0, hF.sub _ (c_ 2 rfl (c_ 4 rfl (c_ 5 rfl (c_ 6 rfl (c_ 7 rfl (c_ 8 rfl (c_ 10 rfl (c_ 14 rfl (c_ 15 rfl (n_)))))))))), hS, hT, hR, by omega, fun j h => by omega, by omega⟩
                          · skip
                            clear hF
                            clear hS hT hR
                            rintro q4 a w5 ⟨i, hF, hS, hT, hR, hi, hj0, hq4⟩
                            refine W_seq ?_
                            refine W_sr rfl (fun K hK => ?_)
                            refine sv hF (v_move rfl) rfl ?_; clear hF a; intro a hF
                            refine sv hF (v_move rfl) rfl ?_; clear hF a; intro a hF
                            refine sv hF (v_lss rfl rfl) rfl ?_; clear hF a; intro a hF
                            refine WL_nil (hK _ _ ?_)
                            clear hK K
                            refine W_if hF rfl (fun hc10 => ?_) (fun hc10 => ?_)
                            · skip
                              try simp only [decide_eq_true_eq, decide_eq_false_iff_not, Bool.not_eq_true', Bool.not_eq_false', Bool.not_true, Bool.not_false] at hc10
                              have hlt : i < m := by omega
                              refine W_skip ?_
                              refine W_seq ?_
                              refine W_block ?_
                              refine W_sr rfl (fun K hK => ?_)
                              refine sv hF (v_move rfl) rfl ?_; clear hF a; intro a hF
                              refine sv hF (v_move rfl) rfl ?_; clear hF a; intro a hF
                              refine sv hF (v_move rfl) rfl ?_; clear hF a; intro a hF
                              refine sv hF (v_move rfl) rfl ?_; clear hF a; intro a hF
                              refine sv hF (v_build (cs := #[.int .i64 (p : Int), .int .i64 (k : Int), .int .i64 (m : Int)]) rfl (by kernel_rfl)) rfl ?_; clear hF a; intro a hF
                              refine sv hF (v_move rfl) rfl ?_; clear hF a; intro a hF
                              refine sv hF (v_move rfl) rfl ?_; clear hF a; intro a hF
                              refine sv hF ((v_addI rfl rfl (by omega)).as (show Value.int .i64 ((k : Int) + (i : Int)) = .int .i64 ((k + i : Nat) : Int) by simp)) rfl ?_; clear hF a; intro a hF
                              refine sc hF rfl rfl rfl en19 rfl (rShard_ok B (objOf f) (p : Int) (k : Int) (m : Int) ((k + i : Nat) : Int) _ hS.inv) ?_; clear hF a; intro v w' a hv hF
                              obtain ⟨rfl, hS'⟩ := hv
                              replace hT := hT.st hS'
                              replace hR := hR.st hS'
                              replace hS := hS.trans hS'
                              clear hS'
                              rw [show shardR (objOf f) (p : Int) (k : Int) (m : Int) ((k + i : Nat) : Int) = (parN (objOf f) (tagL (p : Int)) k m i, 0) by rw [shardR_is hms hmay (by omega), shardN, if_neg (by omega), show k + i - k = i by omega]] at hF
                              refine sv hF (v_move rfl) rfl ?_; clear hF a; intro a hF
                              refine sv hF (v_ext rfl rfl) rfl ?_; clear hF a; intro a hF
                              refine sv hF (v_ext rfl rfl) rfl ?_; clear hF a; intro a hF
                              refine sv hF (v_assign rfl) rfl ?_; clear hF a; intro a hF
                              refine sv hF (v_assign rfl) rfl ?_; clear hF a; intro a hF
                              refine WL_nil (hK _ _ ?_)
                              clear hK K
                              replace hF := hF.sub _ (c_ 16 rfl (c_ 113 rfl (c_ 112 rfl (c_ 102 rfl (c_ 111 rfl (c_ 110 rfl (c_ 109 rfl (c_ 108 rfl (c_ 107 rfl (c_ 106 rfl (c_ 105 rfl (c_ 104 rfl (c_ 103 rfl (c_ 99 rfl (c_ 98 rfl (c_ 97 rfl (c_ 2 rfl (c_ 4 rfl (c_ 5 rfl (c_ 6 rfl (c_ 7 rfl (c_ 8 rfl (c_ 10 rfl (c_ 14 rfl (c_ 15 rfl (n_))))))))))))))))))))))))))
                              refine W_sr rfl (fun K hK => ?_)
                              refine sv hF (v_move rfl) rfl ?_; clear hF a; intro a hF
                              refine sv hF (v_move rfl) rfl ?_; clear hF a; intro a hF
                              refine sv hF (v_eqlT rfl rfl) rfl ?_; clear hF a; intro a hF
                              refine WL_nil (hK _ _ ?_)
                              clear hK K
                              refine W_if hF rfl (fun hc11 => ?_) (fun hc11 => ?_)
                              · skip
                                try simp only [decide_eq_true_eq, decide_eq_false_iff_not, Bool.not_eq_true', Bool.not_eq_false', Bool.not_true, Bool.not_false] at hc11
                                have hrd := rd_par (f := f) hms hmay hlt (by assumption)
                                refine W_sr rfl (fun K hK => ?_)
                                refine sv hF (v_move rfl) rfl ?_; clear hF a; intro a hF
                                refine sv hF (v_fieldAddr fa42_0 rfl) rfl ?_; clear hF a; intro a hF
                                refine sv hF (v_load sc9 rfl ((hR.kc 0 (prOf_tagL hp6)).c)) rfl ?_; clear hF a; intro a hF
                                refine sv hF (v_move rfl) rfl ?_; clear hF a; intro a hF
                                refine sv hF (v_move rfl) rfl ?_; clear hF a; intro a hF
                                refine sv hF (v_move rfl) rfl ?_; clear hF a; intro a hF
                                refine sv hF (v_move rfl) rfl ?_; clear hF a; intro a hF
                                refine sv hF (v_build (cs := (Nm.cells ⟨objOf f, 2, 0, tagL (p : Int), (k : Int), (m : Int), (i : Int), tempOf f⟩).toArray) rfl (by kernel_rfl)) rfl ?_; clear hF a; intro a hF
                                refine s_storeN (D := FDx) (B := B) hF (by kernel_rfl) rfl rfl (rfl) (by rfl) hT hS.inv ?_; intro w' hm hI' hrc'
                                replace hS := hS.mb hm (fun k h => by cases h; exact hT.low)
                                replace hT := hrc'
                                clear hm hI' hrc'
                                refine sv hF (v_assign rfl) rfl ?_; clear hF a; intro a hF
                                refine WL_nil (hK _ _ ?_)
                                clear hK K
                                refine W_ret ?_
                                refine ⟨_, _, _, _, hF, rfl, (ld_rec Tryd.underlying27 rfl (by kernel_rfl) hT), rfl, ?_⟩
                                exact ⟨by rw [hrd]; rfl, hS⟩
                              · skip
                                try simp only [decide_eq_true_eq, decide_eq_false_iff_not, Bool.not_eq_true', Bool.not_eq_false', Bool.not_true, Bool.not_false] at hc11
                                have hno : ¬ parN (objOf f) (tagL (p : Int)) k m i = bareOf f := by assumption
                                refine W_skip ?_
                                refine W_reg rfl (fun K hK => ?_)
                                refine sv hF (v_move rfl) rfl ?_; clear hF a; intro a hF
                                refine sv hF (v_addI rfl rfl (by omega)) rfl ?_; clear hF a; intro a hF
                                refine sv hF (v_assign rfl) rfl ?_; clear hF a; intro a hF
                                refine WL_nil (hK _ _ ?_)
                                clear hK K
                                exact ⟨q4 - 1, by omega, i + 1, hF.sub _ (c_ 2 rfl (c_ 4 rfl (c_ 5 rfl (c_ 6 rfl (c_ 7 rfl (c_ 8 rfl (c_ 10 rfl (c_ 14 rfl (c_ 15 rfl (n_)))))))))), hS, hT, hR, by omega, (fun j h => by rcases Nat.lt_or_ge j i with h2 | h2; exact hj0 j h2; obtain rfl : j = i := (by omega); exact hno), by omega⟩
                            · skip
                              try simp only [decide_eq_true_eq, decide_eq_false_iff_not, Bool.not_eq_true', Bool.not_eq_false', Bool.not_true, Bool.not_false] at hc10
                              obtain rfl : m = i := by omega
                              have hm1 : ∀ l j : Nat, 1 ≤ l → l < m + 1 → j < l → parN (objOf f) (tagL (p : Int)) k l j ≠ bareOf f := fun l j h1 h2 h3 => by
                                rcases Nat.lt_or_ge l m with h | h
                                · exact hm0 l j h1 h h3
                                · obtain rfl : l = m := by omega
                                  exact hj0 j h3
                              refine W_exit rfl ?_
                              refine W_reg rfl (fun K hK => ?_)
                              refine sv hF (v_move rfl) rfl ?_; clear hF a; intro a hF
                              refine sv hF (v_addI rfl rfl (by omega)) rfl ?_; clear hF a; intro a hF
                              refine sv hF (v_assign rfl) rfl ?_; clear hF a; intro a hF
                              refine WL_nil (hK _ _ ?_)
                              clear hK K
                              exact ⟨q3 - 1, by omega, m + 1, hF.sub _ (c_ 2 rfl (c_ 4 rfl (c_ 5 rfl (c_ 6 rfl (c_ 7 rfl (c_ 8 rfl (c_ 10 rfl (c_ 14 rfl (n_))))))))), hS, hT, hR, by omega, hm1, by omega⟩
                        · skip
                          try simp only [decide_eq_true_eq, decide_eq_false_iff_not, Bool.not_eq_true', Bool.not_eq_false', Bool.not_true, Bool.not_false] at hc9
                          have hk1 : ∀ l : Nat, 1 ≤ l → l < k + 1 → noK (objOf f) (bareOf f) (p : Int) l := fun l h1 h2 => by
                            rcases Nat.lt_or_ge l k with h | h
                            · exact hk0 l h1 h
                            · obtain rfl : l = k := by omega
                              refine ⟨hi0, fun m' i' hm' hi' => ?_⟩
                              have h9 := (of_decide_eq_true (show decide _ = true from hm')).2.2.2.2
                              exact hm0 m' i' (by omega) (by omega) hi'
                          refine W_exit rfl ?_
                          refine W_reg rfl (fun K hK => ?_)
                          refine sv hF (v_move rfl) rfl ?_; clear hF a; intro a hF
                          refine sv hF (v_addI rfl rfl (by omega)) rfl ?_; clear hF a; intro a hF
                          refine sv hF (v_assign rfl) rfl ?_; clear hF a; intro a hF
                          refine WL_nil (hK _ _ ?_)
                          clear hK K
                          exact ⟨q1 - 1, by omega, k + 1, hF.sub _ (c_ 2 rfl (c_ 4 rfl (c_ 5 rfl (c_ 6 rfl (c_ 7 rfl (c_ 8 rfl (c_ 10 rfl (n_)))))))), hS, hT, hR, by omega, hk1, by omega⟩
                · skip
                  try simp only [decide_eq_true_eq, decide_eq_false_iff_not, Bool.not_eq_true', Bool.not_eq_false', Bool.not_true, Bool.not_false] at hc6
                  have hp1 : ∀ q : Nat, 1 ≤ q → q < p + 1 → noP (objOf f) (bareOf f) (q : Int) := fun q h1 h2 => by
                    rcases Nat.lt_or_ge q p with h | h
                    · exact hp0 q h1 h
                    · obtain rfl : q = p := by omega
                      exact fun l h3 h4 => hk0 l h3 (by omega)
                  refine W_exit rfl ?_
                  refine W_reg rfl (fun K hK => ?_)
                  refine sv hF (v_move rfl) rfl ?_; clear hF a; intro a hF
                  refine sv hF (v_addI rfl rfl (by omega)) rfl ?_; clear hF a; intro a hF
                  refine sv hF (v_assign rfl) rfl ?_; clear hF a; intro a hF
                  refine WL_nil (hK _ _ ?_)
                  clear hK K
                  replace hF := hF.sub _ (c_ 7 rfl (c_ 57 rfl (c_ 56 rfl (c_ 2 rfl (c_ 4 rfl (c_ 5 rfl (c_ 6 rfl (c_ 8 rfl (c_ 10 rfl (n_))))))))))
                  exact ⟨q0 - 1, by omega, p + 1, hF.sub _ (c_ 2 rfl (c_ 4 rfl (c_ 5 rfl (c_ 6 rfl (c_ 7 rfl (n_)))))), hS, hT, by omega, hp1, by omega⟩
            · skip
              try simp only [decide_eq_true_eq, decide_eq_false_iff_not, Bool.not_eq_true', Bool.not_eq_false', Bool.not_true, Bool.not_false] at hc5
              refine W_exit rfl ?_
              have hrd : rd f = none := rd_all hns (fun q h1 h2 => hp0 q h1 (by omega))
              refine W_sr rfl (fun K hK => ?_)
              refine sv hF (v_build (cs := nmz.cells.toArray) rfl (by kernel_rfl)) rfl ?_; clear hF a; intro a hF
              refine s_storeN (D := FDx) (B := B) hF (by kernel_rfl) rfl rfl (rfl) (by rfl) hT hS.inv ?_; intro w' hm hI' hrc'
              replace hS := hS.mb hm (fun k h => by cases h; exact hT.low)
              replace hT := hrc'
              clear hm hI' hrc'
              refine sv hF (v_assign rfl) rfl ?_; clear hF a; intro a hF
              refine WL_nil (hK _ _ ?_)
              clear hK K
              replace hF := hF.sub _ (c_ 3 rfl (c_ 125 rfl (c_ 2 rfl (c_ 4 rfl (c_ 5 rfl (c_ 6 rfl (c_ 7 rfl (n_))))))))
              refine W_ret ?_
              refine ⟨_, _, _, _, hF, rfl, (ld_rec Tryd.underlying27 rfl (by kernel_rfl) hT), rfl, ?_⟩
              exact ⟨by rw [hrd]; rfl, hS⟩

theorem rRead_ok (B : Nat) (f : List UInt8) (w : World) (hI : Inv FDx B w) (hfl : f.length ≤ 1000) : Ret Tryd.prog 11 [.string (str f)] w fun v w' => v = .tuple #[.agg ((rd f).getD nmz).cells.toArray, .bool (rd f).isSome] ∧ St FDx B w w' := by
  by_cases h : 1 ≤ f.length
  · exact rRead_cons B f w hI hfl h
  · exact rRead_nil B f w hI hfl (List.eq_nil_of_length_eq_zero (by omega))

end Go.Proofs.YtkoiolamnnmokaaDoor
