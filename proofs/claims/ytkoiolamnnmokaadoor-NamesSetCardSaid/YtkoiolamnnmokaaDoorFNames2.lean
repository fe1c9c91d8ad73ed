/- The walks of package names: all names, what a name says. -/
import Derived.Test.YtkoiolamnnmokaaDoorFNames
set_option linter.unusedVariables false
set_option linter.unusedSimpArgs false
namespace Go.Proofs.YtkoiolamnnmokaaDoor
open Go Go.Gam


namespace FxFNames2
theorem en32 : Ent Tryd.prog 32 := ent Tryd.func32 (by kernel_rfl) (by kernel_rfl)
theorem en38 : Ent Tryd.prog 38 := ent Tryd.func38 (by kernel_rfl) (by kernel_rfl)
theorem en39 : Ent Tryd.prog 39 := ent Tryd.func39 (by kernel_rfl) (by kernel_rfl)
theorem en49 : Ent Tryd.prog 49 := ent Tryd.func49 (by kernel_rfl) (by kernel_rfl)
theorem fa71_3 : FieldFact Tryd.prog 71 3 3 := ff_of (sz := 0) Tryd.underlying71 (by kernel_rfl)
theorem hmix : Tryd.prog.follows .mixedOrders = true := by kernel_rfl
theorem sc3 : Scalar Tryd.prog 3 := ⟨_, Tryd.underlying3, by simp, by simp⟩
theorem sc5 : Scalar Tryd.prog 5 := ⟨_, Tryd.underlying5, by simp, by simp⟩
theorem sc9 : Scalar Tryd.prog 9 := ⟨_, Tryd.underlying9, by simp, by simp⟩
theorem sl78 : Sl Tryd.prog 78 3 (.int .i64 0) 8 := sl_of Tryd.underlying78 rfl (by kernel_rfl)
end FxFNames2
open FxFNames2

theorem cut_ix : ∀ l : List UInt8, (Lib.indexByte l 46 = -1 ∧ cutP l = none) ∨ ∃ i : Nat, Lib.indexByte l 46 = (i : Int) ∧ i < l.length ∧ cutP l = some (l.take i, l.drop (i + 1))
  | [] => .inl ⟨rfl, rfl⟩
  | b :: l => by
    unfold Lib.indexByte cutP
    by_cases e : b = 46
    · rw [if_pos e, if_pos (by rw [e]; rfl)]
      exact .inr ⟨0, rfl, by simp, rfl⟩
    · rw [if_neg e, if_neg (by simpa using e)]
      rcases cut_ix l with ⟨h1, h2⟩ | ⟨i, h1, h2, h3⟩
      · rw [h1, h2]; exact .inl ⟨rfl, rfl⟩
      · rw [h1, h3, if_neg (by first | (simp; done) | (simp; omega))]
        exact .inr ⟨i + 1, by omega, by simp; omega, rfl⟩
theorem suf_temp (f : List UInt8) : Lib.hasSuffix f [126] = tempOf f := by
  unfold Lib.hasSuffix tempOf
  rw [Bool.eq_iff_iff, List.isSuffixOf_iff_suffix, decide_eq_true_iff, List.getLast?_eq_some_iff]
  exact ⟨fun ⟨p, h⟩ => ⟨p, h.symm⟩, fun ⟨p, h⟩ => ⟨p, h.symm⟩⟩
theorem cutS_ok (f : List UInt8) (w : World) (hl : f.length ≤ maxLen) : Ret Tryd.prog 25 [.string (str f), .string (str [126])] w fun v w' => v = .tuple #[.string (str (bareOf f)), .bool (tempOf f)] ∧ w' = w := by
  refine Calls.mono (Tryd.strings_CutSuffix (str f) (str [126]) w (by rw [str_size]; exact hl)) ?_
  rintro e w' ⟨rfl, rfl⟩
  refine ⟨_, rfl, ?_, rfl⟩
  rw [str_data, str_data, suf_temp]
  have : Lib.trimSuffix f [126] = bareOf f := by
    unfold Lib.trimSuffix bareOf
    rw [suf_temp]
    by_cases h : tempOf f = true
    · rw [if_pos h, if_pos h]; exact List.dropLast_eq_take.symm
    · rw [if_neg h, if_neg h]
  rw [this]; rfl
theorem Index_ok (l : List UInt8) (w : World) : Ret Tryd.prog 49 [.string (str l), .string (str [46])] w fun v w' => v = .int .i64 (Lib.indexByte l 46) ∧ w' = w := by
  refine Calls.mono (Tryd.stringslite_Index_one (str l) 46 w) ?_
  rintro e w' ⟨rfl, rfl⟩
  exact ⟨_, rfl, rfl, rfl⟩
def cutV (l : List UInt8) : Value := match cutP l with
  | none => .tuple #[.string (str l), .string (str []), .bool false]
  | some (x, y) => .tuple #[.string (str x), .string (str y), .bool true]

set_option maxRecDepth 100000 in
set_option maxHeartbeats 1000000 in
theorem lCut_ok (B : Nat) (l : List UInt8) (w : World) (hI : Inv FDx B w) (hl : l.length ≤ 1000) : Ret Tryd.prog 38 [.string (str l), .string (str [46])] w fun v w' => v = cutV l ∧ St FDx B w w' := by
  refine enter3 23 [(0, .string (str l)), (1, .string (str [46]))] 4 5 6 Tryd.func38 rfl rfl rfl rfl rfl ?_; intro a hF
  have hS := St.refl hI
  refine W_sr rfl (fun K hK => ?_)
  refine sv hF (v_assign rfl) rfl ?_; clear hF a; intro a hF
  refine sv hF (v_assign rfl) rfl ?_; clear hF a; intro a hF
  refine sv hF (v_assign rfl) rfl ?_; clear hF a; intro a hF
  refine WL_nil (hK _ _ ?_)
  clear hK K
  refine W_seq ?_
  refine W_sr rfl (fun K hK => ?_)
  refine sv hF (v_move rfl) rfl ?_; clear hF a; intro a hF
  refine sv hF (v_move rfl) rfl ?_; clear hF a; intro a hF
  refine sc hF rfl rfl rfl en49 rfl (Index_ok l _) ?_; clear hF a; intro v w' a hv hF
  obtain ⟨rfl, hw⟩ := hv
  obtain rfl := hw.symm
  have hS' := St.refl hS.inv
  replace hS := hS.trans hS'
  clear hS'
  refine sv hF (v_assign rfl) rfl ?_; clear hF a; intro a hF
  refine WL_nil (hK _ _ ?_)
  clear hK K
  replace hF := hF.sub _ (c_ 7 rfl (c_ 6 rfl (c_ 5 rfl (c_ 4 rfl (c_ 0 rfl (c_ 1 rfl (n_)))))))
  have hci := cut_ix l
  refine W_sr rfl (fun K hK => ?_)
  refine sv hF (v_move rfl) rfl ?_; clear hF a; intro a hF
  refine sv hF (v_geq rfl rfl) rfl ?_; clear hF a; intro a hF
  refine WL_nil (hK _ _ ?_)
  clear hK K
  replace hF := hF.sub _ (c_ 12 rfl (c_ 7 rfl (c_ 6 rfl (c_ 5 rfl (c_ 4 rfl (c_ 0 rfl (c_ 1 rfl (n_))))))))
  refine W_if hF rfl (fun hc1 => ?_) (fun hc1 => ?_)
  · skip
    try simp only [decide_eq_true_eq, decide_eq_false_iff_not, Bool.not_eq_true', Bool.not_eq_false', Bool.not_true, Bool.not_false] at hc1
    obtain ⟨i, h1, h2, h3⟩ := hci.resolve_left (fun h => by have := h.1; omega)
    rw [h1] at hF
    refine W_sd (m := 12) rfl hmix hS.inv (fun K hK w1 hS' hh => ?_)
    replace hS := hS.trans hS'
    clear hS'
    clear hh
    refine a_v (i := 0) rfl (by kernel_rfl) hF (fun w2 hx => v_move rfl) rfl ?_; clear hF a; intro a hF
    refine a_v (i := 1) rfl (by kernel_rfl) hF (fun w2 hx => v_move rfl) rfl ?_; clear hF a; intro a hF
    refine a_v (i := 2) rfl (by kernel_rfl) hF (fun w2 hx => v_slHiT Tryd.underlying9 rfl rfl (by omega)) rfl ?_; clear hF a; intro a hF
    refine a_v (i := 3) rfl (by kernel_rfl) hF (fun w2 hx => v_move rfl) rfl ?_; clear hF a; intro a hF
    refine a_v (i := 4) rfl (by kernel_rfl) hF (fun w2 hx => v_move rfl) rfl ?_; clear hF a; intro a hF
    refine a_v (i := 5) rfl (by kernel_rfl) hF (fun w2 hx => v_move rfl) rfl ?_; clear hF a; intro a hF
    refine a_v (i := 6) rfl (by kernel_rfl) hF (fun w2 hx => v_lenT rfl Tryd.underlying9 rfl) rfl ?_; clear hF a; intro a hF
    refine a_v (i := 7) rfl (by kernel_rfl) hF (fun w2 hx => (v_addI rfl rfl (by simp; omega)).as (show Value.int .i64 ((i : Int) + (([46] : List UInt8).length : Int)) = .int .i64 ((i + 1 : Nat) : Int) by simp)) rfl ?_; clear hF a; intro a hF
    refine a_v (i := 8) rfl (by kernel_rfl) hF (fun w2 hx => v_slLoT Tryd.underlying9 rfl rfl (by omega)) rfl ?_; clear hF a; intro a hF
    refine a_v (i := 9) rfl (by kernel_rfl) hF (fun w2 hx => v_assign rfl) rfl ?_; clear hF a; intro a hF
    refine a_v (i := 10) rfl (by kernel_rfl) hF (fun w2 hx => v_assign rfl) rfl ?_; clear hF a; intro a hF
    refine a_v (i := 11) rfl (by kernel_rfl) hF (fun w2 hx => v_assign rfl) rfl ?_; clear hF a; intro a hF
    refine a_done (by kernel_rfl) (hK _ _ ?_)
    clear hK K
    replace hF := hF.sub _ (c_ 6 rfl (c_ 5 rfl (c_ 4 rfl (c_ 0 rfl (n_)))))
    refine W_ret ?_
    refine ⟨_, _, _, _, hF, rfl, rfl, rfl, ?_⟩
    exact ⟨by unfold cutV; simp only [h3]; first | done | rfl, hS⟩
  · skip
    try simp only [decide_eq_true_eq, decide_eq_false_iff_not, Bool.not_eq_true', Bool.not_eq_false', Bool.not_true, Bool.not_false] at hc1
    obtain ⟨-, h3⟩ := hci.resolve_right (fun ⟨i, h, _⟩ => by omega)
    refine W_skip ?_
    refine W_sr rfl (fun K hK => ?_)
    refine sv hF (v_move rfl) rfl ?_; clear hF a; intro a hF
    refine sv hF (v_assign rfl) rfl ?_; clear hF a; intro a hF
    refine sv hF (v_assign rfl) rfl ?_; clear hF a; intro a hF
    refine sv hF (v_assign rfl) rfl ?_; clear hF a; intro a hF
    refine WL_nil (hK _ _ ?_)
    clear hK K
    replace hF := hF.sub _ (c_ 6 rfl (c_ 5 rfl (c_ 4 rfl (n_))))
    refine W_ret ?_
    refine ⟨_, _, _, _, hF, rfl, rfl, rfl, ?_⟩
    exact ⟨by unfold cutV; simp only [h3]; first | done | rfl, hS⟩

set_option maxRecDepth 100000 in
set_option maxHeartbeats 1000000 in
theorem Cut_ok (B : Nat) (l x y : List UInt8) (q : Bool) (w : World) (hI : Inv FDx B w) (hl : l.length ≤ 1000) (hc : cutV l = .tuple #[.string (str x), .string (str y), .bool q]) : Ret Tryd.prog 26 [.string (str l), .string (str [46])] w fun v w' => v = .tuple #[.string (str x), .string (str y), .bool q] ∧ St FDx B w w' := by
  refine enter3 13 [(0, .string (str l)), (1, .string (str [46]))] 4 5 6 Tryd.func26 rfl rfl rfl rfl rfl ?_; intro a hF
  have hS := St.refl hI
  refine W_sr rfl (fun K hK => ?_)
  refine sv hF (v_assign rfl) rfl ?_; clear hF a; intro a hF
  refine sv hF (v_assign rfl) rfl ?_; clear hF a; intro a hF
  refine sv hF (v_assign rfl) rfl ?_; clear hF a; intro a hF
  refine WL_nil (hK _ _ ?_)
  clear hK K
  refine W_sr rfl (fun K hK => ?_)
  refine sv hF (v_move rfl) rfl ?_; clear hF a; intro a hF
  refine sv hF (v_move rfl) rfl ?_; clear hF a; intro a hF
  refine sc hF rfl rfl rfl en38 rfl (lCut_ok B l _ hS.inv hl) ?_; clear hF a; intro v w' a hv hF
  obtain ⟨rfl, hS'⟩ := hv
  replace hS := hS.trans hS'
  clear hS'
  rw [hc] at hF
  refine sv hF (v_ext rfl rfl) rfl ?_; clear hF a; intro a hF
  refine sv hF (v_ext rfl rfl) rfl ?_; clear hF a; intro a hF
  refine sv hF (v_ext rfl rfl) rfl ?_; clear hF a; intro a hF
  refine sv hF (v_assign rfl) rfl ?_; clear hF a; intro a hF
  refine sv hF (v_assign rfl) rfl ?_; clear hF a; intro a hF
  refine sv hF (v_assign rfl) rfl ?_; clear hF a; intro a hF
  refine WL_nil (hK _ _ ?_)
  clear hK K
  replace hF := hF.sub _ (c_ 6 rfl (c_ 5 rfl (c_ 4 rfl (n_))))
  refine W_ret ?_
  refine ⟨_, _, _, _, hF, rfl, rfl, rfl, ?_⟩
  exact ⟨rfl, hS⟩

set_option maxRecDepth 100000 in
set_option maxHeartbeats 1000000 in
theorem Read1_ok (g i : Nat) (s : List UInt8) (b : UInt8) (w : World) (hc : w.cell? ⟨g, 0, none⟩ = some (.string (str s))) (hb : s[i]? = some b) : Ret Tryd.prog 27 [.int .i64 (i : Int), .pointer (some ⟨g, 0, none⟩)] w fun v w' => v = .int .i64 (dg b) ∧ w' = w := by
  refine enter 9 [(0, .int .i64 (i : Int)), (1, .pointer (some ⟨g, 0, none⟩))] 3 Tryd.func27 rfl rfl rfl rfl rfl ?_; intro a hF
  have hb8 := b.toNat_lt
  refine W_sr rfl (fun K hK => ?_)
  refine sv hF (v_assign rfl) rfl ?_; clear hF a; intro a hF
  refine WL_nil (hK _ _ ?_)
  clear hK K
  refine W_sr rfl (fun K hK => ?_)
  refine sv hF (v_load sc9 rfl hc) rfl ?_; clear hF a; intro a hF
  refine sv hF (v_move rfl) rfl ?_; clear hF a; intro a hF
  refine sv hF (v_ixT Tryd.underlying9 rfl rfl (by omega) (by rw [Int.toNat_natCast]; exact hb)) rfl ?_; clear hF a; intro a hF
  refine sv hF (v_cv Tryd.underlying5 Tryd.underlying3 rfl (wrap_i64 _ (by omega))) rfl ?_; clear hF a; intro a hF
  refine sv hF (v_subI rfl rfl (by omega)) rfl ?_; clear hF a; intro a hF
  refine sv hF (v_assign rfl) rfl ?_; clear hF a; intro a hF
  refine WL_nil (hK _ _ ?_)
  clear hK K
  replace hF := hF.sub _ (c_ 3 rfl (n_))
  refine W_ret ?_
  refine ⟨_, _, hF, rfl, ?_⟩
  exact ⟨rfl, rfl⟩

set_option maxRecDepth 100000 in
set_option maxHeartbeats 1000000 in
theorem laid_ok (B : Nat) (y : UInt8) (w : World) (hI : Inv FDx B w) : Ret Tryd.prog 28 [.int .u8 (y.toNat : Int)] w fun v w' => v = .bool (laidS y) ∧ St FDx B w w' := by
  refine enter 23 [(0, .int .u8 (y.toNat : Int))] 2 Tryd.func28 rfl rfl rfl rfl rfl ?_; intro a hF
  have hS := St.refl hI
  refine W_sr rfl (fun K hK => ?_)
  refine sv hF (v_assign rfl) rfl ?_; clear hF a; intro a hF
  refine WL_nil (hK _ _ ?_)
  clear hK K
  refine W_seq ?_
  refine W_sr rfl (fun K hK => ?_)
  refine sc hF rfl rfl rfl en39 rfl (PAll_ok B _ hS.inv) ?_; clear hF a; intro v w' a hv hF
  obtain ⟨ob, hO, hS'⟩ := hv
  obtain ⟨pl, cl, rfl⟩ := hO.shape
  have hx := hO.row (by decide)
  rw [show (zints ((List.range 6).map fun i => ((i + 1 : Nat) : Int))).length = 6 from rfl] at hx hF
  clear hO
  replace hS := hS.trans hS'
  clear hS'
  refine sv hF (v_lenS rfl sl78 rfl) rfl ?_; clear hF a; intro a hF
  refine sv hF (v_move rfl) rfl ?_; clear hF a; intro a hF
  refine WL_nil (hK _ _ ?_)
  clear hK K
  obtain ⟨M, hMe⟩ : ∃ K, K = w'.heap.size := ⟨_, rfl⟩
  have hM : M ≤ w'.heap.size := by omega
  rw [← hMe] at hx
  clear hMe
  refine W_block ?_
  refine W_loop (fun q a w1 => ∃ (i : Nat), Fr 23 [(0, .int .u8 (y.toNat : Int)), (7, .slice pl 6 cl), (8, .int .i64 6), (9, .int .i64 (i : Int))] a ∧ (St FDx B w w1) ∧ (Row FDx B M w1 (.slice pl 6 cl) (zints ((List.range 6).map fun i => ((i + 1 : Nat) : Int)))) ∧ (M ≤ w1.heap.size) ∧ (∀ j, j < i → layL ((j + 1 : Nat) : Int) ≠ y) ∧ (i ≤ 6) ∧ (q + i = 6)) (6) ?_ ?_
  · skip
    exact ⟨0, hF.sub _ (c_ 0 rfl (c_ 7 rfl (c_ 8 rfl (c_ 9 rfl (n_))))), hS, hx, hM, fun j hj => by omega, by omega, by omega⟩
  · skip
    clear hF
    clear hS hx hM
    rintro q a w1 ⟨i, hF, hS, hx, hM, hn, hi, hq⟩
    refine W_sr rfl (fun K hK => ?_)
    refine sv hF (v_lss rfl rfl) rfl ?_; clear hF a; intro a hF
    refine WL_nil (hK _ _ ?_)
    clear hK K
    refine W_seq ?_
    refine W_if hF rfl (fun hc1 => ?_) (fun hc1 => ?_)
    · skip
      try simp only [decide_eq_true_eq, decide_eq_false_iff_not, Bool.not_eq_true', Bool.not_eq_false', Bool.not_true, Bool.not_false] at hc1
      have hlt : i < 6 := by omega
      obtain ⟨gp, op, hgp, hkz, -⟩ := hx.kat (zints_at (show ((List.range 6).map fun i => ((i + 1 : Nat) : Int))[i]? = some ((i + 1 : Nat) : Int) by simp [hlt]))
      subst hgp
      have hpp : 1 ≤ ((i + 1 : Nat) : Int) ∧ ((i + 1 : Nat) : Int) ≤ 6 := by omega
      refine W_skip ?_
      refine W_seq ?_
      refine W_block ?_
      refine W_sr rfl (fun K hK => ?_)
      refine sv hF (v_ixS sl78 rfl rfl (by omega) (by omega)) rfl ?_; clear hF a; intro a hF
      refine sv hF (v_load sc3 rfl (by rw [toNat_c]; exact hkz.c)) rfl ?_; clear hF a; intro a hF
      refine sv hF (v_assign rfl) rfl ?_; clear hF a; intro a hF
      refine WL_nil (hK _ _ ?_)
      clear hK K
      replace hF := hF.sub _ (c_ 4 rfl (c_ 0 rfl (c_ 7 rfl (c_ 8 rfl (c_ 9 rfl (n_))))))
      refine W_sr rfl (fun K hK => ?_)
      refine sv hF (v_move rfl) rfl ?_; clear hF a; intro a hF
      refine sc hF rfl rfl rfl en32 rfl (POf_ok B ((i + 1 : Nat) : Int) _ hS.inv) ?_; clear hF a; intro v w' a hv hF
      obtain ⟨rfl, hS'⟩ := hv
      replace hx := hx.st hS'
      replace hM := Nat.le_trans hM hS'.ext.size
      replace hS := hS.trans hS'
      clear hS'
      refine sv hF (v_move rfl) rfl ?_; clear hF a; intro a hF
      refine sv hF (v_ext rfl rfl) rfl ?_; clear hF a; intro a hF
      refine sv hF (v_ext rfl rfl) rfl ?_; clear hF a; intro a hF
      have hs0 := hS.ext.size
      have hM0 := hM
      refine s_allocN (D := FDx) (B := B) (z := .agg prz.toArray) hF (by kernel_rfl) (by decide) hS.inv rfl ?_; clear hF a; intro gR w' a hm hI' hR hF
      replace hx := hx.mb hm (fun _ h => by cases h)
      replace hM := Nat.le_trans hM hm.size
      replace hS := hS.mb0 hm
      clear hm hI'
      refine s_storeN (D := FDx) (B := B) hF (by rw [List.size_toArray, prOf_len]; kernel_rfl) rfl rfl (prOf_one _) (by rw [List.size_toArray, prOf_len]; rfl) hR hS.inv ?_; intro w' hm hI' hrc'
      replace hx := hx.mb hm (fun k h => by cases h; exact Nat.le_trans (hM0) hR.low)
      replace hM := Nat.le_trans hM hm.size
      replace hS := hS.mb hm (fun k h => by cases h; exact Nat.le_trans hs0 hR.low)
      replace hR := hrc'
      clear hm hI' hrc'
      refine sv hF (v_assign rfl) rfl ?_; clear hF a; intro a hF
      refine WL_nil (hK _ _ ?_)
      clear hK K
      replace hF := hF.sub _ (c_ 5 rfl (c_ 0 rfl (c_ 7 rfl (c_ 8 rfl (c_ 9 rfl (n_))))))
      refine W_sr rfl (fun K hK => ?_)
      refine sv hF (v_fieldAddr fa71_3 rfl) rfl ?_; clear hF a; intro a hF
      refine sv hF (v_load sc5 rfl ((hR.kc 3 (prOf_lay hpp)).c)) rfl ?_; clear hF a; intro a hF
      refine sv hF (v_move rfl) rfl ?_; clear hF a; intro a hF
      refine sv hF (v_eql rfl rfl) rfl ?_; clear hF a; intro a hF
      refine WL_nil (hK _ _ ?_)
      clear hK K
      replace hF := hF.sub _ (c_ 21 rfl (c_ 0 rfl (c_ 7 rfl (c_ 8 rfl (c_ 9 rfl (n_))))))
      refine W_if hF rfl (fun hc2 => ?_) (fun hc2 => ?_)
      · skip
        try simp only [decide_eq_true_eq, decide_eq_false_iff_not, Bool.not_eq_true', Bool.not_eq_false', Bool.not_true, Bool.not_false] at hc2
        have heq : layL ((i + 1 : Nat) : Int) = y := UInt8.toNat_inj.1 (Int.ofNat_inj.1 (show ((layL ((i + 1 : Nat) : Int)).toNat : Int) = (y.toNat : Int) by assumption))
        refine W_sr rfl (fun K hK => ?_)
        refine sv hF (v_assign rfl) rfl ?_; clear hF a; intro a hF
        refine WL_nil (hK _ _ ?_)
        clear hK K
        replace hF := hF.sub _ (c_ 2 rfl (c_ 0 rfl (c_ 7 rfl (c_ 8 rfl (c_ 9 rfl (n_))))))
        refine W_ret ?_
        refine ⟨_, _, hF, rfl, ?_⟩
        exact ⟨by unfold laidS; rw [decide_eq_true ⟨((i + 1 : Nat) : Int), by simp; omega, heq⟩], hS⟩
      · skip
        try simp only [decide_eq_true_eq, decide_eq_false_iff_not, Bool.not_eq_true', Bool.not_eq_false', Bool.not_true, Bool.not_false] at hc2
        have hne : layL ((i + 1 : Nat) : Int) ≠ y := fun e => (show ¬ ((layL ((i + 1 : Nat) : Int)).toNat : Int) = (y.toNat : Int) by assumption) (by rw [e])
        refine W_skip ?_
        refine W_reg rfl (fun K hK => ?_)
        refine sv hF (v_addI rfl rfl (by omega)) rfl ?_; clear hF a; intro a hF
        refine sv hF (v_move rfl) rfl ?_; clear hF a; intro a hF
        refine WL_nil (hK _ _ ?_)
        clear hK K
        replace hF := hF.sub _ (c_ 9 rfl (c_ 22 rfl (c_ 0 rfl (c_ 7 rfl (c_ 8 rfl (n_))))))
        exact ⟨q - 1, by omega, i + 1, hF.sub _ (c_ 0 rfl (c_ 7 rfl (c_ 8 rfl (c_ 9 rfl (n_))))), hS, hx, by omega, (fun j hj => by rcases Nat.lt_or_ge j i with h | h; exact hn j h; obtain rfl : j = i := (by omega); exact hne), by omega, by omega⟩
    · skip
      try simp only [decide_eq_true_eq, decide_eq_false_iff_not, Bool.not_eq_true', Bool.not_eq_false', Bool.not_true, Bool.not_false] at hc1
      refine W_exit rfl ?_
      refine W_sr rfl (fun K hK => ?_)
      refine sv hF (v_assign rfl) rfl ?_; clear hF a; intro a hF
      refine WL_nil (hK _ _ ?_)
      clear hK K
      replace hF := hF.sub _ (c_ 2 rfl (c_ 0 rfl (c_ 7 rfl (c_ 8 rfl (c_ 9 rfl (n_))))))
      refine W_ret ?_
      refine ⟨_, _, hF, rfl, ?_⟩
      have hno : ¬ ∃ p ∈ [(1 : Int), 2, 3, 4, 5, 6], layL p = y := fun ⟨p, hp, e⟩ => by
        have hp6 : 1 ≤ p ∧ p ≤ 6 := by simp at hp; omega
        refine hn (p - 1).toNat (by omega) ?_
        rw [show (((p - 1).toNat + 1 : Nat) : Int) = p by omega]; exact e
      exact ⟨by unfold laidS; rw [decide_eq_false hno], hS⟩

end Go.Proofs.YtkoiolamnnmokaaDoor
