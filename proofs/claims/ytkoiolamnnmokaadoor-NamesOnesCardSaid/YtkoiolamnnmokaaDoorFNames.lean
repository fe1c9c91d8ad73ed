/- The walks of package names: a shard's name. -/
import Derived.Test.YtkoiolamnnmokaaDoorFProf1
import Derived.Test.YtkoiolamnnmokaaDoorGNam
import Derived.Test.YtkoiolamnnmokaaDoorSh
set_option linter.unusedVariables false
set_option linter.unusedSimpArgs false
namespace Go.Proofs.YtkoiolamnnmokaaDoor
open Go Go.Gam


namespace FxFNames
theorem en23 : Ent Tryd.prog 23 := ent Tryd.func23 (by kernel_rfl) (by kernel_rfl)
theorem en30 : Ent Tryd.prog 30 := ent Tryd.func30 (by kernel_rfl) (by kernel_rfl)
theorem en32 : Ent Tryd.prog 32 := ent Tryd.func32 (by kernel_rfl) (by kernel_rfl)
theorem en33 : Ent Tryd.prog 33 := ent Tryd.func33 (by kernel_rfl) (by kernel_rfl)
theorem en36 : Ent Tryd.prog 36 := ent Tryd.func36 (by kernel_rfl) (by kernel_rfl)
theorem fa35_0 : FieldFact Tryd.prog 35 0 0 := ff_of (sz := 0) Tryd.underlying35 (by kernel_rfl)
theorem fa35_1 : FieldFact Tryd.prog 35 1 1 := ff_of (sz := 0) Tryd.underlying35 (by kernel_rfl)
theorem fa35_2 : FieldFact Tryd.prog 35 2 2 := ff_of (sz := 0) Tryd.underlying35 (by kernel_rfl)
theorem fa71_0 : FieldFact Tryd.prog 71 0 0 := ff_of (sz := 0) Tryd.underlying71 (by kernel_rfl)
theorem fa71_3 : FieldFact Tryd.prog 71 3 3 := ff_of (sz := 0) Tryd.underlying71 (by kernel_rfl)
theorem hmix : Tryd.prog.follows .mixedOrders = true := by kernel_rfl
theorem sc3 : Scalar Tryd.prog 3 := ⟨_, Tryd.underlying3, by simp, by simp⟩
theorem sc5 : Scalar Tryd.prog 5 := ⟨_, Tryd.underlying5, by simp, by simp⟩
theorem sc9 : Scalar Tryd.prog 9 := ⟨_, Tryd.underlying9, by simp, by simp⟩
theorem sl74 : Sl Tryd.prog 74 5 (.int .u8 0) 1 := sl_of Tryd.underlying74 rfl (by kernel_rfl)
theorem sl78 : Sl Tryd.prog 78 3 (.int .i64 0) 8 := sl_of Tryd.underlying78 rfl (by kernel_rfl)
end FxFNames
open FxFNames

theorem mem_drop {p : UInt8 → Bool} {x : UInt8} : ∀ {l : List UInt8}, x ∈ l → p x = false → x ∈ l.dropWhile p
  | [], h, _ => by cases h
  | b :: l, h, hp => by
    by_cases e : p b = true
    · rw [List.dropWhile_cons, if_pos e]
      rcases List.mem_cons.1 h with rfl | h
      · rw [hp] at e; cases e
      · exact mem_drop h hp
    · rw [List.dropWhile_cons, if_neg e]; exact h
theorem drop_nil {p : UInt8 → Bool} : ∀ {l : List UInt8}, (∀ x ∈ l, p x = true) → l.dropWhile p = []
  | [], _ => rfl
  | b :: l, h => by rw [List.dropWhile_cons, if_pos (h b (by simp))]; exact drop_nil fun x hx => h x (List.mem_cons_of_mem _ hx)
theorem trim_nil (a : List UInt8) : decide (Lib.trimS a abc = []) = a.all letter := by
  have hp : (fun b => abc.contains b) = letter := funext abc_letter
  rw [Bool.eq_iff_iff, decide_eq_true_iff, List.all_eq_true]
  constructor
  · intro h x hx
    cases e : letter x with
    | true => rfl
    | false =>
      have h1 : x ∈ (a.reverse.dropWhile fun b => abc.contains b).reverse := List.mem_reverse.2 (mem_drop (List.mem_reverse.2 hx) (by rw [abc_letter]; exact e))
      have h2 : x ∈ Lib.trimS a abc := mem_drop h1 (by rw [abc_letter]; exact e)
      rw [h] at h2; cases h2
  · intro h
    have h1 : Lib.trimRightS a abc = [] := by
      unfold Lib.trimRightS
      rw [drop_nil fun x hx => by rw [abc_letter]; exact h x (List.mem_reverse.1 hx)]
      rfl
    unfold Lib.trimS
    rw [h1]; rfl
theorem St.drewN {w : World} {B : Nat} (hI : Inv FDx B w) : ∀ q, St FDx B w (w.drewN q)
  | 0 => St.refl hI
  | q + 1 => by
    have h := St.drewN hI q
    have := h.trans (St.drew h.inv)
    exact this
theorem Trim_ok (B : Nat) (a : List UInt8) (w : World) (hI : Inv FDx B w) (h : 1 ≤ a.length ∧ a.length ≤ 8) : Ret Tryd.prog 36 [.string (str a), .string (str abc)] w fun v w' => ∃ t, v = .string (str t) ∧ decide (t = []) = a.all letter ∧ St FDx B w w' := by
  have hz := zero_of_info (P := Tryd.prog) (t := Tryd.lays160_ren.t 116) (v := .agg (Array.replicate 256 (.bool false))) (n := 256) (by kernel_rfl)
  have hT := Any.strings_Trim_set Tryd.lays160 hz.1 hz.2 (str a) (str abc) w (by decide) (by rw [str_size]; omega) (by rw [str_size]; omega) (by decide) (ascii_of_all (by decide))
  refine Calls.mono hT ?_
  rintro e w' ⟨rfl, q, rfl⟩
  refine ⟨_, rfl, _, rfl, trim_nil a, ?_⟩
  have h1 : St FDx B w _ := (St.refl hI).mb0 (Mb.alloc FDx B w (Lib.setCells (str abc).data.toList) (Tryd.lays160_ren.t 116) (0, 0) (by decide))
  have h2 := h1.mb0 (Mb.alloc FDx B _ (Lib.setCells (str abc).data.toList) (Tryd.lays160_ren.t 116) (0, 0) (by decide))
  exact h2.trans (St.drewN h2.inv q)

set_option maxRecDepth 100000 in
set_option maxHeartbeats 1000000 in
theorem May_ok (B : Nat) (nm : List UInt8) (w : World) (hI : Inv FDx B w) : Ret Tryd.prog 23 [.string (str nm)] w fun v w' => v = .bool (mayS nm) ∧ St FDx B w w' := by
  refine enter 16 [(0, .string (str nm))] 2 Tryd.func23 rfl rfl rfl rfl rfl ?_; intro a hF
  have hS := St.refl hI
  refine W_sr rfl (fun K hK => ?_)
  refine sv hF (v_assign rfl) rfl ?_; clear hF a; intro a hF
  refine WL_nil (hK _ _ ?_)
  clear hK K
  refine W_sr rfl (fun K hK => ?_)
  refine sv hF (v_move rfl) rfl ?_; clear hF a; intro a hF
  refine sv hF (v_lenT rfl Tryd.underlying9 rfl) rfl ?_; clear hF a; intro a hF
  refine sb hF (v_geq rfl rfl) rfl ?_ ?_
  · clear hF a; intro hc1 a hF
    try simp only [decide_eq_true_eq, decide_eq_false_iff_not, Bool.not_eq_true', Bool.not_eq_false', Bool.not_true, Bool.not_false] at hc1
    refine sv hF (v_move rfl) rfl ?_; clear hF a; intro a hF
    refine svg hF rfl ?_
    refine sv hF (v_move rfl) rfl ?_; clear hF a; intro a hF
    refine svg hF rfl ?_
    refine sv hF (v_lenT rfl Tryd.underlying9 rfl) rfl ?_; clear hF a; intro a hF
    refine svg hF rfl ?_
    refine sb hF (v_leq rfl rfl) rfl ?_ ?_
    · clear hF a; intro hc2 a hF
      try simp only [decide_eq_true_eq, decide_eq_false_iff_not, Bool.not_eq_true', Bool.not_eq_false', Bool.not_true, Bool.not_false] at hc2
      refine sv hF (v_pickT rfl rfl) rfl ?_; clear hF a; intro a hF
      refine sv hF (v_move rfl) rfl ?_; clear hF a; intro a hF
      refine svg hF rfl ?_
      refine sv hF (v_move rfl) rfl ?_; clear hF a; intro a hF
      refine svg hF rfl ?_
      refine sc hF rfl rfl rfl en36 rfl (Trim_ok B nm _ hS.inv (by omega)) ?_; clear hF a; intro v w' a hv hF
      obtain ⟨t_, rfl, ht, hS'⟩ := hv
      replace hS := hS.trans hS'
      clear hS'
      refine svg hF rfl ?_
      refine sv hF (v_eqlT (b := []) rfl rfl) rfl ?_; clear hF a; intro a hF
      refine sv hF (v_pickT rfl rfl) rfl ?_; clear hF a; intro a hF
      refine sv hF (v_assign rfl) rfl ?_; clear hF a; intro a hF
      refine WL_nil (hK _ _ ?_)
      clear hK K
      replace hF := hF.sub _ (c_ 2 rfl (n_))
      refine W_ret ?_
      refine ⟨_, _, hF, rfl, ?_⟩
      exact ⟨by first | (rw [mayS_no (by omega)]; done) | (unfold mayS; rw [decide_eq_true (show 1 ≤ nm.length ∧ nm.length ≤ 8 by omega), ← ht]; rfl), hS⟩
    · clear hF a; intro hc2 a hF
      try simp only [decide_eq_true_eq, decide_eq_false_iff_not, Bool.not_eq_true', Bool.not_eq_false', Bool.not_true, Bool.not_false] at hc2
      refine sv hF (v_pickT rfl rfl) rfl ?_; clear hF a; intro a hF
      refine sv hF (v_move rfl) rfl ?_; clear hF a; intro a hF
      refine svn hF rfl rfl rfl ?_; clear hF a; intro a hF
      refine svn hF rfl rfl rfl ?_; clear hF a; intro a hF
      refine svn hF rfl rfl rfl ?_; clear hF a; intro a hF
      refine sv hF (v_pickF rfl rfl) rfl ?_; clear hF a; intro a hF
      refine sv hF (v_assign rfl) rfl ?_; clear hF a; intro a hF
      refine WL_nil (hK _ _ ?_)
      clear hK K
      replace hF := hF.sub _ (c_ 2 rfl (n_))
      refine W_ret ?_
      refine ⟨_, _, hF, rfl, ?_⟩
      exact ⟨by first | (rw [mayS_no (by omega)]; done) | (unfold mayS; rw [decide_eq_true (show 1 ≤ nm.length ∧ nm.length ≤ 8 by omega), ← ht]; rfl), hS⟩
  · clear hF a; intro hc1 a hF
    try simp only [decide_eq_true_eq, decide_eq_false_iff_not, Bool.not_eq_true', Bool.not_eq_false', Bool.not_true, Bool.not_false] at hc1
    refine sv hF (v_move rfl) rfl ?_; clear hF a; intro a hF
    refine svn hF rfl rfl rfl ?_; clear hF a; intro a hF
    refine svn hF rfl rfl rfl ?_; clear hF a; intro a hF
    refine svn hF rfl rfl rfl ?_; clear hF a; intro a hF
    refine sv hF (v_pickF rfl rfl) rfl ?_; clear hF a; intro a hF
    refine sv hF (v_move rfl) rfl ?_; clear hF a; intro a hF
    refine svn hF rfl rfl rfl ?_; clear hF a; intro a hF
    refine svn hF rfl rfl rfl ?_; clear hF a; intro a hF
    refine svn hF rfl rfl rfl ?_; clear hF a; intro a hF
    refine sv hF (v_pickF rfl rfl) rfl ?_; clear hF a; intro a hF
    refine sv hF (v_assign rfl) rfl ?_; clear hF a; intro a hF
    refine WL_nil (hK _ _ ?_)
    clear hK K
    replace hF := hF.sub _ (c_ 2 rfl (n_))
    refine W_ret ?_
    refine ⟨_, _, hF, rfl, ?_⟩
    exact ⟨by first | (rw [mayS_no (by omega)]; done) | (unfold mayS; rw [decide_eq_true (show 1 ≤ nm.length ∧ nm.length ≤ 8 by omega), ← ht]; rfl), hS⟩

set_option maxRecDepth 100000 in
set_option maxHeartbeats 1000000 in
theorem figures_ok (B M : Nat) (pl : Option Addr) (cl : Nat) (ns : List Nat) (w : World) (hI : Inv FDx B w) (hM : M ≤ w.heap.size) (hx : Row FDx B M w (.slice pl ns.length cl) (zints (casts ns))) (h : ∀ n ∈ ns, n < 200) (hl : ns.length ≤ 1000) : Ret Tryd.prog 33 [.slice pl ns.length cl] w fun v w' => v = .string (str (fig ns)) ∧ St FDx B w w' := by
  refine enter 21 [(0, .slice pl ns.length cl)] 2 Tryd.func33 rfl rfl rfl rfl rfl ?_; intro a hF
  have hS := St.refl hI
  refine W_sr rfl (fun K hK => ?_)
  refine sv hF (v_assign rfl) rfl ?_; clear hF a; intro a hF
  refine WL_nil (hK _ _ ?_)
  clear hK K
  refine W_sr rfl (fun K hK => ?_)
  refine sv hF (v_assign rfl) rfl ?_; clear hF a; intro a hF
  refine WL_nil (hK _ _ ?_)
  clear hK K
  refine W_seq ?_
  refine W_sr rfl (fun K hK => ?_)
  refine sv hF (v_move rfl) rfl ?_; clear hF a; intro a hF
  refine sv hF (v_lenS rfl sl78 rfl) rfl ?_; clear hF a; intro a hF
  refine sv hF (v_move rfl) rfl ?_; clear hF a; intro a hF
  refine WL_nil (hK _ _ ?_)
  clear hK K
  replace hF := hF.sub _ (c_ 8 rfl (c_ 7 rfl (c_ 6 rfl (c_ 3 rfl (c_ 2 rfl (n_))))))
  refine W_block ?_
  refine W_loop (fun q a w1 => ∃ (i : Nat) (v3 : Value) (b3 : Option Nat), Fr 21 [(3, v3), (6, .slice pl ns.length cl), (7, .int .i64 (ns.length : Int)), (8, .int .i64 (i : Int))] a ∧ (St FDx B w w1) ∧ (Row FDx B M w1 (.slice pl ns.length cl) (zints (casts ns))) ∧ (Gam.Own FDx B w.heap.size w1 5 v3 b3 (byt ((fig (ns.take i)).map UInt8.toNat))) ∧ (i ≤ ns.length) ∧ (q + i = ns.length)) (ns.length) ?_ ?_
  · skip
    exact ⟨0, _, none, hF.sub _ (c_ 3 rfl (c_ 6 rfl (c_ 7 rfl (c_ 8 rfl (n_))))), hS, hx, Gam.Own.nil _ _ _ _ _, by omega, by omega⟩
  · skip
    clear hF
    clear hS hx
    rintro q a w1 ⟨i, v3, b3, hF, hS, hx, hO, hi, hq⟩
    refine W_sr rfl (fun K hK => ?_)
    refine sv hF (v_lss rfl rfl) rfl ?_; clear hF a; intro a hF
    refine WL_nil (hK _ _ ?_)
    clear hK K
    refine W_seq ?_
    refine W_if hF rfl (fun hc1 => ?_) (fun hc1 => ?_)
    · skip
      try simp only [decide_eq_true_eq, decide_eq_false_iff_not, Bool.not_eq_true', Bool.not_eq_false', Bool.not_true, Bool.not_false] at hc1
      have hlt : i < ns.length := by omega
      obtain ⟨z, hz⟩ : ∃ z, ns[i]? = some z := ⟨_, List.getElem?_eq_getElem hlt⟩
      have hz2 := h z (List.mem_of_getElem? hz)
      obtain ⟨gp, op, rfl, hkz, -⟩ := hx.kat (zints_at (show (casts ns)[i]? = some (z : Int) by unfold casts; rw [List.getElem?_map, hz]; rfl))
      refine W_skip ?_
      refine W_seq ?_
      refine W_block ?_
      refine W_sr rfl (fun K hK => ?_)
      refine sv hF (v_ixS sl78 rfl rfl (by omega) (by omega)) rfl ?_; clear hF a; intro a hF
      refine sv hF (v_load sc3 rfl (by rw [toNat_c]; exact hkz.c)) rfl ?_; clear hF a; intro a hF
      refine sv hF (v_assign rfl) rfl ?_; clear hF a; intro a hF
      refine WL_nil (hK _ _ ?_)
      clear hK K
      replace hF := hF.sub _ (c_ 5 rfl (c_ 3 rfl (c_ 6 rfl (c_ 7 rfl (c_ 8 rfl (n_))))))
      refine W_reg rfl (fun K hK => ?_)
      refine sv hF (v_move rfl) rfl ?_; clear hF a; intro a hF
      refine sv hF (v_move rfl) rfl ?_; clear hF a; intro a hF
      refine sv hF ((v_addI rfl rfl (by omega)).as (show Value.int .i64 (48 + (z : Int)) = .int .i64 ((48 + z : Nat) : Int) by simp)) rfl ?_; clear hF a; intro a hF
      refine sv hF (v_cv Tryd.underlying3 Tryd.underlying5 rfl (wrap_u8 _ (by omega))) rfl ?_; clear hF a; intro a hF
      refine s_bs (D := FDx) (B := B) hF sl74 rfl rfl (by decide) (by simp [Value.cells]) (by decide) hS.inv rfl ?_; clear hF a; intro w' a hm hI' hL hF
      replace hx := hx.mb hm (fun _ h => by cases h)
      replace hO := hO.mb hm (fun _ _ => by simp)
      replace hS := hS.mb0 hm
      clear hm hI'
      refine s_app (D := FDx) (B := B) hF rfl sl74 rfl rfl hO (hL.row (by decide)) (by simp [Value.oneCell']) (by simp [byt, fig]; omega) (by simp [byt, fig, maxLen]; omega) (hS.ext.size) (by decide) hS.inv rfl ?_; clear hF a; intro v' b' w' a ho' hm hI' hb' hF
      replace hx := hx.mb hm (fun k h => Nat.le_trans (hM) (hO.lt k h).1)
      replace hS := hS.mb hm (fun k h => Nat.le_trans (Nat.le_refl _) (hO.lt k h).1)
      replace hO := ho'
      clear hm hI' ho'
      refine sv hF (v_assign rfl) rfl ?_; clear hF a; intro a hF
      refine WL_nil (hK _ _ ?_)
      clear hK K
      replace hF := hF.sub _ (c_ 3 rfl (c_ 6 rfl (c_ 7 rfl (c_ 8 rfl (n_)))))
      refine W_reg rfl (fun K hK => ?_)
      refine sv hF (v_addI rfl rfl (by omega)) rfl ?_; clear hF a; intro a hF
      refine sv hF (v_move rfl) rfl ?_; clear hF a; intro a hF
      refine WL_nil (hK _ _ ?_)
      clear hK K
      exact ⟨q - 1, by omega, i + 1, _, _, hF.sub _ (c_ 3 rfl (c_ 6 rfl (c_ 7 rfl (c_ 8 rfl (n_))))), hS, hx, hO.cast (by rw [take_snoc hz]; simp [fig, byt, fg]; omega), by omega, by omega⟩
    · skip
      try simp only [decide_eq_true_eq, decide_eq_false_iff_not, Bool.not_eq_true', Bool.not_eq_false', Bool.not_true, Bool.not_false] at hc1
      obtain rfl : i = ns.length := by omega
      rw [List.take_length] at hO
      obtain ⟨pv, cv, rfl⟩ := hO.shape
      refine W_exit rfl ?_
      refine W_sr rfl (fun K hK => ?_)
      refine sv hF (v_move rfl) rfl ?_; clear hF a; intro a hF
      refine sv hF (v_bstrT Tryd.underlying74 Tryd.underlying5 Tryd.underlying9 rfl (hO.row (by decide)) (by simp [byt, fig])) rfl ?_; clear hF a; intro a hF
      refine sv hF (v_assign rfl) rfl ?_; clear hF a; intro a hF
      refine WL_nil (hK _ _ ?_)
      clear hK K
      replace hF := hF.sub _ (c_ 2 rfl (c_ 20 rfl (c_ 19 rfl (c_ 3 rfl (c_ 6 rfl (c_ 7 rfl (c_ 8 rfl (n_))))))))
      refine W_ret ?_
      refine ⟨_, _, hF, rfl, ?_⟩
      exact ⟨rfl, hS⟩

set_option maxRecDepth 100000 in
set_option maxHeartbeats 1000000 in
theorem Temp_ok (B : Nat) (nm : List UInt8) (w : World) (hI : Inv FDx B w) (hnl : nm.length ≤ 1000) : Ret Tryd.prog 17 [.string (str nm)] w fun v w' => v = .string (str (nm ++ [126])) ∧ St FDx B w w' := by
  refine enter 5 [(0, .string (str nm))] 2 Tryd.func17 rfl rfl rfl rfl rfl ?_; intro a hF
  have hS := St.refl hI
  refine W_sr rfl (fun K hK => ?_)
  refine sv hF (v_assign rfl) rfl ?_; clear hF a; intro a hF
  refine WL_nil (hK _ _ ?_)
  clear hK K
  refine W_sr rfl (fun K hK => ?_)
  refine sv hF (v_move rfl) rfl ?_; clear hF a; intro a hF
  refine sv hF (v_catT (b := [126]) rfl rfl (by simp [maxLen]; omega)) rfl ?_; clear hF a; intro a hF
  refine sv hF (v_assign rfl) rfl ?_; clear hF a; intro a hF
  refine WL_nil (hK _ _ ?_)
  clear hK K
  replace hF := hF.sub _ (c_ 2 rfl (n_))
  refine W_ret ?_
  refine ⟨_, _, hF, rfl, ?_⟩
  exact ⟨rfl, hS⟩

set_option maxRecDepth 100000 in
set_option maxHeartbeats 1000000 in
theorem Sidecar_ok (B : Nat) (nm : List UInt8) (w : World) (hI : Inv FDx B w) : Ret Tryd.prog 18 [.string (str nm)] w fun v w' => v = .tuple #[.string (str (sideR nm).1), .int .i64 (sideR nm).2] ∧ St FDx B w w' := by
  refine enter2 10 [(0, .string (str nm))] 2 3 Tryd.func18 rfl rfl rfl rfl rfl ?_; intro a hF
  have hS := St.refl hI
  refine W_sr rfl (fun K hK => ?_)
  refine sv hF (v_assign rfl) rfl ?_; clear hF a; intro a hF
  refine sv hF (v_assign rfl) rfl ?_; clear hF a; intro a hF
  refine WL_nil (hK _ _ ?_)
  clear hK K
  refine W_seq ?_
  refine W_sr rfl (fun K hK => ?_)
  refine sv hF (v_move rfl) rfl ?_; clear hF a; intro a hF
  refine sc hF rfl rfl rfl en23 rfl (May_ok B nm _ hS.inv) ?_; clear hF a; intro v w' a hv hF
  obtain ⟨rfl, hS'⟩ := hv
  replace hS := hS.trans hS'
  clear hS'
  refine sv hF (v_not rfl) rfl ?_; clear hF a; intro a hF
  refine WL_nil (hK _ _ ?_)
  clear hK K
  replace hF := hF.sub _ (c_ 6 rfl (c_ 3 rfl (c_ 2 rfl (c_ 0 rfl (n_)))))
  refine W_if hF rfl (fun hc1 => ?_) (fun hc1 => ?_)
  · skip
    try simp only [decide_eq_true_eq, decide_eq_false_iff_not, Bool.not_eq_true', Bool.not_eq_false', Bool.not_true, Bool.not_false] at hc1
    refine W_sr rfl (fun K hK => ?_)
    refine sv hF (v_assign rfl) rfl ?_; clear hF a; intro a hF
    refine sv hF (v_assign rfl) rfl ?_; clear hF a; intro a hF
    refine WL_nil (hK _ _ ?_)
    clear hK K
    replace hF := hF.sub _ (c_ 3 rfl (c_ 2 rfl (c_ 0 rfl (n_))))
    refine W_ret ?_
    refine ⟨_, _, _, hF, rfl, rfl, ?_⟩
    exact ⟨by rw [show sideR nm = ([], 1) from if_neg (by simpa using hc1)]; rfl, hS⟩
  · skip
    try simp only [decide_eq_true_eq, decide_eq_false_iff_not, Bool.not_eq_true', Bool.not_eq_false', Bool.not_true, Bool.not_false] at hc1
    refine W_skip ?_
    have hm : mayS nm = true := by simpa using hc1
    have hml := mayS_len hm
    refine W_sr rfl (fun K hK => ?_)
    refine sv hF (v_move rfl) rfl ?_; clear hF a; intro a hF
    refine sv hF (v_catT (b := [46]) rfl rfl (by simp [maxLen]; omega)) rfl ?_; clear hF a; intro a hF
    refine sv hF (v_catT (b := [115, 105, 100, 101]) rfl rfl (by simp [maxLen]; omega)) rfl ?_; clear hF a; intro a hF
    refine sv hF (v_assign rfl) rfl ?_; clear hF a; intro a hF
    refine sv hF (v_assign rfl) rfl ?_; clear hF a; intro a hF
    refine WL_nil (hK _ _ ?_)
    clear hK K
    replace hF := hF.sub _ (c_ 3 rfl (c_ 2 rfl (n_)))
    refine W_ret ?_
    refine ⟨_, _, _, hF, rfl, rfl, ?_⟩
    exact ⟨by rw [show sideR nm = (nm ++ 46 :: [115, 105, 100, 101], 0) from if_pos hm]; first | done | simp, hS⟩

set_option maxRecDepth 100000 in
set_option maxHeartbeats 1000000 in
theorem Shard_ok (B : Nat) (nm : List UInt8) (p k m i : Int) (w : World) (hI : Inv FDx B w) : Ret Tryd.prog 14 [.string (str nm), .agg #[.int .i64 p, .int .i64 k, .int .i64 m], .int .i64 i] w fun v w' => v = .tuple #[.string (str (shardR nm p k m i).1), .int .i64 (shardR nm p k m i).2] ∧ St FDx B w w' := by
  refine enter2 72 [(0, .string (str nm)), (1, .agg #[.int .i64 p, .int .i64 k, .int .i64 m]), (2, .int .i64 i)] 6 7 Tryd.func14 rfl rfl rfl rfl rfl ?_; intro a hF
  have hS := St.refl hI
  refine W_sr rfl (fun K hK => ?_)
  refine s_box (D := FDx) (B := B) hF rfl (by decide) hS.inv rfl ?_; clear hF a; intro w' a hm hbx hsz hF
  replace hS := hS.mb0 hm
  clear hm
  refine sv hF (v_assign rfl) rfl ?_; clear hF a; intro a hF
  refine sv hF (v_assign rfl) rfl ?_; clear hF a; intro a hF
  refine WL_nil (hK _ _ ?_)
  clear hK K
  replace hF := hF.sub _ (c_ 7 rfl (c_ 6 rfl (c_ 4 rfl (c_ 0 rfl (c_ 2 rfl (n_))))))
  refine W_seq ?_
  refine W_sr rfl (fun K hK => ?_)
  refine sv hF (v_move rfl) rfl ?_; clear hF a; intro a hF
  refine sc hF rfl rfl rfl en23 rfl (May_ok B nm _ hS.inv) ?_; clear hF a; intro v w' a hv hF
  obtain ⟨rfl, hS'⟩ := hv
  replace hbx := hbx.st (by decide) hS'
  replace hS := hS.trans hS'
  clear hS'
  refine sb hF (v_not rfl) rfl ?_ ?_
  · clear hF a; intro hc1 a hF
    try simp only [decide_eq_true_eq, decide_eq_false_iff_not, Bool.not_eq_true', Bool.not_eq_false', Bool.not_true, Bool.not_false] at hc1
    refine sv hF (v_move rfl) rfl ?_; clear hF a; intro a hF
    refine svn hF rfl rfl rfl ?_; clear hF a; intro a hF
    refine svn hF rfl rfl rfl ?_; clear hF a; intro a hF
    refine svn hF rfl rfl rfl ?_; clear hF a; intro a hF
    refine sv hF (v_pickT rfl rfl) rfl ?_; clear hF a; intro a hF
    refine sv hF (v_move rfl) rfl ?_; clear hF a; intro a hF
    refine svn hF rfl rfl rfl ?_; clear hF a; intro a hF
    refine svn hF rfl rfl rfl ?_; clear hF a; intro a hF
    refine sv hF (v_pickT rfl rfl) rfl ?_; clear hF a; intro a hF
    refine sv hF (v_move rfl) rfl ?_; clear hF a; intro a hF
    refine svn hF rfl rfl rfl ?_; clear hF a; intro a hF
    refine svn hF rfl rfl rfl ?_; clear hF a; intro a hF
    refine svn hF rfl rfl rfl ?_; clear hF a; intro a hF
    refine svn hF rfl rfl rfl ?_; clear hF a; intro a hF
    refine svn hF rfl rfl rfl ?_; clear hF a; intro a hF
    refine svn hF rfl rfl rfl ?_; clear hF a; intro a hF
    refine svn hF rfl rfl rfl ?_; clear hF a; intro a hF
    refine sv hF (v_pickT rfl rfl) rfl ?_; clear hF a; intro a hF
    refine WL_nil (hK _ _ ?_)
    clear hK K
    replace hF := hF.sub _ (c_ 30 rfl (c_ 7 rfl (c_ 6 rfl (c_ 4 rfl (c_ 0 rfl (c_ 2 rfl (n_)))))))
    refine W_ifT hF rfl ?_
    refine W_sr rfl (fun K hK => ?_)
    refine sv hF (v_assign rfl) rfl ?_; clear hF a; intro a hF
    refine sv hF (v_assign rfl) rfl ?_; clear hF a; intro a hF
    refine WL_nil (hK _ _ ?_)
    clear hK K
    replace hF := hF.sub _ (c_ 7 rfl (c_ 6 rfl (c_ 4 rfl (c_ 0 rfl (c_ 2 rfl (n_))))))
    refine W_ret ?_
    refine ⟨_, _, _, hF, rfl, rfl, ?_⟩
    exact ⟨by rw [shardR_no (fun h => by obtain ⟨h1, h2, h3, h4⟩ := h; first | omega | simp_all)]; rfl, hS⟩
  · clear hF a; intro hc1 a hF
    try simp only [decide_eq_true_eq, decide_eq_false_iff_not, Bool.not_eq_true', Bool.not_eq_false', Bool.not_true, Bool.not_false] at hc1
    refine sv hF (v_move rfl) rfl ?_; clear hF a; intro a hF
    refine svg hF rfl ?_
    refine sv hF (v_loadN Tryd.underlying35 rfl (by kernel_rfl) rfl hbx) rfl ?_; clear hF a; intro a hF
    refine svg hF rfl ?_
    refine sc hF rfl rfl rfl en30 rfl (PMay_ok B p k m _ hS.inv) ?_; clear hF a; intro v w' a hv hF
    obtain ⟨rfl, hS'⟩ := hv
    replace hbx := hbx.st (by decide) hS'
    replace hS := hS.trans hS'
    clear hS'
    refine svg hF rfl ?_
    refine sb hF (v_not rfl) rfl ?_ ?_
    · clear hF a; intro hc2 a hF
      try simp only [decide_eq_true_eq, decide_eq_false_iff_not, Bool.not_eq_true', Bool.not_eq_false', Bool.not_true, Bool.not_false] at hc2
      refine sv hF (v_pickF rfl rfl) rfl ?_; clear hF a; intro a hF
      refine sv hF (v_move rfl) rfl ?_; clear hF a; intro a hF
      refine svn hF rfl rfl rfl ?_; clear hF a; intro a hF
      refine svn hF rfl rfl rfl ?_; clear hF a; intro a hF
      refine sv hF (v_pickT rfl rfl) rfl ?_; clear hF a; intro a hF
      refine sv hF (v_move rfl) rfl ?_; clear hF a; intro a hF
      refine svn hF rfl rfl rfl ?_; clear hF a; intro a hF
      refine svn hF rfl rfl rfl ?_; clear hF a; intro a hF
      refine svn hF rfl rfl rfl ?_; clear hF a; intro a hF
      refine svn hF rfl rfl rfl ?_; clear hF a; intro a hF
      refine svn hF rfl rfl rfl ?_; clear hF a; intro a hF
      refine svn hF rfl rfl rfl ?_; clear hF a; intro a hF
      refine svn hF rfl rfl rfl ?_; clear hF a; intro a hF
      refine sv hF (v_pickT rfl rfl) rfl ?_; clear hF a; intro a hF
      refine WL_nil (hK _ _ ?_)
      clear hK K
      replace hF := hF.sub _ (c_ 30 rfl (c_ 7 rfl (c_ 6 rfl (c_ 4 rfl (c_ 0 rfl (c_ 2 rfl (n_)))))))
      refine W_ifT hF rfl ?_
      refine W_sr rfl (fun K hK => ?_)
      refine sv hF (v_assign rfl) rfl ?_; clear hF a; intro a hF
      refine sv hF (v_assign rfl) rfl ?_; clear hF a; intro a hF
      refine WL_nil (hK _ _ ?_)
      clear hK K
      replace hF := hF.sub _ (c_ 7 rfl (c_ 6 rfl (c_ 4 rfl (c_ 0 rfl (c_ 2 rfl (n_))))))
      refine W_ret ?_
      refine ⟨_, _, _, hF, rfl, rfl, ?_⟩
      exact ⟨by rw [shardR_no (fun h => by obtain ⟨h1, h2, h3, h4⟩ := h; first | omega | simp_all)]; rfl, hS⟩
    · clear hF a; intro hc2 a hF
      try simp only [decide_eq_true_eq, decide_eq_false_iff_not, Bool.not_eq_true', Bool.not_eq_false', Bool.not_true, Bool.not_false] at hc2
      refine sv hF (v_pickF rfl rfl) rfl ?_; clear hF a; intro a hF
      refine sv hF (v_move rfl) rfl ?_; clear hF a; intro a hF
      refine svg hF rfl ?_
      refine sv hF (v_move rfl) rfl ?_; clear hF a; intro a hF
      refine svg hF rfl ?_
      refine sb hF (v_lss rfl rfl) rfl ?_ ?_
      · clear hF a; intro hc3 a hF
        try simp only [decide_eq_true_eq, decide_eq_false_iff_not, Bool.not_eq_true', Bool.not_eq_false', Bool.not_true, Bool.not_false] at hc3
        refine sv hF (v_pickF rfl rfl) rfl ?_; clear hF a; intro a hF
        refine sv hF (v_move rfl) rfl ?_; clear hF a; intro a hF
        refine svn hF rfl rfl rfl ?_; clear hF a; intro a hF
        refine svn hF rfl rfl rfl ?_; clear hF a; intro a hF
        refine svn hF rfl rfl rfl ?_; clear hF a; intro a hF
        refine svn hF rfl rfl rfl ?_; clear hF a; intro a hF
        refine svn hF rfl rfl rfl ?_; clear hF a; intro a hF
        refine svn hF rfl rfl rfl ?_; clear hF a; intro a hF
        refine svn hF rfl rfl rfl ?_; clear hF a; intro a hF
        refine sv hF (v_pickT rfl rfl) rfl ?_; clear hF a; intro a hF
        refine WL_nil (hK _ _ ?_)
        clear hK K
        replace hF := hF.sub _ (c_ 30 rfl (c_ 7 rfl (c_ 6 rfl (c_ 4 rfl (c_ 0 rfl (c_ 2 rfl (n_)))))))
        refine W_ifT hF rfl ?_
        refine W_sr rfl (fun K hK => ?_)
        refine sv hF (v_assign rfl) rfl ?_; clear hF a; intro a hF
        refine sv hF (v_assign rfl) rfl ?_; clear hF a; intro a hF
        refine WL_nil (hK _ _ ?_)
        clear hK K
        replace hF := hF.sub _ (c_ 7 rfl (c_ 6 rfl (c_ 4 rfl (c_ 0 rfl (c_ 2 rfl (n_))))))
        refine W_ret ?_
        refine ⟨_, _, _, hF, rfl, rfl, ?_⟩
        exact ⟨by rw [shardR_no (fun h => by obtain ⟨h1, h2, h3, h4⟩ := h; first | omega | simp_all)]; rfl, hS⟩
      · clear hF a; intro hc3 a hF
        try simp only [decide_eq_true_eq, decide_eq_false_iff_not, Bool.not_eq_true', Bool.not_eq_false', Bool.not_true, Bool.not_false] at hc3
        refine sv hF (v_pickF rfl rfl) rfl ?_; clear hF a; intro a hF
        refine sv hF (v_move rfl) rfl ?_; clear hF a; intro a hF
        refine svg hF rfl ?_
        refine sv hF (v_move rfl) rfl ?_; clear hF a; intro a hF
        refine svg hF rfl ?_
        refine sv hF (v_fieldAddr fa35_1 rfl) rfl ?_; clear hF a; intro a hF
        refine svg hF rfl ?_
        refine sv hF (v_load sc3 rfl (hbx.at 1 rfl)) rfl ?_; clear hF a; intro a hF
        refine svg hF rfl ?_
        refine sv hF (v_fieldAddr fa35_2 rfl) rfl ?_; clear hF a; intro a hF
        refine svg hF rfl ?_
        refine sv hF (v_load sc3 rfl (hbx.at 2 rfl)) rfl ?_; clear hF a; intro a hF
        refine svg hF rfl ?_
        have hmay : mayP p k m = true := by assumption
        have hmay2 := mayP_of hmay
        obtain ⟨hp1, hp2, kn, mn, rfl, rfl, hk1, hk2, hm1, hm2, -⟩ := hmay2
        refine sv hF (v_addI rfl rfl (by omega)) rfl ?_; clear hF a; intro a hF
        refine svg hF rfl ?_
        refine sv hF (v_geq rfl rfl) rfl ?_; clear hF a; intro a hF
        refine sv hF (v_pickF rfl rfl) rfl ?_; clear hF a; intro a hF
        refine WL_nil (hK _ _ ?_)
        clear hK K
        replace hF := hF.sub _ (c_ 30 rfl (c_ 7 rfl (c_ 6 rfl (c_ 4 rfl (c_ 0 rfl (c_ 2 rfl (n_)))))))
        refine W_if hF rfl (fun hc4 => ?_) (fun hc4 => ?_)
        · skip
          try simp only [decide_eq_true_eq, decide_eq_false_iff_not, Bool.not_eq_true', Bool.not_eq_false', Bool.not_true, Bool.not_false] at hc4
          refine W_sr rfl (fun K hK => ?_)
          refine sv hF (v_assign rfl) rfl ?_; clear hF a; intro a hF
          refine sv hF (v_assign rfl) rfl ?_; clear hF a; intro a hF
          refine WL_nil (hK _ _ ?_)
          clear hK K
          replace hF := hF.sub _ (c_ 7 rfl (c_ 6 rfl (c_ 4 rfl (c_ 0 rfl (c_ 2 rfl (n_))))))
          refine W_ret ?_
          refine ⟨_, _, _, hF, rfl, rfl, ?_⟩
          exact ⟨by rw [shardR_no (fun h => by obtain ⟨h1, h2, h3, h4⟩ := h; first | omega | simp_all)]; rfl, hS⟩
        · skip
          try simp only [decide_eq_true_eq, decide_eq_false_iff_not, Bool.not_eq_true', Bool.not_eq_false', Bool.not_true, Bool.not_false] at hc4
          refine W_skip ?_
          have hms : mayS nm = true := by assumption
          have hml := mayS_len hms
          obtain ⟨ni, rfl⟩ : ∃ n : Nat, i = (n : Int) := ⟨i.toNat, by omega⟩
          refine W_sr rfl (fun K hK => ?_)
          refine sv hF (v_fieldAddr fa35_0 rfl) rfl ?_; clear hF a; intro a hF
          refine sv hF (v_load sc3 rfl (hbx.at 0 rfl)) rfl ?_; clear hF a; intro a hF
          refine sc hF rfl rfl rfl en32 rfl (POf_ok B p _ hS.inv) ?_; clear hF a; intro v w' a hv hF
          obtain ⟨rfl, hS'⟩ := hv
          replace hbx := hbx.st (by decide) hS'
          replace hS := hS.trans hS'
          clear hS'
          refine sv hF (v_move rfl) rfl ?_; clear hF a; intro a hF
          refine sv hF (v_ext rfl rfl) rfl ?_; clear hF a; intro a hF
          refine sv hF (v_ext rfl rfl) rfl ?_; clear hF a; intro a hF
          have hs0 := hS.ext.size
          refine s_allocN (D := FDx) (B := B) (z := .agg prz.toArray) hF (by kernel_rfl) (by decide) hS.inv rfl ?_; clear hF a; intro gR w' a hm hI' hR hF
          replace hbx := hbx.mb hm (by simp)
          replace hS := hS.mb0 hm
          clear hm hI'
          replace hR := hR.le hs0
          clear hs0
          refine s_storeN (D := FDx) (B := B) hF (by rw [List.size_toArray, prOf_len]; kernel_rfl) rfl rfl (prOf_one p) (by rw [List.size_toArray, prOf_len]; rfl) hR hS.inv ?_; intro w' hm hI' hrc'
          replace hbx := hbx.mb hm (by intro e; cases e; exact absurd hR.blk (by intro e2; have := hbx.symm.trans e2; cases this))
          replace hS := hS.mb hm (fun k h => by cases h; exact hR.low)
          replace hR := hrc'
          clear hm hI' hrc'
          refine sv hF (v_assign rfl) rfl ?_; clear hF a; intro a hF
          refine WL_nil (hK _ _ ?_)
          clear hK K
          replace hF := hF.sub _ (c_ 8 rfl (c_ 7 rfl (c_ 6 rfl (c_ 4 rfl (c_ 0 rfl (c_ 2 rfl (n_)))))))
          refine W_seq ?_
          refine W_sr rfl (fun K hK => ?_)
          refine sv hF (v_move rfl) rfl ?_; clear hF a; intro a hF
          refine sv hF (v_fieldAddr fa35_1 rfl) rfl ?_; clear hF a; intro a hF
          refine sv hF (v_load sc3 rfl (hbx.at 1 rfl)) rfl ?_; clear hF a; intro a hF
          refine sv hF (v_lss rfl rfl) rfl ?_; clear hF a; intro a hF
          refine WL_nil (hK _ _ ?_)
          clear hK K
          replace hF := hF.sub _ (c_ 40 rfl (c_ 8 rfl (c_ 7 rfl (c_ 6 rfl (c_ 4 rfl (c_ 0 rfl (c_ 2 rfl (n_))))))))
          refine W_if hF rfl (fun hc5 => ?_) (fun hc5 => ?_)
          · skip
            try simp only [decide_eq_true_eq, decide_eq_false_iff_not, Bool.not_eq_true', Bool.not_eq_false', Bool.not_true, Bool.not_false] at hc5
            refine W_sd (m := 16) rfl hmix hS.inv (fun K hK w1 hS' hh => ?_)
            replace hbx := hbx.st (by decide) hS'
            replace hR := hR.st hS'
            replace hS := hS.trans hS'
            clear hS'
            clear hh
            refine a_v (i := 0) rfl (by kernel_rfl) hF (fun w2 hx => v_move rfl) rfl ?_; clear hF a; intro a hF
            refine a_v (i := 1) rfl (by kernel_rfl) hF (fun w2 hx => v_catT (b := [46]) rfl rfl (by simp [maxLen]; omega)) rfl ?_; clear hF a; intro a hF
            refine a_v (i := 2) rfl (by kernel_rfl) hF (fun w2 hx => v_catT (b := [100]) rfl rfl (by simp [maxLen]; omega)) rfl ?_; clear hF a; intro a hF
            refine a_v (i := 3) rfl (by kernel_rfl) hF (fun w2 hx => v_fieldAddr fa71_3 rfl) rfl ?_; clear hF a; intro a hF
            refine a_v (i := 4) rfl (by kernel_rfl) hF (fun w2 hx => v_load sc5 rfl (KC.ld (hR.kc 3 (prOf_lay ⟨hp1, hp2⟩)) hx)) rfl ?_; clear hF a; intro a hF
            refine a_v (i := 8) rfl (by kernel_rfl) hF (fun w2 hx => v_fieldAddr fa35_1 rfl) rfl ?_; clear hF a; intro a hF
            refine a_v (i := 9) rfl (by kernel_rfl) hF (fun w2 hx => v_load sc3 rfl (hbx.ld (by decide) hx 1 rfl)) rfl ?_; clear hF a; intro a hF
            refine a_v (i := 10) rfl (by kernel_rfl) hF (fun w2 hx => v_move rfl) rfl ?_; clear hF a; intro a hF
            refine a_e2 (i := 5) (i' := 11) rfl rfl (by kernel_rfl) ?_ ?_
            · skip
              refine s_bs (D := FDx) (B := B) hF sl74 rfl rfl (by decide) (by simp [Value.cells]) (by decide) hS.inv rfl ?_; clear hF a; intro w' a hm hI' hL hF
              have hS' := (St.refl hS.inv).mb0 hm
              refine WL_nil ⟨hS'.ext, ?_⟩
              clear hS'
              replace hbx := hbx.mb hm (by simp)
              replace hR := hR.mb hm (by simp)
              replace hS := hS.mb0 hm
              clear hm hI'
              refine a_v (i := 6) rfl (by kernel_rfl) hF (fun w2 hx => v_bstrT (l := [layL p]) Tryd.underlying74 Tryd.underlying5 Tryd.underlying9 rfl ((hL.row (by decide)).ext hx) rfl) rfl ?_; clear hF a; intro a hF
              refine a_v (i := 7) rfl (by kernel_rfl) hF (fun w2 hx => v_catT rfl rfl (by simp [maxLen]; omega)) rfl ?_; clear hF a; intro a hF
              refine a_e (i := 11) rfl (by kernel_rfl) ?_
              refine s_bs (D := FDx) (B := B) hF sl78 rfl rfl (by decide) (by simp [Value.cells]) (by decide) hS.inv rfl ?_; clear hF a; intro w' a hm hI' hN hF
              have hS' := (St.refl hS.inv).mb0 hm
              refine WL_nil ⟨hS'.ext, ?_⟩
              clear hS'
              replace hbx := hbx.mb hm (by simp)
              replace hR := hR.mb hm (by simp)
              replace hL := hL.mb hm (fun _ _ => by simp)
              replace hS := hS.mb0 hm
              clear hm hI'
              refine a_e (i := 12) rfl (by kernel_rfl) ?_
              refine sc hF rfl rfl rfl en33 rfl (figures_ok B _ _ _ [kn, ni] _ hS.inv (Nat.le_refl _) ((hN.cast (ys := zints (casts [kn, ni])) rfl).row (by decide)) (by simp; omega) (by simp)) ?_; clear hF a; intro v w' a hv hF
              obtain ⟨rfl, hS'⟩ := hv
              refine WL_nil ⟨hS'.ext, ?_⟩
              replace hbx := hbx.st (by decide) hS'
              replace hR := hR.st hS'
              replace hL := hL.st (by decide) hS'
              replace hN := hN.st (by decide) hS'
              replace hS := hS.trans hS'
              clear hS'
              refine a_v (i := 13) rfl (by kernel_rfl) hF (fun w2 hx => v_catT rfl rfl (by simp [maxLen, fig]; omega)) rfl ?_; clear hF a; intro a hF
              refine a_v (i := 14) rfl (by kernel_rfl) hF (fun w2 hx => v_assign rfl) rfl ?_; clear hF a; intro a hF
              refine a_v (i := 15) rfl (by kernel_rfl) hF (fun w2 hx => v_assign rfl) rfl ?_; clear hF a; intro a hF
              refine a_done (by kernel_rfl) (hK _ _ ?_)
              clear hK K
              replace hF := hF.sub _ (c_ 7 rfl (c_ 6 rfl (c_ 8 rfl (c_ 4 rfl (c_ 0 rfl (c_ 2 rfl (n_)))))))
              refine W_ret ?_
              refine ⟨_, _, _, hF, rfl, rfl, ?_⟩
              exact ⟨by rw [shardR_is hms hmay (by omega)]; unfold shardN; first | (rw [if_pos (by omega)]; simp [dataN, fig]; done) | (rw [if_neg (by omega)]; simp [parN, fig]), hS⟩
            · skip
              refine s_bs (D := FDx) (B := B) hF sl78 rfl rfl (by decide) (by simp [Value.cells]) (by decide) hS.inv rfl ?_; clear hF a; intro w' a hm hI' hN hF
              have hS' := (St.refl hS.inv).mb0 hm
              refine WL_nil ⟨hS'.ext, ?_⟩
              clear hS'
              replace hbx := hbx.mb hm (by simp)
              replace hR := hR.mb hm (by simp)
              replace hS := hS.mb0 hm
              clear hm hI'
              refine a_e2 (i := 5) (i' := 12) rfl rfl (by kernel_rfl) ?_ ?_
              · skip
                refine s_bs (D := FDx) (B := B) hF sl74 rfl rfl (by decide) (by simp [Value.cells]) (by decide) hS.inv rfl ?_; clear hF a; intro w' a hm hI' hL hF
                have hS' := (St.refl hS.inv).mb0 hm
                refine WL_nil ⟨hS'.ext, ?_⟩
                clear hS'
                replace hbx := hbx.mb hm (by simp)
                replace hR := hR.mb hm (by simp)
                replace hN := hN.mb hm (fun _ _ => by simp)
                replace hS := hS.mb0 hm
                clear hm hI'
                refine a_v (i := 6) rfl (by kernel_rfl) hF (fun w2 hx => v_bstrT (l := [layL p]) Tryd.underlying74 Tryd.underlying5 Tryd.underlying9 rfl ((hL.row (by decide)).ext hx) rfl) rfl ?_; clear hF a; intro a hF
                refine a_v (i := 7) rfl (by kernel_rfl) hF (fun w2 hx => v_catT rfl rfl (by simp [maxLen]; omega)) rfl ?_; clear hF a; intro a hF
                refine a_e (i := 12) rfl (by kernel_rfl) ?_
                refine sc hF rfl rfl rfl en33 rfl (figures_ok B _ _ _ [kn, ni] _ hS.inv (Nat.le_refl _) ((hN.cast (ys := zints (casts [kn, ni])) rfl).row (by decide)) (by simp; omega) (by simp)) ?_; clear hF a; intro v w' a hv hF
                obtain ⟨rfl, hS'⟩ := hv
                refine WL_nil ⟨hS'.ext, ?_⟩
                replace hbx := hbx.st (by decide) hS'
                replace hR := hR.st hS'
                replace hN := hN.st (by decide) hS'
                replace hL := hL.st (by decide) hS'
                replace hS := hS.trans hS'
                clear hS'
                refine a_v (i := 13) rfl (by kernel_rfl) hF (fun w2 hx => v_catT rfl rfl (by simp [maxLen, fig]; omega)) rfl ?_; clear hF a; intro a hF
                refine a_v (i := 14) rfl (by kernel_rfl) hF (fun w2 hx => v_assign rfl) rfl ?_; clear hF a; intro a hF
                refine a_v (i := 15) rfl (by kernel_rfl) hF (fun w2 hx => v_assign rfl) rfl ?_; clear hF a; intro a hF
                refine a_done (by kernel_rfl) (hK _ _ ?_)
                clear hK K
                replace hF := hF.sub _ (c_ 7 rfl (c_ 6 rfl (c_ 8 rfl (c_ 4 rfl (c_ 0 rfl (c_ 2 rfl (n_)))))))
                refine W_ret ?_
                refine ⟨_, _, _, hF, rfl, rfl, ?_⟩
                exact ⟨by rw [shardR_is hms hmay (by omega)]; unfold shardN; first | (rw [if_pos (by omega)]; simp [dataN, fig]; done) | (rw [if_neg (by omega)]; simp [parN, fig]), hS⟩
              · skip
                refine sc hF rfl rfl rfl en33 rfl (figures_ok B _ _ _ [kn, ni] _ hS.inv (Nat.le_refl _) ((hN.cast (ys := zints (casts [kn, ni])) rfl).row (by decide)) (by simp; omega) (by simp)) ?_; clear hF a; intro v w' a hv hF
                obtain ⟨rfl, hS'⟩ := hv
                refine WL_nil ⟨hS'.ext, ?_⟩
                replace hbx := hbx.st (by decide) hS'
                replace hR := hR.st hS'
                replace hN := hN.st (by decide) hS'
                replace hS := hS.trans hS'
                clear hS'
                refine a_e (i := 5) rfl (by kernel_rfl) ?_
                refine s_bs (D := FDx) (B := B) hF sl74 rfl rfl (by decide) (by simp [Value.cells]) (by decide) hS.inv rfl ?_; clear hF a; intro w' a hm hI' hL hF
                have hS' := (St.refl hS.inv).mb0 hm
                refine WL_nil ⟨hS'.ext, ?_⟩
                clear hS'
                replace hbx := hbx.mb hm (by simp)
                replace hR := hR.mb hm (by simp)
                replace hN := hN.mb hm (fun _ _ => by simp)
                replace hS := hS.mb0 hm
                clear hm hI'
                refine a_v (i := 6) rfl (by kernel_rfl) hF (fun w2 hx => v_bstrT (l := [layL p]) Tryd.underlying74 Tryd.underlying5 Tryd.underlying9 rfl ((hL.row (by decide)).ext hx) rfl) rfl ?_; clear hF a; intro a hF
                refine a_v (i := 7) rfl (by kernel_rfl) hF (fun w2 hx => v_catT rfl rfl (by simp [maxLen]; omega)) rfl ?_; clear hF a; intro a hF
                refine a_v (i := 13) rfl (by kernel_rfl) hF (fun w2 hx => v_catT rfl rfl (by simp [maxLen, fig]; omega)) rfl ?_; clear hF a; intro a hF
                refine a_v (i := 14) rfl (by kernel_rfl) hF (fun w2 hx => v_assign rfl) rfl ?_; clear hF a; intro a hF
                refine a_v (i := 15) rfl (by kernel_rfl) hF (fun w2 hx => v_assign rfl) rfl ?_; clear hF a; intro a hF
                refine a_done (by kernel_rfl) (hK _ _ ?_)
                clear hK K
                replace hF := hF.sub _ (c_ 7 rfl (c_ 6 rfl (c_ 8 rfl (c_ 4 rfl (c_ 0 rfl (c_ 2 rfl (n_)))))))
                refine W_ret ?_
                refine ⟨_, _, _, hF, rfl, rfl, ?_⟩
                exact ⟨by rw [shardR_is hms hmay (by omega)]; unfold shardN; first | (rw [if_pos (by omega)]; simp [dataN, fig]; done) | (rw [if_neg (by omega)]; simp [parN, fig]), hS⟩
          · skip
            try simp only [decide_eq_true_eq, decide_eq_false_iff_not, Bool.not_eq_true', Bool.not_eq_false', Bool.not_true, Bool.not_false] at hc5
            refine W_skip ?_
            refine W_sd (m := 19) rfl hmix hS.inv (fun K hK w1 hS' hh => ?_)
            replace hbx := hbx.st (by decide) hS'
            replace hR := hR.st hS'
            replace hS := hS.trans hS'
            clear hS'
            clear hh
            refine a_v (i := 0) rfl (by kernel_rfl) hF (fun w2 hx => v_move rfl) rfl ?_; clear hF a; intro a hF
            refine a_v (i := 1) rfl (by kernel_rfl) hF (fun w2 hx => v_catT (b := [46]) rfl rfl (by simp [maxLen]; omega)) rfl ?_; clear hF a; intro a hF
            refine a_v (i := 2) rfl (by kernel_rfl) hF (fun w2 hx => v_catT (b := [112]) rfl rfl (by simp [maxLen]; omega)) rfl ?_; clear hF a; intro a hF
            refine a_v (i := 3) rfl (by kernel_rfl) hF (fun w2 hx => v_fieldAddr fa71_0 rfl) rfl ?_; clear hF a; intro a hF
            refine a_v (i := 4) rfl (by kernel_rfl) hF (fun w2 hx => v_load sc9 rfl (KC.ld (hR.kc 0 (prOf_tagL ⟨hp1, hp2⟩)) hx)) rfl ?_; clear hF a; intro a hF
            refine a_v (i := 5) rfl (by kernel_rfl) hF (fun w2 hx => v_catT rfl rfl (by simp [maxLen, tagL_len]; omega)) rfl ?_; clear hF a; intro a hF
            refine a_v (i := 6) rfl (by kernel_rfl) hF (fun w2 hx => v_fieldAddr fa35_1 rfl) rfl ?_; clear hF a; intro a hF
            refine a_v (i := 7) rfl (by kernel_rfl) hF (fun w2 hx => v_load sc3 rfl (hbx.ld (by decide) hx 1 rfl)) rfl ?_; clear hF a; intro a hF
            refine a_v (i := 8) rfl (by kernel_rfl) hF (fun w2 hx => v_fieldAddr fa35_2 rfl) rfl ?_; clear hF a; intro a hF
            refine a_v (i := 9) rfl (by kernel_rfl) hF (fun w2 hx => v_load sc3 rfl (hbx.ld (by decide) hx 2 rfl)) rfl ?_; clear hF a; intro a hF
            refine a_v (i := 10) rfl (by kernel_rfl) hF (fun w2 hx => v_move rfl) rfl ?_; clear hF a; intro a hF
            refine a_v (i := 11) rfl (by kernel_rfl) hF (fun w2 hx => v_fieldAddr fa35_1 rfl) rfl ?_; clear hF a; intro a hF
            refine a_v (i := 12) rfl (by kernel_rfl) hF (fun w2 hx => v_load sc3 rfl (hbx.ld (by decide) hx 1 rfl)) rfl ?_; clear hF a; intro a hF
            refine a_v (i := 13) rfl (by kernel_rfl) hF (fun w2 hx => (v_subI rfl rfl (by omega)).as (show Value.int .i64 ((ni : Int) - (kn : Int)) = .int .i64 ((ni - kn : Nat) : Int) by congr 1; omega)) rfl ?_; clear hF a; intro a hF
            refine a_e (i := 14) rfl (by kernel_rfl) ?_
            refine s_bs (D := FDx) (B := B) hF sl78 rfl rfl (by decide) (by simp [Value.cells]) (by decide) hS.inv rfl ?_; clear hF a; intro w' a hm hI' hN hF
            have hS' := (St.refl hS.inv).mb0 hm
            refine WL_nil ⟨hS'.ext, ?_⟩
            clear hS'
            replace hbx := hbx.mb hm (by simp)
            replace hR := hR.mb hm (by simp)
            replace hS := hS.mb0 hm
            clear hm hI'
            refine a_e (i := 15) rfl (by kernel_rfl) ?_
            refine sc hF rfl rfl rfl en33 rfl (figures_ok B _ _ _ [kn, mn, ni - kn] _ hS.inv (Nat.le_refl _) ((hN.cast (ys := zints (casts [kn, mn, ni - kn])) rfl).row (by decide)) (by simp; omega) (by simp)) ?_; clear hF a; intro v w' a hv hF
            obtain ⟨rfl, hS'⟩ := hv
            refine WL_nil ⟨hS'.ext, ?_⟩
            replace hbx := hbx.st (by decide) hS'
            replace hR := hR.st hS'
            replace hN := hN.st (by decide) hS'
            replace hS := hS.trans hS'
            clear hS'
            refine a_v (i := 16) rfl (by kernel_rfl) hF (fun w2 hx => v_catT rfl rfl (by simp [maxLen, tagL_len, fig]; omega)) rfl ?_; clear hF a; intro a hF
            refine a_v (i := 17) rfl (by kernel_rfl) hF (fun w2 hx => v_assign rfl) rfl ?_; clear hF a; intro a hF
            refine a_v (i := 18) rfl (by kernel_rfl) hF (fun w2 hx => v_assign rfl) rfl ?_; clear hF a; intro a hF
            refine a_done (by kernel_rfl) (hK _ _ ?_)
            clear hK K
            replace hF := hF.sub _ (c_ 7 rfl (c_ 6 rfl (n_)))
            refine W_ret ?_
            refine ⟨_, _, _, hF, rfl, rfl, ?_⟩
            exact ⟨by rw [shardR_is hms hmay (by omega)]; unfold shardN; first | (rw [if_pos (by omega)]; simp [dataN, fig]; done) | (rw [if_neg (by omega)]; simp [parN, fig]), hS⟩

end Go.Proofs.YtkoiolamnnmokaaDoor
