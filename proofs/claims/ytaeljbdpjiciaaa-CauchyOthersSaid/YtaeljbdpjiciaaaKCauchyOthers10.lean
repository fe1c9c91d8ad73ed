/- Texts of the claim CauchyOthers (part 10), put together in the order of their imports. -/
import Derived.Test.YtaeljbdpjiciaaaKCauchyOthers9
/- Plain laws of layer 8: which rows are safe. No program in sight. -/
set_option linter.unusedVariables false
set_option linter.unusedSimpArgs false
set_option linter.unusedSectionVars false
namespace Go.Gam
open Px

theorem nd_inj {α : Type} {l : List α} (h : l.Nodup) {i j : Nat} (hi : i < l.length) (hj : j < l.length) (e : l[i] = l[j]) : i = j :=
  Classical.byContradiction fun hne => by
    rcases Nat.lt_or_gt_of_ne hne with h' | h'
    · exact List.pairwise_iff_getElem.1 h i j hi hj h' e
    · exact List.pairwise_iff_getElem.1 h j i hj hi h' e.symm
section
variable {wb p : Nat} (hp : Prm wb p)
theorem one_iv {f : Tb} (hb : hp.fld.Bd f) (h : f 0 0 ≠ 0) : ∃ g, hp.fld.iv 1 f = some g :=
  hp.fld.iv_ofR hb fun y hy h0 i hi => by
    obtain rfl : i = 0 := by omega
    have e := h0 0 (by omega)
    simp only [xsum, Nat.zero_xor] at e
    rcases hp.fld.nzd _ _ (hb 0 0) (hy 0) e with e | e
    · exact absurd e h
    · exact e
theorem okC_of {f : Tb} {s : Nat} {R C : List Nat} (hb : hp.fld.Bd f) (hs : s < 20) (h : ∃ g, hp.fld.iv (s + 1) (mnr f R C) = some g) : okC hp f s R C := inv0 hp (hp.fld.mnr_bd hb R C) (by omega) (by omega) h
/-- Rows of which any have an inverse are safe. -/
theorem safe_of {n m : Nat} {f : Tb} (hb : hp.fld.Bd f) (hn : n ≤ 20) (h : ∀ R C : List Nat, R.length = C.length → R.Pairwise (· < ·) → C.Pairwise (· < ·) → (∀ x ∈ R, x < n) → (∀ x ∈ C, x < m) → ∃ g, hp.fld.iv R.length (mnr f R C) = some g) : safeB hp n m f = true :=
  (safeB_iff hp).2 fun s hs R hR C hC => by
    have h1 := ch_mem.1 hR
    have h2 := ch_mem.1 hC
    have := h R C (h1.1.trans h2.1.symm) h1.2.1 h2.2.1 (fun x hx => (h1.2.2 x hx).2) (fun x hx => (h2.2.2 x hx).2)
    rw [h1.1] at this
    exact okC_of hp hb (by omega) this
theorem sorted_eq {C : List Nat} {k : Nat} (hC : C.Pairwise (· < ·)) (hk : ∀ x ∈ C, x < k) : (List.range k).filter (fun j => decide (j ∈ C)) = C := by
  refine List.Perm.eq_of_pairwise (le := (· < ·)) ?_ (List.Pairwise.filter _ List.pairwise_lt_range) hC ?_
  · intro a b _ _ h1 h2; omega
  · refine (List.perm_ext_iff_of_nodup (List.nodup_range.filter _) (hC.imp fun h => by omega)).2 fun x => ?_
    rw [List.mem_filter, List.mem_range, decide_eq_true_eq]
    exact ⟨fun h => h.2, fun hx => ⟨hk x hx, hx⟩⟩
/-- Rows behind the identity, any k of which have an inverse, are safe. -/
theorem safe_mds {n k : Nat} {f : Tb} (hb : hp.fld.Bd f) (hn : n ≤ 20) (h : ∀ l : List Nat, l.length = k → l.Nodup → (∀ x ∈ l, x < k + n) → ∃ g, hp.fld.iv k (fun i j => beh k f (l.getD i 0) j) = some g) : safeB hp n k f = true :=
  safe_of hp hb hn fun R C hRC hR hC hRn hCk => by
    obtain ⟨l, hl⟩ : ∃ l, l = (List.range k).filter (fun j => !decide (j ∈ C)) ++ R.map (k + ·) := ⟨_, rfl⟩
    have hCn : C.Nodup := hC.imp fun h => by omega
    have hRn2 : R.Nodup := hR.imp fun h => by omega
    have hlen : l.length = k := by
      have h1 := filter_two (fun j => decide (j ∈ C)) (List.range k)
      rw [sorted_eq hC hCk, List.length_range] at h1
      rw [hl, List.length_append, List.length_map]; omega
    have hnd : l.Nodup := by
      rw [hl]
      refine List.nodup_append.2 ⟨List.nodup_range.filter _, ?_, fun a ha b hb e => ?_⟩
      · rw [List.nodup_iff_pairwise_ne, List.pairwise_map]; exact hRn2.imp fun h e => h (by omega)
      · have h1 := List.mem_range.1 (List.mem_filter.1 ha).1
        obtain ⟨x, -, rfl⟩ := List.mem_map.1 hb
        omega
    have hlt : ∀ x ∈ l, x < k + n := fun x hx => by
      rw [hl] at hx
      rcases List.mem_append.1 hx with hx | hx
      · have := List.mem_range.1 (List.mem_filter.1 hx).1; omega
      · obtain ⟨y, hy, rfl⟩ := List.mem_map.1 hx
        have := hRn y hy; omega
    have hpar : parR k l = R := by
      unfold parR
      rw [hl, List.filter_append, List.filter_eq_nil_iff.2 (fun x hx => by have := List.mem_range.1 (List.mem_filter.1 hx).1; simp; omega), List.nil_append, List.filter_eq_self.2 (fun x hx => by obtain ⟨y, -, rfl⟩ := List.mem_map.1 hx; simp), List.map_map]
      refine (List.map_congr_left (g := id) fun x _ => ?_).trans (List.map_id R)
      simp
    have hmis : misJ k l = C := by
      unfold misJ
      refine Eq.trans (List.filter_congr fun j hj => ?_) (sorted_eq hC hCk)
      have hjk := List.mem_range.1 hj
      have hjR : j ∉ R.map (k + ·) := fun h => by obtain ⟨y, -, e⟩ := List.mem_map.1 h; omega
      rw [hl]
      by_cases e : j ∈ C
      · have : j ∉ (List.range k).filter (fun j => !decide (j ∈ C)) := fun h => by have := (List.mem_filter.1 h).2; simp [e] at this
        simp only [List.mem_append, this, hjR, or_self, decide_false, e, decide_true, Bool.not_false]
      · have : j ∈ (List.range k).filter (fun j => !decide (j ∈ C)) := List.mem_filter.2 ⟨hj, by simp [e]⟩
        simp only [List.mem_append, this, true_or, decide_true, e, decide_false, Bool.not_true]
    obtain ⟨g, hg⟩ := h l hlen hnd hlt
    have := hp.fld.mds_to (m := n) hb hlen hnd (by rw [hg]; rfl)
    rw [hpar, hmis] at this
    exact this
theorem par_safe {k m : Nat} (hk : 1 ≤ k) (hm : 1 ≤ m) (h20 : k + m ≤ 20) : safeB hp m k (parT hp k m) = true :=
  safe_mds hp (parT_bd hp k m) (by omega) fun l hl hn h => par_any hp hk hm h20 hl hn h
theorem sysT_top {k i j : Nat} (hk : k ≤ 20) (hi : i < k) (hj : j < k) : sysT hp k i j = I1 i j := (vinv_ok hp (show k ≤ 256 by omega)).2.r i j hi hj
theorem beh_sys {k i j : Nat} (hk : k ≤ 20) (hj : j < k) : beh k (fun i j => sysT hp k (k + i) j) i j = sysT hp k i j := by
  unfold beh
  by_cases h : i < k
  · rw [if_pos h, sysT_top hp hk h hj]
  · rw [if_neg h]; simp only []; rw [show k + (i - k) = i by omega]
theorem sys_bd2 (k : Nat) : hp.fld.Bd (fun i j => sysT hp k (k + i) j) := fun i j => sysT_bd hp k _ _
theorem sys_safe {k m : Nat} (hk : 1 ≤ k) (hm : 1 ≤ m) (h20 : k + m ≤ 20) : safeB hp m k (fun i j => sysT hp k (k + i) j) = true :=
  safe_mds hp (sys_bd2 hp k) (by omega) fun l hl hn h => by
    obtain ⟨g, hg⟩ := van_iv hp (k := k) (l := l) (by omega) hl hn (fun x hx => by have := h x hx; omega)
    have := hp.fld.iv_congr (n := k) (f := fun i j => sysT hp k (l.getD i 0) j) (g := fun i j => beh k (fun i j => sysT hp k (k + i) j) (l.getD i 0) j) (fun i j => sysT_bd hp k _ _) (fun i j => hp.fld.beh_bd (sys_bd2 hp k) _ _) (fun i j hi hj => (beh_sys hp (by omega) hj).symm)
    rw [hg] at this
    exact Option.isSome_iff_exists.1 this.symm
/-- Rows of inverses. -/
theorem ofT_bd (x y : List Int) : hp.fld.Bd (ofT hp x y) := fun i j => hp.fld.inv_lt _
theorem ofB_is {x y : List Int} (h : ofB wb x y = true) : (1 ≤ x.length ∧ x.length ≤ 20 ∧ 1 ≤ y.length ∧ y.length ≤ 20) ∧ (x ++ y).Nodup ∧ ∀ z ∈ x ++ y, 0 ≤ z ∧ z < ((2 ^ wb : Nat) : Int) := by
  unfold ofB unl at h
  rw [Bool.and_eq_true, decide_eq_true_eq, decide_eq_true_eq] at h
  exact ⟨h.1, h.2⟩
theorem getD_int {x : List Int} {i : Nat} (h : i < x.length) : x.getD i 0 = x[i] := by rw [List.getD_eq_getElem?_getD, List.getElem?_eq_getElem h]; rfl
theorem of_safe {x y : List Int} (h : ofB wb x y = true) : safeB hp x.length y.length (ofT hp x y) = true := by
  obtain ⟨hl, hn, hb⟩ := ofB_is h
  obtain ⟨hx, hy, hxy⟩ := List.nodup_append.1 hn
  refine safe_of hp (ofT_bd hp x y) (by omega) fun R C hRC hR hC hRn hCn => ?_
  have bx : ∀ i, i < x.length → 0 ≤ x.getD i 0 ∧ x.getD i 0 < ((2 ^ wb : Nat) : Int) ∧ x.getD i 0 ∈ x := fun i hi => by
    rw [getD_int hi]; exact ⟨(hb _ (List.mem_append_left _ (List.getElem_mem hi))).1, (hb _ (List.mem_append_left _ (List.getElem_mem hi))).2, List.getElem_mem hi⟩
  have byy : ∀ i, i < y.length → 0 ≤ y.getD i 0 ∧ y.getD i 0 < ((2 ^ wb : Nat) : Int) ∧ y.getD i 0 ∈ y := fun i hi => by
    rw [getD_int hi]; exact ⟨(hb _ (List.mem_append_right _ (List.getElem_mem hi))).1, (hb _ (List.mem_append_right _ (List.getElem_mem hi))).2, List.getElem_mem hi⟩
  have inj : ∀ (z : List Int), z.Nodup → ∀ i j, i < z.length → j < z.length → z.getD i 0 = z.getD j 0 → i = j := fun z hz i j hi hj e => by
    rw [getD_int hi, getD_int hj] at e
    exact nd_inj hz hi hj e
  have rg : ∀ (L : List Nat) (n i : Nat), (∀ x ∈ L, x < n) → i < L.length → L.getD i 0 < n := fun L n i h hi => h _ (Fld.getD_mem hi)
  have li : ∀ (L : List Nat), L.Pairwise (· < ·) → ∀ i j, i < L.length → j < L.length → L.getD i 0 = L.getD j 0 → i = j := fun L hL i j hi hj e => by
    rw [getD_of hi, getD_of hj] at e
    exact nd_inj (hL.imp fun h => by omega) hi hj e
  have hz : 0 < 2 ^ wb := Nat.two_pow_pos wb
  let X : Nat → Nat := fun i => if i < R.length then (x.getD (R.getD i 0) 0).toNat else 0
  let Y : Nat → Nat := fun j => if j < R.length then (y.getD (C.getD j 0) 0).toNat else 0
  have eX : ∀ i, i < R.length → X i = (x.getD (R.getD i 0) 0).toNat := fun i hi => if_pos hi
  have eY : ∀ j, j < R.length → Y j = (y.getD (C.getD j 0) 0).toNat := fun j hj => if_pos hj
  have lw : 2 ^ hp.fld.w = 2 ^ wb := by rw [hp.fld_w]
  obtain ⟨g, hg⟩ := hp.fld.cau_iv (s := R.length) (x := X) (y := Y)
    (fun i => by
      rw [lw]
      by_cases hi : i < R.length
      · rw [eX i hi]; have := bx _ (rg R _ i hRn hi); omega
      · rw [show X i = 0 from if_neg hi]; exact hz)
    (fun j => by
      rw [lw]
      by_cases hj : j < R.length
      · rw [eY j hj]; have := byy _ (rg C _ j hCn (by omega)); omega
      · rw [show Y j = 0 from if_neg hj]; exact hz)
    (fun i j hi hj e => by
      rw [eX i hi, eX j hj] at e
      have h1 := bx _ (rg R _ i hRn hi); have h2 := bx _ (rg R _ j hRn hj)
      exact li R hR i j hi hj (inj x hx _ _ (rg R _ i hRn hi) (rg R _ j hRn hj) (by omega)))
    (fun i j hi hj e => by
      rw [eY i hi, eY j hj] at e
      have h1 := byy _ (rg C _ i hCn (by omega)); have h2 := byy _ (rg C _ j hCn (by omega))
      exact li C hC i j (by omega) (by omega) (inj y hy _ _ (rg C _ i hCn (by omega)) (rg C _ j hCn (by omega)) (by omega)))
    (fun i j hi hj e => by
      rw [eX i hi, eY j hj] at e
      have h1 := bx _ (rg R _ i hRn hi); have h2 := byy _ (rg C _ j hCn (by omega))
      exact hxy _ h1.2.2 _ h2.2.2 (by omega))
  have hcg := hp.fld.iv_congr (n := R.length) (f := fun i j => hp.fld.inv (X i ^^^ Y j)) (g := mnr (ofT hp x y) R C) (fun i j => hp.fld.inv_lt _) (hp.fld.mnr_bd (ofT_bd hp x y) R C) (fun i j hi hj => by
    show hp.fld.inv (X i ^^^ Y j) = hp.fld.inv _
    rw [eX i hi, eY j hj])
  rw [hg] at hcg
  exact Option.isSome_iff_exists.1 hcg.symm
end
/-! ### the smallest ones -/
theorem inv_1 : prm_285.fld.inv 1 = 1 := prm_285.fld.one_pow _
theorem inv_2 : prm_285.fld.inv 2 = 142 := by
  have lt : ∀ x, x < 256 → x < 2 ^ prm_285.fld.w := fun x h => by rw [prm_285.fld_w]; exact h
  refine prm_285.fld.cancel (c := 2) (prm_285.fld.inv_lt _) (lt _ (by decide)) (lt _ (by decide)) (by decide) ?_
  rw [prm_285.fld.inv_mul (lt _ (by decide)) (by decide)]
  show 1 = Px.mulMod 142 2 285
  decide +kernel
theorem aw8_isal : cisaM prm_285 1 1 = some [[1]] := by
  have h := cisaM_is prm_285 (k := 1) (m := 1) (by decide) (by decide) (by decide)
  refine h.trans ?_
  show some [[((prm_285.fld.inv 1 : Nat) : Int)]] = _
  rw [inv_1]; rfl
theorem aw8_of : ofM prm_285 [0] [1, 2] = some [[1, 142]] := by
  rw [ofM_is prm_285 (by decide)]
  show some [[((prm_285.fld.inv 1 : Nat) : Int), ((prm_285.fld.inv 2 : Nat) : Int)]] = _
  rw [inv_1, inv_2]; rfl
theorem aw8_may {a b c d : Int} (h : ∀ x ∈ [a, b, c, d], inF (some (8, 285)) x = true) : mayM (some (8, 285)) [[a, b], [c, d]] = true := (Bool.and_eq_true_iff.1 (by have := aw5_sq h; unfold sqM at this; exact this)).1
theorem aw8_no : safeM prm_285 [[1, 1], [1, 1]] = (false, 0) := by
  rw [safeM_is prm_285 (aw8_may (by decide)) (by decide) (by decide)]
  congr 1
  refine safeB_no prm_285 (s := 1) (R := [0, 1]) (C := [0, 1]) (by decide) (by decide) (by decide) fun h => ?_
  unfold okC at h
  have e : tab 2 2 (mnr (en [[1, 1], [1, 1]]) [0, 1] [0, 1]) = [[1, 1], [1, 1]] := by decide
  rw [e, aw5_no] at h
  exact absurd h (by decide)
theorem aw8_yes : safeM prm_285 [[1, 1], [1, 2]] = (true, 0) := by
  have hmay := aw8_may (a := 1) (b := 1) (c := 1) (d := 2) (by decide)
  have hx := (mayM_Mx hmay).1
  rw [safeM_is prm_285 hmay (by decide) (by decide)]
  congr 1
  refine (safeB_iff prm_285).2 fun s hs R hR C hC => ?_
  have hs2 : s = 0 ∨ s = 1 := by
    have : min ([[1, 1], [1, 2]] : Mtx).length (wid [[1, 1], [1, 2]]) = 2 := by decide
    omega
  have hbd := hx.bd prm_285
  rcases hs2 with rfl | rfl
  · have e : ch 2 1 0 = [[0], [1]] := by decide
    have hR2 : R ∈ ch 2 1 0 := hR
    have hC2 : C ∈ ch 2 1 0 := hC
    rw [e] at hR2 hC2
    simp only [List.mem_cons, List.mem_nil_iff, or_false] at hR2 hC2
    rcases hR2 with rfl | rfl <;> rcases hC2 with rfl | rfl <;> unfold okC
    · have e : tab 1 1 (mnr (en [[1, 1], [1, 2]]) [0] [0]) = tab 1 1 (fun _ _ => 1) := by decide
      rw [Nat.zero_add, e]; exact inv0 prm_285 (fun i j => by rw [prm_285.fld_w]; decide) (by decide) (by decide) (one_iv prm_285 (fun i j => by rw [prm_285.fld_w]; decide) (by decide))
    · have e : tab 1 1 (mnr (en [[1, 1], [1, 2]]) [0] [1]) = tab 1 1 (fun _ _ => 1) := by decide
      rw [Nat.zero_add, e]; exact inv0 prm_285 (fun i j => by rw [prm_285.fld_w]; decide) (by decide) (by decide) (one_iv prm_285 (fun i j => by rw [prm_285.fld_w]; decide) (by decide))
    · have e : tab 1 1 (mnr (en [[1, 1], [1, 2]]) [1] [0]) = tab 1 1 (fun _ _ => 1) := by decide
      rw [Nat.zero_add, e]; exact inv0 prm_285 (fun i j => by rw [prm_285.fld_w]; decide) (by decide) (by decide) (one_iv prm_285 (fun i j => by rw [prm_285.fld_w]; decide) (by decide))
    · have e : tab 1 1 (mnr (en [[1, 1], [1, 2]]) [1] [1]) = tab 1 1 (fun _ _ => 2) := by decide
      rw [Nat.zero_add, e]; exact inv0 prm_285 (fun i j => by rw [prm_285.fld_w]; decide) (by decide) (by decide) (one_iv prm_285 (fun i j => by rw [prm_285.fld_w]; decide) (by decide))
  · have e : ch 2 2 0 = [[0, 1]] := by decide
    have hR2 : R ∈ ch 2 2 0 := hR
    have hC2 : C ∈ ch 2 2 0 := hC
    rw [e] at hR2 hC2
    simp only [List.mem_cons, List.mem_nil_iff, or_false] at hR2 hC2
    subst hR2; subst hC2
    unfold okC
    have e : tab 2 2 (mnr (en [[1, 1], [1, 2]]) [0, 1] [0, 1]) = [[1, 1], [1, 2]] := by decide
    obtain ⟨x, hx, -⟩ := aw5_inv
    show (invR prm_285 (tab 2 2 (mnr (en [[1, 1], [1, 2]]) [0, 1] [0, 1]))).1 = 0
    rw [e, hx]
end Go.Gam

/- What the statements of layer 8 call first. -/
set_option linter.unusedVariables false
set_option linter.unusedSimpArgs false
namespace Go.Proofs.Ytaeljbdpjiciaaa
open Go Go.Gam


namespace FxFAw08
theorem en21 : Ent Try.prog 21 := ent Try.func21 (by kernel_rfl) (by kernel_rfl)
theorem en23 : Ent Try.prog 23 := ent Try.func23 (by kernel_rfl) (by kernel_rfl)
theorem en24 : Ent Try.prog 24 := ent Try.func24 (by kernel_rfl) (by kernel_rfl)
theorem en26 : Ent Try.prog 26 := ent Try.func26 (by kernel_rfl) (by kernel_rfl)
theorem en35 : Ent Try.prog 35 := ent Try.func35 (by kernel_rfl) (by kernel_rfl)
theorem en41 : Ent Try.prog 41 := ent Try.func41 (by kernel_rfl) (by kernel_rfl)
theorem sl27 : Sl Try.prog 27 37 (.slice none 0 0) 24 := sl_of Try.underlying27 rfl (by kernel_rfl)
theorem sl28 : Sl Try.prog 28 37 (.slice none 0 0) 24 := sl_of Try.underlying28 rfl (by kernel_rfl)
theorem sl37 : Sl Try.prog 37 3 (.int .i64 0) 8 := sl_of Try.underlying37 rfl (by kernel_rfl)
end FxFAw08
open FxFAw08

theorem Same4_t (B M : Nat) (pma : Option Addr) (cma : Nat) (ma : Mtx) (pmb : Option Addr) (cmb : Nat) (mb : Mtx) (w : World) (hI : Inv FDx B w) (hAma : Mat FDx B M w pma cma ma) (hAmb : Mat FDx B M w pmb cmb mb) (hlma : ma.length ≤ 1000) (hbma : ∀ r ∈ ma, r.length ≤ 1000) (e : ma = mb) :
  Ret Try.prog 21 [.slice pma ma.length cma, .slice pmb mb.length cmb] w fun v w' => v = .bool true ∧ St FDx B w w' :=
 (Same04_ok B M pma cma ma pmb cmb mb w hI hAma hAmb hlma hbma).mono fun v w' h => by rw [decide_eq_true e] at h; exact h

set_option maxRecDepth 100000 in
set_option maxHeartbeats 1000000 in
theorem field8_ok (B : Nat) (lg : Bool) (w : World) (hI : Inv FDx B w) : Ret Try.prog 23 [.bool lg] w fun v w' => ∃ fv, v = .tuple #[fv, .int .i64 ((fq lg).1 : Int), .int .u32 ((fq lg).2 : Int)] ∧ Fo FDx B w' fv (some (fq lg)) ∧ St FDx B w w' := by
 refine enter3 8 [(0, .bool lg)] 2 3 4 Try.func23 rfl rfl rfl rfl rfl ?_; intro a hF
 have hS := St.refl hI
 refine W_sr rfl (fun K hK => ?_)
 refine sv3 hF (v_assign rfl) (v_assign rfl) (v_assign rfl) rfl rfl rfl ?_; clear hF a; intro a hF
 refine WL_nil (hK _ _ ?_)
 clear hK K
 refine W_seq ?_
 refine W_sr rfl (fun K hK => ?_)
 refine sv hF (v_move rfl) rfl ?_; clear hF a; intro a hF
 refine WL_nil (hK _ _ ?_)
 clear hK K
 replace hF := hF.sub _ (c_ 5 rfl (c_ 4 rfl (c_ 3 rfl (c_ 2 rfl (n_)))))
 refine W_if hF rfl (fun hc1 => ?_) (fun hc1 => ?_)
 ·
  skip
  try simp only [dcl] at hc1
  obtain rfl : lg = true := by assumption
  refine W_sr rfl (fun K hK => ?_)
  refine sc hF rfl rfl rfl en41 rfl (New_ok B 16 69643 _ hS.inv (by decide) (by decide)) ?_; clear hF a; intro v w' a hv hF
  obtain ⟨hf, hS'⟩ := hv
  obtain ⟨fv, rfl⟩ : ∃ x, x = v := ⟨_, rfl⟩
  rw [show newF 16 69643 = some (16, 69643) from newF_p prm_69643] at hf
  replace hS := hS.trans hS'
  clear hS'
  refine sv3 hF (v_assign rfl) (v_assign rfl) (v_assign rfl) rfl rfl rfl ?_; clear hF a; intro a hF
  refine WL_nil (hK _ _ ?_)
  clear hK K
  replace hF := hF.sub _ (c_ 4 rfl (c_ 3 rfl (c_ 2 rfl (n_))))
  refine W_ret ?_
  refine ⟨_, _, _, _, hF, rfl, rfl, rfl, ?_⟩
  exact ⟨fv, rfl, hf, hS⟩
 ·
  skip
  try simp only [dcl] at hc1
  obtain rfl : lg = false := by assumption
  refine W_skip ?_
  refine W_sr rfl (fun K hK => ?_)
  refine sc hF rfl rfl rfl en41 rfl (New_ok B 8 285 _ hS.inv (by decide) (by decide)) ?_; clear hF a; intro v w' a hv hF
  obtain ⟨hf, hS'⟩ := hv
  obtain ⟨fv, rfl⟩ : ∃ x, x = v := ⟨_, rfl⟩
  rw [show newF 8 285 = some (8, 285) from newF_p prm_285] at hf
  replace hS := hS.trans hS'
  clear hS'
  refine sv3 hF (v_assign rfl) (v_assign rfl) (v_assign rfl) rfl rfl rfl ?_; clear hF a; intro a hF
  refine WL_nil (hK _ _ ?_)
  clear hK K
  replace hF := hF.sub _ (c_ 4 rfl (c_ 3 rfl (c_ 2 rfl (n_))))
  refine W_ret ?_
  refine ⟨_, _, _, _, hF, rfl, rfl, rfl, ?_⟩
  exact ⟨fv, rfl, hf, hS⟩

set_option maxRecDepth 100000 in
set_option maxHeartbeats 1000000 in
theorem aw08_ok (B : Nat) (w : World) (hI : Inv FDx B w) : Ret Try.prog 22 [] w fun v w' => v = .bool true ∧ St FDx B w w' := by
 refine enter 78 [] 0 Try.func22 rfl rfl rfl rfl rfl ?_; intro a hF
 have hS := St.refl hI
 refine W_sr rfl (fun K hK => ?_)
 refine sv hF (v_assign rfl) rfl ?_; clear hF a; intro a hF
 refine WL_nil (hK _ _ ?_)
 clear hK K
 refine W_sr rfl (fun K hK => ?_)
 refine sc hF rfl rfl rfl en23 rfl (field8_ok B false _ hS.inv) ?_; clear hF a; intro v w' a hv hF
 obtain ⟨fv, rfl, hf, hS'⟩ := hv
 rw [show fq false = (8, 285) from rfl] at hf
 replace hS := hS.trans hS'
 clear hS'
 refine sv6 hF (v_move rfl) (v_ext rfl rfl) (v_ext rfl rfl) (v_ext rfl rfl) (v_assign rfl) (v_assign rfl) rfl rfl rfl rfl rfl rfl ?_; clear hF a; intro a hF
 refine sv hF (v_assign rfl) rfl ?_; clear hF a; intro a hF
 refine WL_nil (hK _ _ ?_)
 clear hK K
 replace hF := hF.sub _ (c_ 1 rfl (c_ 0 rfl (n_)))
 refine W_sr rfl (fun K hK => ?_)
 refine sv hF (v_move rfl) rfl ?_; clear hF a; intro a hF
 refine sc hF rfl rfl rfl en35 rfl (CIsal_ok B 8 285 prm_285 fv 1 1 _ hS.inv hf) ?_; clear hF a; intro v w' a hv hF
 obtain ⟨obX, uX, rfl, hoX, hS'⟩ := hv
 rw [aw8_isal] at hoX hF
 try simp only [Option.getD_some, Option.getD_none] at hoX
 obtain ⟨sX, cX, rfl, hX⟩ := hoX.mat (by decide) (Nat.zero_le _)
 clear hoX
 replace hf := hf.st hS'
 replace hS := hS.trans hS'
 clear hS'
 refine sv5 hF (v_move rfl) (v_ext rfl rfl) (v_ext rfl rfl) (v_assign rfl) (v_assign rfl) rfl rfl rfl rfl rfl ?_; clear hF a; intro a hF
 refine WL_nil (hK _ _ ?_)
 clear hK K
 replace hF := hF.sub _ (c_ 5 rfl (c_ 4 rfl (c_ 1 rfl (c_ 0 rfl (n_)))))
 refine W_sr rfl (fun K hK => ?_)
 refine sv hF (v_move rfl) rfl ?_; clear hF a; intro a hF
 refine s_bs (D := FDx) (B := B) hF sl37 rfl rfl (by decide) (by simp [Value.cells]) (by decide) hS.inv rfl ?_; clear hF a; intro w' a hm hI' h1 hF
 replace hf := hf.mb hm
 replace hX := (hX.mb hm (fun _ h => by cases h)).mono hm.size
 replace hS := hS.mb0 hm
 clear hm hI'
 refine s_bs (D := FDx) (B := B) hF sl37 rfl rfl (by decide) (by simp [Value.cells]) (by decide) hS.inv rfl ?_; clear hF a; intro w' a hm hI' h2 hF
 replace hf := hf.mb hm
 replace hX := (hX.mb hm (fun _ h => by cases h)).mono hm.size
 replace h1 := h1.mb hm (fun _ _ => by simp)
 replace hS := hS.mb0 hm
 clear hm hI'
 refine sc hF rfl rfl rfl en24 rfl (Of_ok B _ 8 285 prm_285 fv _ _ 1 2 [0] [1, 2] _ hS.inv (Nat.le_refl _) hf ((h1.cast (ys := zints [0]) rfl).row (by decide)) ((h2.cast (ys := zints [1, 2]) rfl).row (by decide)) (by decide)) ?_; clear hF a; intro v w' a hv hF
 obtain ⟨obY, uY, rfl, hoY, hS'⟩ := hv
 rw [aw8_of] at hoY hF
 try simp only [Option.getD_some, Option.getD_none] at hoY
 obtain ⟨sY, cY, rfl, hY⟩ := hoY.mat (by decide) (Nat.zero_le _)
 clear hoY
 replace hf := hf.st hS'
 replace hX := (hX.st hS').mono hS'.ext.size
 replace hS := hS.trans hS'
 clear hS'
 refine sv5 hF (v_move rfl) (v_ext rfl rfl) (v_ext rfl rfl) (v_assign rfl) (v_assign rfl) rfl rfl rfl rfl rfl ?_; clear hF a; intro a hF
 refine WL_nil (hK _ _ ?_)
 clear hK K
 replace hF := hF.sub _ (c_ 7 rfl (c_ 6 rfl (c_ 5 rfl (c_ 4 rfl (c_ 1 rfl (c_ 0 rfl (n_)))))))
 refine W_sr rfl (fun K hK => ?_)
 refine sv hF (v_move rfl) rfl ?_; clear hF a; intro a hF
 refine s_bs (D := FDx) (B := B) hF sl37 rfl rfl (by decide) (by simp [Value.cells]) (by decide) hS.inv rfl ?_; clear hF a; intro w' a hm hI' h1 hF
 replace hf := hf.mb hm
 replace hX := (hX.mb hm (fun _ h => by cases h)).mono hm.size
 replace hY := (hY.mb hm (fun _ h => by cases h)).mono hm.size
 replace hS := hS.mb0 hm
 clear hm hI'
 refine s_bs (D := FDx) (B := B) hF sl37 rfl rfl (by decide) (by simp [Value.cells]) (by decide) hS.inv rfl ?_; clear hF a; intro w' a hm hI' h2 hF
 replace hf := hf.mb hm
 replace hX := (hX.mb hm (fun _ h => by cases h)).mono hm.size
 replace hY := (hY.mb hm (fun _ h => by cases h)).mono hm.size
 replace h1 := h1.mb hm (fun _ _ => by simp)
 replace hS := hS.mb0 hm
 clear hm hI'
 refine s_bs (D := FDx) (B := B) hF sl28 rfl rfl (by decide) (by simp [Value.cells]) (by decide) hS.inv rfl ?_; clear hF a; intro w' a hm hI' h3 hF
 replace hf := hf.mb hm
 replace hX := (hX.mb hm (fun _ h => by cases h)).mono hm.size
 replace hY := (hY.mb hm (fun _ h => by cases h)).mono hm.size
 replace h1 := h1.mb hm (fun _ _ => by simp)
 replace h2 := h2.mb hm (fun _ _ => by simp)
 replace hS := hS.mb0 hm
 clear hm hI'
 refine sc hF rfl rfl rfl en26 rfl (Safe_ok B _ 8 285 prm_285 fv _ _ [[1, 1], [1, 1]] _ hS.inv (Nat.le_refl _) hf (Mat.two h3 (by decide) ((h1.cast (ys := zints [1, 1]) rfl).row (by decide)) ((h2.cast (ys := zints [1, 1]) rfl).row (by decide))) (aw5_len _ _ _ _).1 (aw5_len _ _ _ _).2) ?_; clear hF a; intro v w' a hv hF
 obtain ⟨rfl, hS'⟩ := hv
 rw [aw8_no] at hF
 dsimp only at hF
 replace hf := hf.st hS'
 replace hX := (hX.st hS').mono hS'.ext.size
 replace hY := (hY.st hS').mono hS'.ext.size
 replace hS := hS.trans hS'
 clear hS'
 refine sv hF (v_move rfl) rfl ?_; clear hF a; intro a hF
 refine sv hF ((v_ext rfl rfl).as (congrArg Value.bool (rfl))) rfl ?_; clear hF a; intro a hF
 refine sv3 hF (v_ext rfl rfl) (v_assign rfl) (v_assign rfl) rfl rfl rfl ?_; clear hF a; intro a hF
 refine WL_nil (hK _ _ ?_)
 clear hK K
 replace hF := hF.sub _ (c_ 9 rfl (c_ 8 rfl (c_ 7 rfl (c_ 6 rfl (c_ 5 rfl (c_ 4 rfl (c_ 1 rfl (c_ 0 rfl (n_)))))))))
 refine W_sr rfl (fun K hK => ?_)
 refine sv hF (v_move rfl) rfl ?_; clear hF a; intro a hF
 refine s_bs (D := FDx) (B := B) hF sl37 rfl rfl (by decide) (by simp [Value.cells]) (by decide) hS.inv rfl ?_; clear hF a; intro w' a hm hI' h1 hF
 replace hf := hf.mb hm
 replace hX := (hX.mb hm (fun _ h => by cases h)).mono hm.size
 replace hY := (hY.mb hm (fun _ h => by cases h)).mono hm.size
 replace hS := hS.mb0 hm
 clear hm hI'
 refine s_bs (D := FDx) (B := B) hF sl37 rfl rfl (by decide) (by simp [Value.cells]) (by decide) hS.inv rfl ?_; clear hF a; intro w' a hm hI' h2 hF
 replace hf := hf.mb hm
 replace hX := (hX.mb hm (fun _ h => by cases h)).mono hm.size
 replace hY := (hY.mb hm (fun _ h => by cases h)).mono hm.size
 replace h1 := h1.mb hm (fun _ _ => by simp)
 replace hS := hS.mb0 hm
 clear hm hI'
 refine s_bs (D := FDx) (B := B) hF sl28 rfl rfl (by decide) (by simp [Value.cells]) (by decide) hS.inv rfl ?_; clear hF a; intro w' a hm hI' h3 hF
 replace hf := hf.mb hm
 replace hX := (hX.mb hm (fun _ h => by cases h)).mono hm.size
 replace hY := (hY.mb hm (fun _ h => by cases h)).mono hm.size
 replace h1 := h1.mb hm (fun _ _ => by simp)
 replace h2 := h2.mb hm (fun _ _ => by simp)
 replace hS := hS.mb0 hm
 clear hm hI'
 refine sc hF rfl rfl rfl en26 rfl (Safe_ok B _ 8 285 prm_285 fv _ _ [[1, 1], [1, 2]] _ hS.inv (Nat.le_refl _) hf (Mat.two h3 (by decide) ((h1.cast (ys := zints [1, 1]) rfl).row (by decide)) ((h2.cast (ys := zints [1, 2]) rfl).row (by decide))) (aw5_len _ _ _ _).1 (aw5_len _ _ _ _).2) ?_; clear hF a; intro v w' a hv hF
 obtain ⟨rfl, hS'⟩ := hv
 rw [aw8_yes] at hF
 dsimp only at hF
 replace hX := (hX.st hS').mono hS'.ext.size
 replace hY := (hY.st hS').mono hS'.ext.size
 replace hS := hS.trans hS'
 clear hS'
 refine sv hF (v_move rfl) rfl ?_; clear hF a; intro a hF
 refine sv hF ((v_ext rfl rfl).as (congrArg Value.bool (rfl))) rfl ?_; clear hF a; intro a hF
 refine sv3 hF (v_ext rfl rfl) (v_assign rfl) (v_assign rfl) rfl rfl rfl ?_; clear hF a; intro a hF
 refine WL_nil (hK _ _ ?_)
 clear hK K
 replace hF := hF.sub _ (c_ 11 rfl (c_ 10 rfl (c_ 9 rfl (c_ 8 rfl (c_ 7 rfl (c_ 6 rfl (c_ 5 rfl (c_ 4 rfl (c_ 0 rfl (n_))))))))))
 refine W_sr rfl (fun K hK => ?_)
 refine sv hF (v_move rfl) rfl ?_; clear hF a; intro a hF
 refine sv hF ((v_eql rfl rfl).as (congrArg Value.bool (decide_eq_true (rfl)))) rfl ?_; clear hF a; intro a hF
 refine sv hF (v_move rfl) rfl ?_; clear hF a; intro a hF
 refine svg hF rfl ?_
 refine sv hF (v_move rfl) rfl ?_; clear hF a; intro a hF
 refine svg hF rfl ?_
 refine sv hF ((v_eql rfl rfl).as (congrArg Value.bool (decide_eq_true (rfl)))) rfl ?_; clear hF a; intro a hF
 refine sv2 hF (v_pickT rfl rfl) (v_move rfl) rfl rfl ?_; clear hF a; intro a hF
 refine svg hF rfl ?_
 refine sv hF (v_move rfl) rfl ?_; clear hF a; intro a hF
 refine svg hF rfl ?_
 refine s_bs (D := FDx) (B := B) hF sl37 rfl rfl (by decide) (by simp [Value.cells]) (by decide) hS.inv rfl ?_; clear hF a; intro w' a hm hI' h1 hF
 replace hX := (hX.mb hm (fun _ h => by cases h)).mono hm.size
 replace hY := (hY.mb hm (fun _ h => by cases h)).mono hm.size
 replace hS := hS.mb0 hm
 clear hm hI'
 refine svg hF rfl ?_
 refine s_bs (D := FDx) (B := B) hF sl27 rfl rfl (by decide) (by simp [Value.cells]) (by decide) hS.inv rfl ?_; clear hF a; intro w' a hm hI' h2 hF
 replace hX := (hX.mb hm (fun _ h => by cases h)).mono hm.size
 replace hY := (hY.mb hm (fun _ h => by cases h)).mono hm.size
 replace h1 := h1.mb hm (fun _ _ => by simp)
 replace hS := hS.mb0 hm
 clear hm hI'
 refine svg hF rfl ?_
 refine sc hF rfl rfl rfl en21 rfl (Same4_t B _ _ _ [[1]] _ _ [[1]] _ hS.inv hX (Mat.one h2 (by decide) ((h1.cast (ys := zints [1]) rfl).row (by decide))) (by decide) (by intro r hr; simp at hr; subst hr; decide) rfl) ?_; clear hF a; intro v w' a hv hF
 obtain ⟨rfl, hS'⟩ := hv
 replace hY := (hY.st hS').mono hS'.ext.size
 replace hS := hS.trans hS'
 clear hS'
 refine sv2 hF (v_pickT rfl rfl) (v_move rfl) rfl rfl ?_; clear hF a; intro a hF
 refine svg hF rfl ?_
 refine sv hF (v_move rfl) rfl ?_; clear hF a; intro a hF
 refine svg hF rfl ?_
 refine s_bs (D := FDx) (B := B) hF sl37 rfl rfl (by decide) (by simp [Value.cells]) (by decide) hS.inv rfl ?_; clear hF a; intro w' a hm hI' h1 hF
 replace hY := (hY.mb hm (fun _ h => by cases h)).mono hm.size
 replace hS := hS.mb0 hm
 clear hm hI'
 refine svg hF rfl ?_
 refine s_bs (D := FDx) (B := B) hF sl27 rfl rfl (by decide) (by simp [Value.cells]) (by decide) hS.inv rfl ?_; clear hF a; intro w' a hm hI' h2 hF
 replace hY := (hY.mb hm (fun _ h => by cases h)).mono hm.size
 replace h1 := h1.mb hm (fun _ _ => by simp)
 replace hS := hS.mb0 hm
 clear hm hI'
 refine svg hF rfl ?_
 refine sc hF rfl rfl rfl en21 rfl (Same4_t B _ _ _ [[1, 142]] _ _ [[1, 142]] _ hS.inv hY (Mat.one h2 (by decide) ((h1.cast (ys := zints [1, 142]) rfl).row (by decide))) (by decide) (by intro r hr; simp at hr; subst hr; decide) rfl) ?_; clear hF a; intro v w' a hv hF
 obtain ⟨rfl, hS'⟩ := hv
 replace hS := hS.trans hS'
 clear hS'
 refine sv2 hF (v_pickT rfl rfl) (v_move rfl) rfl rfl ?_; clear hF a; intro a hF
 refine svg hF rfl ?_
 refine sv hF (v_move rfl) rfl ?_; clear hF a; intro a hF
 refine svg hF rfl ?_
 refine sv hF (v_not rfl) rfl ?_; clear hF a; intro a hF
 refine sv2 hF (v_pickT rfl rfl) (v_move rfl) rfl rfl ?_; clear hF a; intro a hF
 refine svg hF rfl ?_
 refine sv hF (v_move rfl) rfl ?_; clear hF a; intro a hF
 refine svg hF rfl ?_
 refine sv hF ((v_eql rfl rfl).as (congrArg Value.bool (decide_eq_true (rfl)))) rfl ?_; clear hF a; intro a hF
 refine sv2 hF (v_pickT rfl rfl) (v_move rfl) rfl rfl ?_; clear hF a; intro a hF
 refine svg hF rfl ?_
 refine sv3 hF (v_move rfl) (v_pickT rfl rfl) (v_move rfl) rfl rfl rfl ?_; clear hF a; intro a hF
 refine svg hF rfl ?_
 refine sv hF (v_move rfl) rfl ?_; clear hF a; intro a hF
 refine svg hF rfl ?_
 refine sv hF ((v_eql rfl rfl).as (congrArg Value.bool (decide_eq_true (rfl)))) rfl ?_; clear hF a; intro a hF
 refine sv2 hF (v_pickT rfl rfl) (v_assign rfl) rfl rfl ?_; clear hF a; intro a hF
 refine WL_nil (hK _ _ ?_)
 clear hK K
 replace hF := hF.sub _ (c_ 0 rfl (n_))
 refine W_ret ?_
 refine ⟨_, _, hF, rfl, ?_⟩
 exact ⟨rfl, hS⟩

end Go.Proofs.Ytaeljbdpjiciaaa

/- The walks of package vander. -/
set_option linter.unusedVariables false
set_option linter.unusedSimpArgs false
namespace Go.Proofs.Ytaeljbdpjiciaaa
open Go Go.Gam


namespace FxFVan
theorem en28 : Ent Try.prog 28 := ent Try.func28 (by kernel_rfl) (by kernel_rfl)
theorem en39 : Ent Try.prog 39 := ent Try.func39 (by kernel_rfl) (by kernel_rfl)
theorem en42 : Ent Try.prog 42 := ent Try.func42 (by kernel_rfl) (by kernel_rfl)
theorem en74 : Ent Try.prog 74 := ent Try.func74 (by kernel_rfl) (by kernel_rfl)
theorem en75 : Ent Try.prog 75 := ent Try.func75 (by kernel_rfl) (by kernel_rfl)
theorem en99 : Ent Try.prog 99 := ent Try.func99 (by kernel_rfl) (by kernel_rfl)
theorem sc23 : Scalar Try.prog 23 := ⟨_, Try.underlying23, by simp, by simp⟩
theorem sl28 : Sl Try.prog 28 37 (.slice none 0 0) 24 := sl_of Try.underlying28 rfl (by kernel_rfl)
theorem sl37 : Sl Try.prog 37 3 (.int .i64 0) 8 := sl_of Try.underlying37 rfl (by kernel_rfl)
end FxFVan
open FxFVan

theorem Inverse_n (B M wb p : Nat) (hp : Prm wb p) (fv : Value) (pmt : Option Addr) (cmt n : Nat) (mt : Mtx) (w : World) (hI : Inv FDx B w) (hM : M ≤ w.heap.size) (hf : Fo FDx B w fv (some (wb, p))) (hA : Mat FDx B M w pmt cmt mt) (hl : mt.length ≤ maxLen) (hb : ∀ r ∈ mt, r.length ≤ maxLen) (hn : mt.length = n) :
  Ret Try.prog 28 [fv, .slice pmt n cmt] w fun v w' => ∃ ob u, v = .tuple #[u, .int .i64 (invR hp mt).1] ∧ MOwn FDx B w.heap.size 0 w'.heap.size w' 37 u ob (invR hp mt).2 ∧ St FDx B w w' := by
 subst hn; exact Inverse_ok B M wb p hp fv pmt cmt mt w hI hM hf hA hl hb

set_option maxRecDepth 100000 in
set_option maxHeartbeats 1000000 in
theorem fits_ok (B : Nat) (o : Fq) (fv : Value) (k m : Int) (w : World) (hf : Fo FDx B w fv o) : Ret Try.prog 74 [fv, .int .i64 k, .int .i64 m] w fun v w' => v = .bool (fitB o k m) ∧ w' = w := by
 refine enter 31 [(0, fv), (1, .int .i64 k), (2, .int .i64 m)] 6 Try.func74 rfl rfl rfl rfl rfl ?_; intro a hF
 obtain ⟨pa_, rfl, hpa⟩ := hf.ptr
 refine W_sr rfl (fun K hK => ?_)
 refine sv hF (v_assign rfl) rfl ?_; clear hF a; intro a hF
 refine WL_nil (hK _ _ ?_)
 clear hK K
 refine W_sr rfl (fun K hK => ?_)
 refine sv hF (v_move rfl) rfl ?_; clear hF a; intro a hF
 refine sb hF (v_neqNil (by exact Try.underlying23) rfl rfl) rfl ?_ ?_
 ·
  clear hF a; intro hc1 a hF
  try simp only [dcl] at hc1
  refine sv hF (v_move rfl) rfl ?_; clear hF a; intro a hF
  refine svg hF rfl ?_
  refine sv hF (v_move rfl) rfl ?_; clear hF a; intro a hF
  refine svg hF rfl ?_
  refine sb hF (v_geq rfl rfl) rfl ?_ ?_
  ·
   clear hF a; intro hc2 a hF
   try simp only [dcl] at hc2
   refine sv2 hF (v_pickT rfl rfl) (v_move rfl) rfl rfl ?_; clear hF a; intro a hF
   refine svg hF rfl ?_
   refine sv hF (v_move rfl) rfl ?_; clear hF a; intro a hF
   refine svg hF rfl ?_
   refine sb hF (v_geq rfl rfl) rfl ?_ ?_
   ·
    clear hF a; intro hc3 a hF
    try simp only [dcl] at hc3
    refine sv2 hF (v_pickT rfl rfl) (v_move rfl) rfl rfl ?_; clear hF a; intro a hF
    refine svg hF rfl ?_
    refine sv hF (v_move rfl) rfl ?_; clear hF a; intro a hF
    refine svg hF rfl ?_
    refine sb hF (v_lss rfl rfl) rfl ?_ ?_
    ·
     clear hF a; intro hc4 a hF
     try simp only [dcl] at hc4
     refine sv2 hF (v_pickT rfl rfl) (v_move rfl) rfl rfl ?_; clear hF a; intro a hF
     refine svg hF rfl ?_
     refine sv hF (v_move rfl) rfl ?_; clear hF a; intro a hF
     refine svg hF rfl ?_
     refine sb hF (v_lss rfl rfl) rfl ?_ ?_
     ·
      clear hF a; intro hc5 a hF
      try simp only [dcl] at hc5
      refine sv2 hF (v_pickT rfl rfl) (v_move rfl) rfl rfl ?_; clear hF a; intro a hF
      refine svg hF rfl ?_
      refine sv hF (v_move rfl) rfl ?_; clear hF a; intro a hF
      refine svg hF rfl ?_
      refine sv hF (v_move rfl) rfl ?_; clear hF a; intro a hF
      refine svg hF rfl ?_
      refine sv hF (v_addI rfl rfl (by omega)) rfl ?_; clear hF a; intro a hF
      refine svg hF rfl ?_
      refine sv hF (v_leq rfl rfl) rfl ?_; clear hF a; intro a hF
      refine sv2 hF (v_pickT rfl rfl) (v_assign rfl) rfl rfl ?_; clear hF a; intro a hF
      refine WL_nil (hK _ _ ?_)
      clear hK K
      replace hF := hF.sub _ (c_ 6 rfl (n_))
      refine W_ret ?_
      refine ⟨_, _, hF, rfl, ?_⟩
      refine ⟨congrArg Value.bool ?_, rfl⟩
      unfold fitB
      rw [← hpa]
      cases pa_ <;> first | (exfalso; simp_all; done) | (simp only [Option.isSome_some, Option.isSome_none, Bool.true_and, Bool.false_and]; done) | (simp only [Option.isSome_some, Bool.true_and]; first | (symm; rw [decide_eq_false_iff_not]; omega) | (rw [decide_eq_decide]; omega))
     ·
      clear hF a; intro hc5 a hF
      try simp only [dcl] at hc5
      refine sv2 hF (v_pickT rfl rfl) (v_move rfl) rfl rfl ?_; clear hF a; intro a hF
      refine svn hF rfl rfl rfl ?_; clear hF a; intro a hF
      refine svn hF rfl rfl rfl ?_; clear hF a; intro a hF
      refine svn hF rfl rfl rfl ?_; clear hF a; intro a hF
      refine svn hF rfl rfl rfl ?_; clear hF a; intro a hF
      refine sv2 hF (v_pickF rfl rfl) (v_assign rfl) rfl rfl ?_; clear hF a; intro a hF
      refine WL_nil (hK _ _ ?_)
      clear hK K
      replace hF := hF.sub _ (c_ 6 rfl (n_))
      refine W_ret ?_
      refine ⟨_, _, hF, rfl, ?_⟩
      refine ⟨congrArg Value.bool ?_, rfl⟩
      unfold fitB
      rw [← hpa]
      cases pa_ <;> first | (exfalso; simp_all; done) | (simp only [Option.isSome_some, Option.isSome_none, Bool.true_and, Bool.false_and]; done) | (simp only [Option.isSome_some, Bool.true_and]; first | (symm; rw [decide_eq_false_iff_not]; omega) | (rw [decide_eq_decide]; omega))
    ·
     clear hF a; intro hc4 a hF
     try simp only [dcl] at hc4
     refine sv2 hF (v_pickT rfl rfl) (v_move rfl) rfl rfl ?_; clear hF a; intro a hF
     refine svn hF rfl rfl rfl ?_; clear hF a; intro a hF
     refine svn hF rfl rfl rfl ?_; clear hF a; intro a hF
     refine sv2 hF (v_pickF rfl rfl) (v_move rfl) rfl rfl ?_; clear hF a; intro a hF
     refine svn hF rfl rfl rfl ?_; clear hF a; intro a hF
     refine svn hF rfl rfl rfl ?_; clear hF a; intro a hF
     refine svn hF rfl rfl rfl ?_; clear hF a; intro a hF
     refine svn hF rfl rfl rfl ?_; clear hF a; intro a hF
     refine sv2 hF (v_pickF rfl rfl) (v_assign rfl) rfl rfl ?_; clear hF a; intro a hF
     refine WL_nil (hK _ _ ?_)
     clear hK K
     replace hF := hF.sub _ (c_ 6 rfl (n_))
     refine W_ret ?_
     refine ⟨_, _, hF, rfl, ?_⟩
     refine ⟨congrArg Value.bool ?_, rfl⟩
     unfold fitB
     rw [← hpa]
     cases pa_ <;> first | (exfalso; simp_all; done) | (simp only [Option.isSome_some, Option.isSome_none, Bool.true_and, Bool.false_and]; done) | (simp only [Option.isSome_some, Bool.true_and]; first | (symm; rw [decide_eq_false_iff_not]; omega) | (rw [decide_eq_decide]; omega))
   ·
    clear hF a; intro hc3 a hF
    try simp only [dcl] at hc3
    refine sv2 hF (v_pickT rfl rfl) (v_move rfl) rfl rfl ?_; clear hF a; intro a hF
    refine svn hF rfl rfl rfl ?_; clear hF a; intro a hF
    refine svn hF rfl rfl rfl ?_; clear hF a; intro a hF
    refine sv2 hF (v_pickF rfl rfl) (v_move rfl) rfl rfl ?_; clear hF a; intro a hF
    refine svn hF rfl rfl rfl ?_; clear hF a; intro a hF
    refine svn hF rfl rfl rfl ?_; clear hF a; intro a hF
    refine sv2 hF (v_pickF rfl rfl) (v_move rfl) rfl rfl ?_; clear hF a; intro a hF
    refine svn hF rfl rfl rfl ?_; clear hF a; intro a hF
    refine svn hF rfl rfl rfl ?_; clear hF a; intro a hF
    refine svn hF rfl rfl rfl ?_; clear hF a; intro a hF
    refine svn hF rfl rfl rfl ?_; clear hF a; intro a hF
    refine sv2 hF (v_pickF rfl rfl) (v_assign rfl) rfl rfl ?_; clear hF a; intro a hF
    refine WL_nil (hK _ _ ?_)
    clear hK K
    replace hF := hF.sub _ (c_ 6 rfl (n_))
    refine W_ret ?_
    refine ⟨_, _, hF, rfl, ?_⟩
    refine ⟨congrArg Value.bool ?_, rfl⟩
    unfold fitB
    rw [← hpa]
    cases pa_ <;> first | (exfalso; simp_all; done) | (simp only [Option.isSome_some, Option.isSome_none, Bool.true_and, Bool.false_and]; done) | (simp only [Option.isSome_some, Bool.true_and]; first | (symm; rw [decide_eq_false_iff_not]; omega) | (rw [decide_eq_decide]; omega))
  ·
   clear hF a; intro hc2 a hF
   try simp only [dcl] at hc2
   refine sv2 hF (v_pickT rfl rfl) (v_move rfl) rfl rfl ?_; clear hF a; intro a hF
   refine svn hF rfl rfl rfl ?_; clear hF a; intro a hF
   refine svn hF rfl rfl rfl ?_; clear hF a; intro a hF
   refine sv2 hF (v_pickF rfl rfl) (v_move rfl) rfl rfl ?_; clear hF a; intro a hF
   refine svn hF rfl rfl rfl ?_; clear hF a; intro a hF
   refine svn hF rfl rfl rfl ?_; clear hF a; intro a hF
   refine sv2 hF (v_pickF rfl rfl) (v_move rfl) rfl rfl ?_; clear hF a; intro a hF
   refine svn hF rfl rfl rfl ?_; clear hF a; intro a hF
   refine svn hF rfl rfl rfl ?_; clear hF a; intro a hF
   refine sv2 hF (v_pickF rfl rfl) (v_move rfl) rfl rfl ?_; clear hF a; intro a hF
   refine svn hF rfl rfl rfl ?_; clear hF a; intro a hF
   refine svn hF rfl rfl rfl ?_; clear hF a; intro a hF
   refine svn hF rfl rfl rfl ?_; clear hF a; intro a hF
   refine svn hF rfl rfl rfl ?_; clear hF a; intro a hF
   refine sv2 hF (v_pickF rfl rfl) (v_assign rfl) rfl rfl ?_; clear hF a; intro a hF
   refine WL_nil (hK _ _ ?_)
   clear hK K
   replace hF := hF.sub _ (c_ 6 rfl (n_))
   refine W_ret ?_
   refine ⟨_, _, hF, rfl, ?_⟩
   refine ⟨congrArg Value.bool ?_, rfl⟩
   unfold fitB
   rw [← hpa]
   cases pa_ <;> first | (exfalso; simp_all; done) | (simp only [Option.isSome_some, Option.isSome_none, Bool.true_and, Bool.false_and]; done) | (simp only [Option.isSome_some, Bool.true_and]; first | (symm; rw [decide_eq_false_iff_not]; omega) | (rw [decide_eq_decide]; omega))
 ·
  clear hF a; intro hc1 a hF
  try simp only [dcl] at hc1
  refine sv hF (v_move rfl) rfl ?_; clear hF a; intro a hF
  refine svn hF rfl rfl rfl ?_; clear hF a; intro a hF
  refine svn hF rfl rfl rfl ?_; clear hF a; intro a hF
  refine sv2 hF (v_pickF rfl rfl) (v_move rfl) rfl rfl ?_; clear hF a; intro a hF
  refine svn hF rfl rfl rfl ?_; clear hF a; intro a hF
  refine svn hF rfl rfl rfl ?_; clear hF a; intro a hF
  refine sv2 hF (v_pickF rfl rfl) (v_move rfl) rfl rfl ?_; clear hF a; intro a hF
  refine svn hF rfl rfl rfl ?_; clear hF a; intro a hF
  refine svn hF rfl rfl rfl ?_; clear hF a; intro a hF
  refine sv2 hF (v_pickF rfl rfl) (v_move rfl) rfl rfl ?_; clear hF a; intro a hF
  refine svn hF rfl rfl rfl ?_; clear hF a; intro a hF
  refine svn hF rfl rfl rfl ?_; clear hF a; intro a hF
  refine sv2 hF (v_pickF rfl rfl) (v_move rfl) rfl rfl ?_; clear hF a; intro a hF
  refine svn hF rfl rfl rfl ?_; clear hF a; intro a hF
  refine svn hF rfl rfl rfl ?_; clear hF a; intro a hF
  refine svn hF rfl rfl rfl ?_; clear hF a; intro a hF
  refine svn hF rfl rfl rfl ?_; clear hF a; intro a hF
  refine sv2 hF (v_pickF rfl rfl) (v_assign rfl) rfl rfl ?_; clear hF a; intro a hF
  refine WL_nil (hK _ _ ?_)
  clear hK K
  replace hF := hF.sub _ (c_ 6 rfl (n_))
  refine W_ret ?_
  refine ⟨_, _, hF, rfl, ?_⟩
  refine ⟨congrArg Value.bool ?_, rfl⟩
  unfold fitB
  rw [← hpa]
  cases pa_ <;> first | (exfalso; simp_all; done) | (simp only [Option.isSome_some, Option.isSome_none, Bool.true_and, Bool.false_and]; done) | (simp only [Option.isSome_some, Bool.true_and]; first | (symm; rw [decide_eq_false_iff_not]; omega) | (rw [decide_eq_decide]; omega))

set_option maxRecDepth 100000 in
set_option maxHeartbeats 1000000 in
theorem made_ok (B n m : Nat) (g : FuncId) (lb : List Value) (f : Tb) (w : World) (hI : Inv FDx B w) (hn : n ≤ 100 ∧ m ≤ 100) (eg : Ent Try.prog g) (hc : ∀ i j, i < n → j < m → ∀ w1, St FDx B w w1 → Ret Try.prog g (.int .i64 (i : Int) :: .int .i64 (j : Int) :: lb) w1 fun v w' => v = .int .i64 (f i j : Int) ∧ St FDx B w1 w') : Ret Try.prog 99 [.int .i64 (n : Int), .int .i64 (m : Int), .func (.func g) ([] : List Value).toArray (lb : List Value).toArray] w fun v w' => ∃ ob, MOwn FDx B w.heap.size 0 w'.heap.size w' 37 v ob (tab n m f) ∧ St FDx B w w' := by
 refine enter 33 [(0, .int .i64 (n : Int)), (1, .int .i64 (m : Int)), (2, .func (.func g) ([] : List Value).toArray (lb : List Value).toArray)] 6 Try.func99 rfl rfl rfl rfl rfl ?_; intro a hF
 have hS := St.refl hI
 refine W_sr rfl (fun K hK => ?_)
 refine sv hF (v_assign rfl) rfl ?_; clear hF a; intro a hF
 refine WL_nil (hK _ _ ?_)
 clear hK K
 refine W_sr rfl (fun K hK => ?_)
 refine sv hF (v_assign rfl) rfl ?_; clear hF a; intro a hF
 refine WL_nil (hK _ _ ?_)
 clear hK K
 refine W_seq ?_
 refine W_sr rfl (fun K hK => ?_)
 refine sv2 hF (v_move rfl) (v_move rfl) rfl rfl ?_; clear hF a; intro a hF
 refine WL_nil (hK _ _ ?_)
 clear hK K
 replace hF := hF.sub _ (c_ 12 rfl (c_ 11 rfl (c_ 7 rfl (c_ 6 rfl (c_ 1 rfl (c_ 2 rfl (n_)))))))
 refine W_block ?_
 refine W_loop (fun q a w1 => ∃ (i : Nat) (v7 : Value) (b7 : Option Nat), Fr 33 [(1, .int .i64 (m : Int)), (2, .func (.func g) ([] : List Value).toArray (lb : List Value).toArray), (7, v7), (11, .int .i64 (n : Int)), (12, .int .i64 (i : Int))] a ∧ (St FDx B w w1) ∧ (MOwn FDx B w.heap.size 0 w1.heap.size w1 37 v7 b7 ((List.range i).map (trow m f))) ∧ (i ≤ n) ∧ (q + i = n)) (n) ?_ ?_
 ·
  skip
  exact ⟨0, _, none, hF.sub _ (c_ 1 rfl (c_ 2 rfl (c_ 7 rfl (c_ 11 rfl (c_ 12 rfl (n_)))))), hS, MOwn.nil _ _ _ _ _ _ _ (Nat.zero_le _), by omega, by omega⟩
 ·
  skip
  clear hF
  clear hS
  rintro q a w1 ⟨i, v7, b7, hF, hS, hMO, hi, hq⟩
  obtain ⟨KM, hKe⟩ : ∃ KM, KM = w1.heap.size := ⟨_, rfl⟩
  rw [← hKe] at hMO
  have hKs : KM ≤ w1.heap.size := by omega
  have hNK : w.heap.size ≤ KM := by have := hS.ext.size; omega
  clear hKe
  refine W_sr rfl (fun K hK => ?_)
  refine sv hF (v_lss rfl rfl) rfl ?_; clear hF a; intro a hF
  refine WL_nil (hK _ _ ?_)
  clear hK K
  refine W_seq ?_
  refine W_if hF rfl (fun hc1 => ?_) (fun hc1 => ?_)
  ·
   skip
   try simp only [dcl] at hc1
   have hlt : i < n := by omega
   refine W_skip ?_
   refine W_seq ?_
   refine W_block ?_
   refine W_sr rfl (fun K hK => ?_)
   refine sv2 hF (v_move rfl) (v_assign rfl) rfl rfl ?_; clear hF a; intro a hF
   refine WL_nil (hK _ _ ?_)
   clear hK K
   replace hF := hF.sub _ (c_ 8 rfl (c_ 1 rfl (c_ 2 rfl (c_ 7 rfl (c_ 11 rfl (c_ 12 rfl (n_)))))))
   refine W_sr rfl (fun K hK => ?_)
   refine sv hF (v_assign rfl) rfl ?_; clear hF a; intro a hF
   refine WL_nil (hK _ _ ?_)
   clear hK K
   refine W_seq ?_
   refine W_sr rfl (fun K hK => ?_)
   refine sv2 hF (v_move rfl) (v_move rfl) rfl rfl ?_; clear hF a; intro a hF
   refine WL_nil (hK _ _ ?_)
   clear hK K
   refine W_block ?_
   refine W_loop (fun q2 a w2 => ∃ (j : Nat) (v9 : Value) (b9 : Option Nat), Fr 33 [(1, .int .i64 (m : Int)), (2, .func (.func g) ([] : List Value).toArray (lb : List Value).toArray), (7, v7), (8, .int .i64 (i : Int)), (9, v9), (11, .int .i64 (n : Int)), (12, .int .i64 (i : Int)), (15, .int .i64 (m : Int)), (16, .int .i64 (j : Int))] a ∧ (St FDx B w w2) ∧ (MOwn FDx B w.heap.size 0 KM w2 37 v7 b7 ((List.range i).map (trow m f))) ∧ (KM ≤ w2.heap.size) ∧ (Gam.Own FDx B KM w2 FDx.E v9 b9 (zints ((List.range j).map fun j => (f i j : Int)))) ∧ (j ≤ m) ∧ (q2 + j = m)) (m) ?_ ?_
   ·
    skip
    exact ⟨0, _, none, hF.sub _ (c_ 1 rfl (c_ 2 rfl (c_ 7 rfl (c_ 8 rfl (c_ 9 rfl (c_ 11 rfl (c_ 12 rfl (c_ 15 rfl (c_ 16 rfl (n_)))))))))), hS, hMO, hKs, Gam.Own.nil _ _ _ _ _, by omega, by omega⟩
   ·
    skip
    clear hF
    clear hS hMO hKs
    rintro q2 a w2 ⟨j, v9, b9, hF, hS, hMO, hKs, hO, hj, hq2⟩
    refine W_sr rfl (fun K hK => ?_)
    refine sv hF (v_lss rfl rfl) rfl ?_; clear hF a; intro a hF
    refine WL_nil (hK _ _ ?_)
    clear hK K
    refine W_seq ?_
    refine W_if hF rfl (fun hc2 => ?_) (fun hc2 => ?_)
    ·
     skip
     try simp only [dcl] at hc2
     have hlt2 : j < m := by omega
     refine W_skip ?_
     refine W_seq ?_
     refine W_block ?_
     refine W_sr rfl (fun K hK => ?_)
     refine sv2 hF (v_move rfl) (v_assign rfl) rfl rfl ?_; clear hF a; intro a hF
     refine WL_nil (hK _ _ ?_)
     clear hK K
     replace hF := hF.sub _ (c_ 10 rfl (c_ 1 rfl (c_ 2 rfl (c_ 7 rfl (c_ 8 rfl (c_ 9 rfl (c_ 11 rfl (c_ 12 rfl (c_ 15 rfl (c_ 16 rfl (n_)))))))))))
     refine W_reg rfl (fun K hK => ?_)
     refine sv4 hF (v_move rfl) (v_move rfl) (v_move rfl) (v_move rfl) rfl rfl rfl rfl ?_; clear hF a; intro a hF
     refine sc hF rfl rfl rfl eg rfl (hc i j hlt hlt2 _ hS) ?_; clear hF a; intro v w' a hv hF
     obtain ⟨rfl, hS'⟩ := hv
     replace hMO := hMO.st (by decide) hS'
     replace hKs := Nat.le_trans hKs hS'.ext.size
     replace hO := hO.st (by decide) hS'
     replace hS := hS.trans hS'
     clear hS'
     refine s_bs (D := FDx) (B := B) hF sl37 rfl rfl (by decide) (by simp [Value.cells]) (by decide) hS.inv rfl ?_; clear hF a; intro w' a hm hI' hL hF
     replace hMO := hMO.mb0 hm
     replace hKs := Nat.le_trans hKs hm.size
     replace hO := hO.mb hm (fun _ _ => by simp)
     replace hS := hS.mb0 hm
     clear hm hI'
     refine s_app (D := FDx) (B := B) hF rfl sl37 rfl rfl hO (hL.row (by decide)) (by simp [Value.oneCell']) (by simp; omega) (by simp [maxLen]; omega) (hKs) (by decide) hS.inv rfl ?_; clear hF a; intro v' b' w' a ho' hm hI' hb' hF
     replace hMO := hMO.mbo hm hO (by decide) (Nat.le_refl _) (Nat.zero_le _)
     replace hKs := Nat.le_trans hKs hm.size
     replace hS := hS.mb hm (fun k h => Nat.le_trans (hNK) (hO.lt k h).1)
     replace hO := ho'
     clear hm hI' ho'
     refine sv hF (v_assign rfl) rfl ?_; clear hF a; intro a hF
     refine WL_nil (hK _ _ ?_)
     clear hK K
     replace hF := hF.sub _ (c_ 9 rfl (c_ 1 rfl (c_ 2 rfl (c_ 7 rfl (c_ 8 rfl (c_ 11 rfl (c_ 12 rfl (c_ 15 rfl (c_ 16 rfl (n_))))))))))
     refine W_reg rfl (fun K hK => ?_)
     refine sv hF (v_addI rfl rfl (by omega)) rfl ?_; clear hF a; intro a hF
     refine sv hF (v_move rfl) rfl ?_; clear hF a; intro a hF
     refine WL_nil (hK _ _ ?_)
     clear hK K
     exact ⟨q2 - 1, by omega, j + 1, _, _, hF.sub _ (c_ 1 rfl (c_ 2 rfl (c_ 7 rfl (c_ 8 rfl (c_ 9 rfl (c_ 11 rfl (c_ 12 rfl (c_ 15 rfl (c_ 16 rfl (n_)))))))))), hS, hMO, hKs, hO.cast (by rw [List.range_succ, List.map_append]; simp [zints]), by omega, by omega⟩
    ·
     skip
     try simp only [dcl] at hc2
     have hjm : j = m := by omega
     rw [hjm] at hO
     refine W_exit rfl ?_
     refine W_reg rfl (fun K hK => ?_)
     refine sv2 hF (v_move rfl) (v_move rfl) rfl rfl ?_; clear hF a; intro a hF
     obtain ⟨a_, c_r, rfl⟩ := hO.shape
     refine s_bs (D := FDx) (B := B) hF sl28 rfl rfl (by decide) (by simp [Value.cells]) (by decide) hS.inv rfl ?_; clear hF a; intro w' a hm hI' hL hF
     replace hMO := hMO.mb0 hm
     replace hKs := Nat.le_trans hKs hm.size
     replace hO := hO.mb hm (fun _ _ => by simp)
     replace hS := hS.mb0 hm
     clear hm hI'
     replace hMO := hMO.up hKs
     clear hKs
     refine s_appM (D := FDx) (B := B) hF rfl sl28 rfl rfl hMO hL (.of (r := trow m f i) hO (Nat.zero_le _)) rfl rfl (by simp; omega) (hS.ext.size) (by decide) (by decide) hS.inv rfl ?_; clear hF a; intro v' b' w' a ho' hm hI' hF
     replace hS := hS.mb hm (fun k h => (hMO.lt k h).1)
     have hKm := hm.size
     replace hMO := ho'
     clear hm hI' ho' hL
     refine sv hF (v_assign rfl) rfl ?_; clear hF a; intro a hF
     refine WL_nil (hK _ _ ?_)
     clear hK K
     replace hF := hF.sub _ (c_ 7 rfl (c_ 30 rfl (c_ 29 rfl (c_ 28 rfl (c_ 27 rfl (c_ 1 rfl (c_ 2 rfl (c_ 8 rfl (c_ 9 rfl (c_ 11 rfl (c_ 12 rfl (c_ 15 rfl (c_ 16 rfl (n_))))))))))))))
     refine W_reg rfl (fun K hK => ?_)
     refine sv hF (v_addI rfl rfl (by omega)) rfl ?_; clear hF a; intro a hF
     refine sv hF (v_move rfl) rfl ?_; clear hF a; intro a hF
     refine WL_nil (hK _ _ ?_)
     clear hK K
     exact ⟨q - 1, by omega, i + 1, _, _, hF.sub _ (c_ 1 rfl (c_ 2 rfl (c_ 7 rfl (c_ 11 rfl (c_ 12 rfl (n_)))))), hS, (hMO.up hKm).cast (by rw [List.range_succ, List.map_append]; rfl), by omega, by omega⟩
  ·
   skip
   try simp only [dcl] at hc1
   refine W_exit rfl ?_
   refine W_sr rfl (fun K hK => ?_)
   refine sv2 hF (v_move rfl) (v_assign rfl) rfl rfl ?_; clear hF a; intro a hF
   refine WL_nil (hK _ _ ?_)
   clear hK K
   replace hF := hF.sub _ (c_ 6 rfl (c_ 32 rfl (c_ 1 rfl (c_ 2 rfl (c_ 7 rfl (c_ 11 rfl (c_ 12 rfl (n_))))))))
   refine W_ret ?_
   refine ⟨_, _, hF, rfl, ?_⟩
   obtain rfl : i = n := by omega
   exact ⟨_, (hMO.up hKs).cast rfl, hS⟩

set_option maxRecDepth 100000 in
set_option maxHeartbeats 1000000 in
theorem Raw1_ok (B : Nat) (o : Fq) (fv : Value) (pf i j : Nat) (w : World) (hI : Inv FDx B w) (hf : Fo FDx B w fv o) (hkf : KC FDx B w ⟨pf, 0, none⟩ fv) (hij : i ≤ 100 ∧ j ≤ 100) : Ret Try.prog 100 [.int .i64 (i : Int), .int .i64 (j : Int), .pointer (some ⟨pf, 0, none⟩)] w fun v w' => v = .int .i64 (pwT o i j : Int) ∧ St FDx B w w' := by
 refine enter 10 [(0, .int .i64 (i : Int)), (1, .int .i64 (j : Int)), (2, .pointer (some ⟨pf, 0, none⟩))] 5 Try.func100 rfl rfl rfl rfl rfl ?_; intro a hF
 have hS := St.refl hI
 refine W_sr rfl (fun K hK => ?_)
 refine sv hF (v_assign rfl) rfl ?_; clear hF a; intro a hF
 refine WL_nil (hK _ _ ?_)
 clear hK K
 refine W_sr rfl (fun K hK => ?_)
 refine sv hF (v_load sc23 rfl hkf.c) rfl ?_; clear hF a; intro a hF
 refine sv2 hF (v_move rfl) (v_move rfl) rfl rfl ?_; clear hF a; intro a hF
 refine sc hF rfl rfl rfl en42 rfl (Pow_gf B o fv (i : Int) (j : Int) _ hS.inv hf (by omega)) ?_; clear hF a; intro v w' a hv hF
 obtain ⟨rfl, hS'⟩ := hv
 replace hS := hS.trans hS'
 clear hS'
 refine sv hF (v_assign rfl) rfl ?_; clear hF a; intro a hF
 refine WL_nil (hK _ _ ?_)
 clear hK K
 replace hF := hF.sub _ (c_ 5 rfl (n_))
 refine W_ret ?_
 refine ⟨_, _, hF, rfl, ?_⟩
 exact ⟨congrArg _ (pwT_nn hf.prms _ _).symm, hS⟩

set_option maxRecDepth 100000 in
set_option maxHeartbeats 1000000 in
theorem Raw_ok (B : Nat) (o : Fq) (fv : Value) (k m : Int) (w : World) (hI : Inv FDx B w) (hf : Fo FDx B w fv o) : Ret Try.prog 75 [fv, .int .i64 k, .int .i64 m] w fun v w' => ∃ ob u, v = .tuple #[u, .int .i64 (errV (rawM o k m))] ∧ MOwn FDx B w.heap.size 0 w'.heap.size w' 37 u ob ((rawM o k m).getD []) ∧ St FDx B w w' := by
 refine enter2 30 [(0, fv), (1, .int .i64 k), (2, .int .i64 m)] 6 7 Try.func75 rfl rfl rfl rfl rfl ?_; intro a hF
 have hS := St.refl hI
 obtain ⟨pa_, rfl, hpa⟩ := hf.ptr
 refine W_sr rfl (fun K hK => ?_)
 obtain ⟨pf, hpf⟩ : ∃ pf, pf = w.heap.size := ⟨_, rfl⟩
 refine s_boxN (D := FDx) (B := B) hF rfl (hf.cells1) (by decide) hS.inv rfl ?_; clear hF a; intro w' a hm hI' hbf hsz hF
 replace hf := hf.mb hm
 replace hS := hS.mb0 hm
 clear hm hI' hsz
 rw [← hpf] at hbf hF
 have hkf := hbf.kc
 clear hbf
 refine sv2 hF (v_assign rfl) (v_assign rfl) rfl rfl ?_; clear hF a; intro a hF
 refine WL_nil (hK _ _ ?_)
 clear hK K
 replace hF := hF.sub _ (c_ 7 rfl (c_ 6 rfl (c_ 3 rfl (c_ 1 rfl (c_ 2 rfl (n_))))))
 refine W_seq ?_
 refine W_sr rfl (fun K hK => ?_)
 refine sv hF (v_load sc23 rfl hkf.c) rfl ?_; clear hF a; intro a hF
 refine sb hF (v_eqlNil (by exact Try.underlying23) rfl rfl) rfl ?_ ?_
 ·
  clear hF a; intro hc1 a hF
  try simp only [dcl] at hc1
  refine sv hF (v_move rfl) rfl ?_; clear hF a; intro a hF
  refine svn hF rfl rfl rfl ?_; clear hF a; intro a hF
  refine svn hF rfl rfl rfl ?_; clear hF a; intro a hF
  refine sv2 hF (v_pickT rfl rfl) (v_move rfl) rfl rfl ?_; clear hF a; intro a hF
  refine svn hF rfl rfl rfl ?_; clear hF a; intro a hF
  refine svn hF rfl rfl rfl ?_; clear hF a; intro a hF
  refine sv2 hF (v_pickT rfl rfl) (v_move rfl) rfl rfl ?_; clear hF a; intro a hF
  refine svn hF rfl rfl rfl ?_; clear hF a; intro a hF
  refine svn hF rfl rfl rfl ?_; clear hF a; intro a hF
  refine sv2 hF (v_pickT rfl rfl) (v_move rfl) rfl rfl ?_; clear hF a; intro a hF
  refine svn hF rfl rfl rfl ?_; clear hF a; intro a hF
  refine svn hF rfl rfl rfl ?_; clear hF a; intro a hF
  refine sv hF (v_pickT rfl rfl) rfl ?_; clear hF a; intro a hF
  refine WL_nil (hK _ _ ?_)
  clear hK K
  replace hF := hF.sub _ (c_ 25 rfl (c_ 7 rfl (c_ 6 rfl (c_ 3 rfl (c_ 1 rfl (c_ 2 rfl (n_)))))))
  refine W_ifT hF rfl ?_
  refine W_sr rfl (fun K hK => ?_)
  refine sv2 hF (v_assign rfl) (v_assign rfl) rfl rfl ?_; clear hF a; intro a hF
  refine WL_nil (hK _ _ ?_)
  clear hK K
  replace hF := hF.sub _ (c_ 7 rfl (c_ 6 rfl (c_ 3 rfl (c_ 1 rfl (c_ 2 rfl (n_))))))
  refine W_ret ?_
  refine ⟨_, _, _, hF, rfl, rfl, ?_⟩
  have hb : rawB o k m = false := by unfold rawB; rw [← hpa]; cases pa_ <;> first | (exfalso; simp_all; done) | rfl | (rw [decide_eq_false (by omega)]; rfl)
  rw [rawM_no hb]
  exact ⟨none, _, rfl, MOwn.nil _ _ _ _ _ _ _ (Nat.zero_le _), hS⟩
 ·
  clear hF a; intro hc1 a hF
  try simp only [dcl] at hc1
  refine sv hF (v_move rfl) rfl ?_; clear hF a; intro a hF
  refine svg hF rfl ?_
  refine sv hF (v_move rfl) rfl ?_; clear hF a; intro a hF
  refine svg hF rfl ?_
  refine sb hF (v_lss rfl rfl) rfl ?_ ?_
  ·
   clear hF a; intro hc2 a hF
   try simp only [dcl] at hc2
   refine sv2 hF (v_pickF rfl rfl) (v_move rfl) rfl rfl ?_; clear hF a; intro a hF
   refine svn hF rfl rfl rfl ?_; clear hF a; intro a hF
   refine svn hF rfl rfl rfl ?_; clear hF a; intro a hF
   refine sv2 hF (v_pickT rfl rfl) (v_move rfl) rfl rfl ?_; clear hF a; intro a hF
   refine svn hF rfl rfl rfl ?_; clear hF a; intro a hF
   refine svn hF rfl rfl rfl ?_; clear hF a; intro a hF
   refine sv2 hF (v_pickT rfl rfl) (v_move rfl) rfl rfl ?_; clear hF a; intro a hF
   refine svn hF rfl rfl rfl ?_; clear hF a; intro a hF
   refine svn hF rfl rfl rfl ?_; clear hF a; intro a hF
   refine sv hF (v_pickT rfl rfl) rfl ?_; clear hF a; intro a hF
   refine WL_nil (hK _ _ ?_)
   clear hK K
   replace hF := hF.sub _ (c_ 25 rfl (c_ 7 rfl (c_ 6 rfl (c_ 3 rfl (c_ 1 rfl (c_ 2 rfl (n_)))))))
   refine W_ifT hF rfl ?_
   refine W_sr rfl (fun K hK => ?_)
   refine sv2 hF (v_assign rfl) (v_assign rfl) rfl rfl ?_; clear hF a; intro a hF
   refine WL_nil (hK _ _ ?_)
   clear hK K
   replace hF := hF.sub _ (c_ 7 rfl (c_ 6 rfl (c_ 3 rfl (c_ 1 rfl (c_ 2 rfl (n_))))))
   refine W_ret ?_
   refine ⟨_, _, _, hF, rfl, rfl, ?_⟩
   have hb : rawB o k m = false := by unfold rawB; rw [← hpa]; cases pa_ <;> first | (exfalso; simp_all; done) | rfl | (rw [decide_eq_false (by omega)]; rfl)
   rw [rawM_no hb]
   exact ⟨none, _, rfl, MOwn.nil _ _ _ _ _ _ _ (Nat.zero_le _), hS⟩
  ·
   clear hF a; intro hc2 a hF
   try simp only [dcl] at hc2
   refine sv2 hF (v_pickF rfl rfl) (v_move rfl) rfl rfl ?_; clear hF a; intro a hF
   refine svg hF rfl ?_
   refine sv hF (v_move rfl) rfl ?_; clear hF a; intro a hF
   refine svg hF rfl ?_
   refine sb hF (v_gtr rfl rfl) rfl ?_ ?_
   ·
    clear hF a; intro hc3 a hF
    try simp only [dcl] at hc3
    refine sv2 hF (v_pickF rfl rfl) (v_move rfl) rfl rfl ?_; clear hF a; intro a hF
    refine svn hF rfl rfl rfl ?_; clear hF a; intro a hF
    refine svn hF rfl rfl rfl ?_; clear hF a; intro a hF
    refine sv2 hF (v_pickT rfl rfl) (v_move rfl) rfl rfl ?_; clear hF a; intro a hF
    refine svn hF rfl rfl rfl ?_; clear hF a; intro a hF
    refine svn hF rfl rfl rfl ?_; clear hF a; intro a hF
    refine sv hF (v_pickT rfl rfl) rfl ?_; clear hF a; intro a hF
    refine WL_nil (hK _ _ ?_)
    clear hK K
    replace hF := hF.sub _ (c_ 25 rfl (c_ 7 rfl (c_ 6 rfl (c_ 3 rfl (c_ 1 rfl (c_ 2 rfl (n_)))))))
    refine W_ifT hF rfl ?_
    refine W_sr rfl (fun K hK => ?_)
    refine sv2 hF (v_assign rfl) (v_assign rfl) rfl rfl ?_; clear hF a; intro a hF
    refine WL_nil (hK _ _ ?_)
    clear hK K
    replace hF := hF.sub _ (c_ 7 rfl (c_ 6 rfl (c_ 3 rfl (c_ 1 rfl (c_ 2 rfl (n_))))))
    refine W_ret ?_
    refine ⟨_, _, _, hF, rfl, rfl, ?_⟩
    have hb : rawB o k m = false := by unfold rawB; rw [← hpa]; cases pa_ <;> first | (exfalso; simp_all; done) | rfl | (rw [decide_eq_false (by omega)]; rfl)
    rw [rawM_no hb]
    exact ⟨none, _, rfl, MOwn.nil _ _ _ _ _ _ _ (Nat.zero_le _), hS⟩
   ·
    clear hF a; intro hc3 a hF
    try simp only [dcl] at hc3
    refine sv2 hF (v_pickF rfl rfl) (v_move rfl) rfl rfl ?_; clear hF a; intro a hF
    refine svg hF rfl ?_
    refine sv hF (v_move rfl) rfl ?_; clear hF a; intro a hF
    refine svg hF rfl ?_
    refine sb hF (v_lss rfl rfl) rfl ?_ ?_
    ·
     clear hF a; intro hc4 a hF
     try simp only [dcl] at hc4
     refine sv2 hF (v_pickF rfl rfl) (v_move rfl) rfl rfl ?_; clear hF a; intro a hF
     refine svn hF rfl rfl rfl ?_; clear hF a; intro a hF
     refine svn hF rfl rfl rfl ?_; clear hF a; intro a hF
     refine sv hF (v_pickT rfl rfl) rfl ?_; clear hF a; intro a hF
     refine WL_nil (hK _ _ ?_)
     clear hK K
     replace hF := hF.sub _ (c_ 25 rfl (c_ 7 rfl (c_ 6 rfl (c_ 3 rfl (c_ 1 rfl (c_ 2 rfl (n_)))))))
     refine W_ifT hF rfl ?_
     refine W_sr rfl (fun K hK => ?_)
     refine sv2 hF (v_assign rfl) (v_assign rfl) rfl rfl ?_; clear hF a; intro a hF
     refine WL_nil (hK _ _ ?_)
     clear hK K
     replace hF := hF.sub _ (c_ 7 rfl (c_ 6 rfl (c_ 3 rfl (c_ 1 rfl (c_ 2 rfl (n_))))))
     refine W_ret ?_
     refine ⟨_, _, _, hF, rfl, rfl, ?_⟩
     have hb : rawB o k m = false := by unfold rawB; rw [← hpa]; cases pa_ <;> first | (exfalso; simp_all; done) | rfl | (rw [decide_eq_false (by omega)]; rfl)
     rw [rawM_no hb]
     exact ⟨none, _, rfl, MOwn.nil _ _ _ _ _ _ _ (Nat.zero_le _), hS⟩
    ·
     clear hF a; intro hc4 a hF
     try simp only [dcl] at hc4
     refine sv2 hF (v_pickF rfl rfl) (v_move rfl) rfl rfl ?_; clear hF a; intro a hF
     refine svg hF rfl ?_
     refine sv hF (v_move rfl) rfl ?_; clear hF a; intro a hF
     refine svg hF rfl ?_
     refine sv hF (v_gtr rfl rfl) rfl ?_; clear hF a; intro a hF
     refine sv hF (v_pickF rfl rfl) rfl ?_; clear hF a; intro a hF
     refine WL_nil (hK _ _ ?_)
     clear hK K
     replace hF := hF.sub _ (c_ 25 rfl (c_ 7 rfl (c_ 6 rfl (c_ 3 rfl (c_ 1 rfl (c_ 2 rfl (n_)))))))
     refine W_if hF rfl (fun hc5 => ?_) (fun hc5 => ?_)
     ·
      skip
      try simp only [dcl] at hc5
      refine W_sr rfl (fun K hK => ?_)
      refine sv2 hF (v_assign rfl) (v_assign rfl) rfl rfl ?_; clear hF a; intro a hF
      refine WL_nil (hK _ _ ?_)
      clear hK K
      replace hF := hF.sub _ (c_ 7 rfl (c_ 6 rfl (c_ 3 rfl (c_ 1 rfl (c_ 2 rfl (n_))))))
      refine W_ret ?_
      refine ⟨_, _, _, hF, rfl, rfl, ?_⟩
      have hb : rawB o k m = false := by unfold rawB; rw [← hpa]; cases pa_ <;> first | (exfalso; simp_all; done) | rfl | (rw [decide_eq_false (by omega)]; rfl)
      rw [rawM_no hb]
      exact ⟨none, _, rfl, MOwn.nil _ _ _ _ _ _ _ (Nat.zero_le _), hS⟩
     ·
      skip
      try simp only [dcl] at hc5
      have hb : rawB o k m = true := by unfold rawB; rw [← hpa]; cases pa_ <;> first | (exfalso; simp_all; done) | (rw [decide_eq_true (by omega)]; rfl)
      obtain ⟨kn, rfl⟩ : ∃ n : Nat, k = (n : Int) := ⟨k.toNat, by omega⟩
      obtain ⟨mn, rfl⟩ : ∃ n : Nat, m = (n : Int) := ⟨m.toNat, by omega⟩
      refine W_skip ?_
      refine W_sr rfl (fun K hK => ?_)
      refine sv2 hF (v_move rfl) (v_move rfl) rfl rfl ?_; clear hF a; intro a hF
      refine sv hF (v_mkf (cs := [.tmp 3]) (vs := [.pointer (some ⟨pf, 0, none⟩)]) rfl) rfl ?_; clear hF a; intro a hF
      refine sc hF rfl rfl rfl en99 rfl (made_ok B kn mn 100 [.pointer (some ⟨pf, 0, none⟩)] (pwT o) _ hS.inv (by omega) (ent Try.func100 (by kernel_rfl) (by kernel_rfl)) (fun i j hi hj w1 hs => Raw1_ok B o _ pf i j w1 hs.inv (hf.st hs) (hkf.st hs) (by omega))) ?_; clear hF a; intro v w' a hv hF
      obtain ⟨ob, hMO, hS'⟩ := hv
      replace hMO := hMO.le hS.ext.size (Nat.zero_le _)
      replace hf := hf.st hS'
      replace hkf := hkf.st hS'
      replace hS := hS.trans hS'
      clear hS'
      refine sv2 hF (v_assign rfl) (v_assign rfl) rfl rfl ?_; clear hF a; intro a hF
      refine WL_nil (hK _ _ ?_)
      clear hK K
      replace hF := hF.sub _ (c_ 7 rfl (c_ 6 rfl (n_)))
      refine W_ret ?_
      refine ⟨_, _, _, hF, rfl, rfl, ?_⟩
      rw [show rawM o (kn : Int) (mn : Int) = some (tab kn mn (pwT o)) by unfold rawM; rw [if_pos hb]; rfl]
      exact ⟨_, _, rfl, hMO, hS⟩

set_option maxRecDepth 100000 in
set_option maxHeartbeats 1000000 in
theorem System_ok (B wb p : Nat) (hp : Prm wb p) (fv : Value) (k m : Int) (w : World) (hI : Inv FDx B w) (hf : Fo FDx B w fv (some (wb, p))) : Ret Try.prog 40 [fv, .int .i64 k, .int .i64 m] w fun v w' => ∃ ob u, v = .tuple #[u, .int .i64 (errV (sysM hp k m))] ∧ MOwn FDx B w.heap.size 0 w'.heap.size w' 37 u ob ((sysM hp k m).getD []) ∧ St FDx B w w' := by
 refine enter2 43 [(0, fv), (1, .int .i64 k), (2, .int .i64 m)] 6 7 Try.func40 rfl rfl rfl rfl rfl ?_; intro a hF
 have hS := St.refl hI
 refine W_sr rfl (fun K hK => ?_)
 refine sv2 hF (v_assign rfl) (v_assign rfl) rfl rfl ?_; clear hF a; intro a hF
 refine WL_nil (hK _ _ ?_)
 clear hK K
 refine W_seq ?_
 refine W_sr rfl (fun K hK => ?_)
 refine sv3 hF (v_move rfl) (v_move rfl) (v_move rfl) rfl rfl rfl ?_; clear hF a; intro a hF
 refine sc hF rfl rfl rfl en74 rfl (fits_ok B (some (wb, p)) fv k m _ hf) ?_; clear hF a; intro v w' a hv hF
 obtain ⟨rfl, hw⟩ := hv
 obtain rfl := hw.symm
 have hS' := St.refl hS.inv
 replace hf := hf.st hS'
 replace hS := hS.trans hS'
 clear hS'
 refine sv hF (v_not rfl) rfl ?_; clear hF a; intro a hF
 refine WL_nil (hK _ _ ?_)
 clear hK K
 replace hF := hF.sub _ (c_ 16 rfl (c_ 7 rfl (c_ 6 rfl (c_ 0 rfl (c_ 1 rfl (c_ 2 rfl (n_)))))))
 refine W_if hF rfl (fun hc1 => ?_) (fun hc1 => ?_)
 ·
  skip
  try simp only [dcl] at hc1
  refine W_sr rfl (fun K hK => ?_)
  refine sv2 hF (v_assign rfl) (v_assign rfl) rfl rfl ?_; clear hF a; intro a hF
  refine WL_nil (hK _ _ ?_)
  clear hK K
  replace hF := hF.sub _ (c_ 7 rfl (c_ 6 rfl (c_ 0 rfl (c_ 1 rfl (c_ 2 rfl (n_))))))
  refine W_ret ?_
  refine ⟨_, _, _, hF, rfl, rfl, ?_⟩
  rw [show sysM hp k m = none by unfold sysM; rw [if_neg (by simpa using hc1)]]
  exact ⟨none, _, rfl, MOwn.nil _ _ _ _ _ _ _ (Nat.zero_le _), hS⟩
 ·
  skip
  try simp only [dcl] at hc1
  refine W_skip ?_
  have hb : fitB (some (wb, p)) k m = true := by simpa using hc1
  obtain ⟨-, hb2⟩ := fitB_iff.1 hb
  obtain ⟨kn, rfl⟩ : ∃ n : Nat, k = (n : Int) := ⟨k.toNat, by omega⟩
  obtain ⟨mn, rfl⟩ : ∃ n : Nat, m = (n : Int) := ⟨m.toNat, by omega⟩
  have hraw : rawM (some (wb, p)) ((kn + mn : Nat) : Int) (kn : Int) = some (tab (kn + mn) kn (pwT (some (wb, p)))) := by unfold rawM rawB; rw [if_pos (by rw [decide_eq_true (by omega)]; rfl)]; rfl
  have hinv := raw_inv hp (k := kn) (by omega) (by omega)
  have hmul := sys_mul hp (k := kn) (m := mn) (by omega) (by omega) (by omega)
  refine W_sr rfl (fun K hK => ?_)
  refine sv3 hF (v_move rfl) (v_move rfl) (v_move rfl) rfl rfl rfl ?_; clear hF a; intro a hF
  refine sv hF ((v_addI rfl rfl (by omega)).as (show Value.int .i64 ((kn : Int) + (mn : Int)) = .int .i64 ((kn + mn : Nat) : Int) by simp)) rfl ?_; clear hF a; intro a hF
  refine sv hF (v_move rfl) rfl ?_; clear hF a; intro a hF
  refine sc hF rfl rfl rfl en75 rfl (Raw_ok B (some (wb, p)) fv ((kn + mn : Nat) : Int) (kn : Int) _ hS.inv hf) ?_; clear hF a; intro v w' a hv hF
  obtain ⟨obX, uX, rfl, hoX, hS'⟩ := hv
  rw [hraw] at hoX hF
  try simp only [Option.getD_some, Option.getD_none] at hoX
  obtain ⟨sX, cX, rfl, hX⟩ := hoX.mat (by decide) (Nat.zero_le _)
  clear hoX
  replace hf := hf.st hS'
  replace hS := hS.trans hS'
  clear hS'
  refine sv5 hF (v_move rfl) (v_ext rfl rfl) (v_ext rfl rfl) (v_assign rfl) (v_assign rfl) rfl rfl rfl rfl rfl ?_; clear hF a; intro a hF
  refine WL_nil (hK _ _ ?_)
  clear hK K
  replace hF := hF.sub _ (c_ 8 rfl (c_ 7 rfl (c_ 6 rfl (c_ 0 rfl (c_ 1 rfl (n_))))))
  have hcap := hX.capd
  have hxl : (tab (kn + mn) kn (pwT (some (wb, p)))).length = kn + mn := tab_length _ _ _
  rw [hxl] at hcap
  have hX1 := hX.to (b := tab kn kn (pwT (some (wb, p)))) (hi := kn) (by omega) (tab_take (by omega)).symm
  have hl1 : ∀ n, n ≤ 20 → (tab n kn (pwT (some (wb, p)))).length ≤ maxLen ∧ ∀ r ∈ tab n kn (pwT (some (wb, p))), r.length ≤ maxLen := fun n hn => len20 ⟨by rw [tab_length]; exact hn, fun r hr => by obtain ⟨i, _, rfl⟩ := List.mem_map.1 hr; simp; omega⟩
  refine W_sr rfl (fun K hK => ?_)
  refine sv3 hF (v_move rfl) (v_move rfl) (v_move rfl) rfl rfl rfl ?_; clear hF a; intro a hF
  refine sv hF (v_slHi sl28 rfl rfl (by omega) (by omega)) rfl ?_; clear hF a; intro a hF
  refine sc hF rfl rfl rfl en28 rfl (Inverse_n B _ wb p hp fv _ _ kn (tab kn kn (pwT (some (wb, p)))) _ hS.inv (Nat.le_refl _) hf hX1 (hl1 _ (by omega)).1 (hl1 _ (by omega)).2 (tab_length _ _ _)) ?_; clear hF a; intro v w' a hv hF
  obtain ⟨obY, uY, rfl, hoY, hS'⟩ := hv
  rw [hinv] at hoY hF
  dsimp only at hoY hF
  obtain ⟨sY, cY, rfl, hY⟩ := hoY.mat (by decide) (Nat.zero_le _)
  clear hoY
  replace hf := hf.st hS'
  replace hX := (hX.st hS').mono hS'.ext.size
  replace hS := hS.trans hS'
  clear hS'
  clear hX1
  refine sv5 hF (v_move rfl) (v_ext rfl rfl) (v_ext rfl rfl) (v_assign rfl) (v_assign rfl) rfl rfl rfl rfl rfl ?_; clear hF a; intro a hF
  refine WL_nil (hK _ _ ?_)
  clear hK K
  replace hF := hF.sub _ (c_ 11 rfl (c_ 10 rfl (c_ 8 rfl (c_ 7 rfl (c_ 6 rfl (c_ 0 rfl (n_)))))))
  refine W_seq ?_
  refine W_sr rfl (fun K hK => ?_)
  refine sv hF (v_move rfl) rfl ?_; clear hF a; intro a hF
  refine sv hF ((v_neq rfl rfl).as (congrArg Value.bool (decide_eq_false (by decide)))) rfl ?_; clear hF a; intro a hF
  refine WL_nil (hK _ _ ?_)
  clear hK K
  replace hF := hF.sub _ (c_ 35 rfl (c_ 11 rfl (c_ 10 rfl (c_ 8 rfl (c_ 7 rfl (c_ 6 rfl (c_ 0 rfl (n_))))))))
  refine W_ifF hF rfl ?_
  refine W_skip ?_
  have hl2 : (tab kn kn (vinv hp kn)).length ≤ maxLen ∧ ∀ r ∈ tab kn kn (vinv hp kn), r.length ≤ maxLen := len20 ⟨by rw [tab_length]; omega, fun r hr => by obtain ⟨i, _, rfl⟩ := List.mem_map.1 hr; simp; omega⟩
  refine W_sr rfl (fun K hK => ?_)
  refine sv3 hF (v_move rfl) (v_move rfl) (v_move rfl) rfl rfl rfl ?_; clear hF a; intro a hF
  refine sc hF rfl rfl rfl en39 rfl (MulM_ok B _ (some (wb, p)) fv _ _ (tab (kn + mn) kn (pwT (some (wb, p)))) _ _ (tab kn kn (vinv hp kn)) _ hS.inv (Nat.le_refl _) hf hX (hl1 _ (by omega)).1 (hl1 _ (by omega)).2 hY (hl2).1 (hl2).2) ?_; clear hF a; intro v w' a hv hF
  obtain ⟨ob, u, rfl, hMO, hS'⟩ := hv
  rw [hmul] at hMO hF
  simp only [Option.getD_some] at hMO
  replace hMO := hMO.le hS.ext.size (Nat.zero_le _)
  replace hf := hf.st hS'
  replace hX := (hX.st hS').mono hS'.ext.size
  replace hY := (hY.st hS').mono hS'.ext.size
  replace hS := hS.trans hS'
  clear hS'
  refine sv4 hF (v_ext rfl rfl) (v_ext rfl rfl) (v_assign rfl) (v_assign rfl) rfl rfl rfl rfl ?_; clear hF a; intro a hF
  refine WL_nil (hK _ _ ?_)
  clear hK K
  replace hF := hF.sub _ (c_ 7 rfl (c_ 6 rfl (n_)))
  refine W_ret ?_
  refine ⟨_, _, _, hF, rfl, rfl, ?_⟩
  rw [show sysM hp (kn : Int) (mn : Int) = some (tab (kn + mn) kn (sysT hp kn)) by unfold sysM; rw [if_pos hb]; rfl]
  exact ⟨_, _, rfl, hMO, hS⟩

end Go.Proofs.Ytaeljbdpjiciaaa

/- The walk of package jvan: rows of powers. -/
set_option linter.unusedVariables false
set_option linter.unusedSimpArgs false
namespace Go.Proofs.Ytaeljbdpjiciaaa
open Go Go.Gam


namespace FxFJva
theorem en42 : Ent Try.prog 42 := ent Try.func42 (by kernel_rfl) (by kernel_rfl)
theorem on3 : Gam.One Try.prog 3 := by unfold Gam.One; kernel_rfl
theorem sl28 : Sl Try.prog 28 37 (.slice none 0 0) 24 := sl_of Try.underlying28 rfl (by kernel_rfl)
theorem sl37 : Sl Try.prog 37 3 (.int .i64 0) 8 := sl_of Try.underlying37 rfl (by kernel_rfl)
end FxFJva
open FxFJva

set_option maxRecDepth 100000 in
set_option maxHeartbeats 1000000 in
theorem Extended_ok (B : Nat) (o : Fq) (fv : Value) (k m : Int) (w : World) (hI : Inv FDx B w) (hf : Fo FDx B w fv o) : Ret Try.prog 16 [fv, .int .i64 k, .int .i64 m] w fun v w' => ((fitB o k m = false ∧ v = .tuple #[.slice none 0 0, .int .i64 1]) ∨ (fitB o k m = true ∧ ∃ g cap bs rc, v = .tuple #[.slice (some ⟨g, 0, none⟩) (k + m).toNat cap, .int .i64 0] ∧ Gam.Own FDx B w.heap.size w' 37 (.slice (some ⟨g, 0, none⟩) (k + m).toNat cap) (some g) (vls (k + m).toNat k.toNat bs rc) ∧ Wr FDx B w.heap.size w'.heap.size w' (k + m).toNat k.toNat bs rc (extT o k.toNat m.toNat))) ∧ St FDx B w w' := by
 refine enter2 71 [(0, fv), (1, .int .i64 k), (2, .int .i64 m)] 6 7 Try.func16 rfl rfl rfl rfl rfl ?_; intro a hF
 have hS := St.refl hI
 have hprm := hf.prms
 obtain ⟨pa_, rfl, hpa⟩ := hf.ptr
 refine W_sr rfl (fun K hK => ?_)
 refine sv2 hF (v_assign rfl) (v_assign rfl) rfl rfl ?_; clear hF a; intro a hF
 refine WL_nil (hK _ _ ?_)
 clear hK K
 refine W_seq ?_
 refine W_sr rfl (fun K hK => ?_)
 refine sv hF (v_move rfl) rfl ?_; clear hF a; intro a hF
 refine sb hF (v_eqlNil (by exact Try.underlying23) rfl rfl) rfl ?_ ?_
 ·
  clear hF a; intro hc1 a hF
  try simp only [dcl] at hc1
  refine sv hF (v_move rfl) rfl ?_; clear hF a; intro a hF
  refine svn hF rfl rfl rfl ?_; clear hF a; intro a hF
  refine svn hF rfl rfl rfl ?_; clear hF a; intro a hF
  refine sv2 hF (v_pickT rfl rfl) (v_move rfl) rfl rfl ?_; clear hF a; intro a hF
  refine svn hF rfl rfl rfl ?_; clear hF a; intro a hF
  refine svn hF rfl rfl rfl ?_; clear hF a; intro a hF
  refine sv2 hF (v_pickT rfl rfl) (v_move rfl) rfl rfl ?_; clear hF a; intro a hF
  refine svn hF rfl rfl rfl ?_; clear hF a; intro a hF
  refine svn hF rfl rfl rfl ?_; clear hF a; intro a hF
  refine sv2 hF (v_pickT rfl rfl) (v_move rfl) rfl rfl ?_; clear hF a; intro a hF
  refine svn hF rfl rfl rfl ?_; clear hF a; intro a hF
  refine svn hF rfl rfl rfl ?_; clear hF a; intro a hF
  refine sv2 hF (v_pickT rfl rfl) (v_move rfl) rfl rfl ?_; clear hF a; intro a hF
  refine svn hF rfl rfl rfl ?_; clear hF a; intro a hF
  refine svn hF rfl rfl rfl ?_; clear hF a; intro a hF
  refine svn hF rfl rfl rfl ?_; clear hF a; intro a hF
  refine svn hF rfl rfl rfl ?_; clear hF a; intro a hF
  refine sv hF (v_pickT rfl rfl) rfl ?_; clear hF a; intro a hF
  refine WL_nil (hK _ _ ?_)
  clear hK K
  replace hF := hF.sub _ (c_ 36 rfl (c_ 7 rfl (c_ 6 rfl (c_ 0 rfl (c_ 1 rfl (c_ 2 rfl (n_)))))))
  refine W_ifT hF rfl ?_
  refine W_sr rfl (fun K hK => ?_)
  refine sv2 hF (v_assign rfl) (v_assign rfl) rfl rfl ?_; clear hF a; intro a hF
  refine WL_nil (hK _ _ ?_)
  clear hK K
  replace hF := hF.sub _ (c_ 7 rfl (c_ 6 rfl (c_ 0 rfl (c_ 1 rfl (c_ 2 rfl (n_))))))
  refine W_ret ?_
  refine ⟨_, _, _, hF, rfl, rfl, ?_⟩
  exact ⟨.inl ⟨by unfold fitB; rw [← hpa]; cases pa_ <;> first | (exfalso; simp_all; done) | rfl | (rw [decide_eq_false (by omega)]; rfl), rfl⟩, hS⟩
 ·
  clear hF a; intro hc1 a hF
  try simp only [dcl] at hc1
  refine sv hF (v_move rfl) rfl ?_; clear hF a; intro a hF
  refine svg hF rfl ?_
  refine sv hF (v_move rfl) rfl ?_; clear hF a; intro a hF
  refine svg hF rfl ?_
  refine sb hF (v_lss rfl rfl) rfl ?_ ?_
  ·
   clear hF a; intro hc2 a hF
   try simp only [dcl] at hc2
   refine sv2 hF (v_pickF rfl rfl) (v_move rfl) rfl rfl ?_; clear hF a; intro a hF
   refine svn hF rfl rfl rfl ?_; clear hF a; intro a hF
   refine svn hF rfl rfl rfl ?_; clear hF a; intro a hF
   refine sv2 hF (v_pickT rfl rfl) (v_move rfl) rfl rfl ?_; clear hF a; intro a hF
   refine svn hF rfl rfl rfl ?_; clear hF a; intro a hF
   refine svn hF rfl rfl rfl ?_; clear hF a; intro a hF
   refine sv2 hF (v_pickT rfl rfl) (v_move rfl) rfl rfl ?_; clear hF a; intro a hF
   refine svn hF rfl rfl rfl ?_; clear hF a; intro a hF
   refine svn hF rfl rfl rfl ?_; clear hF a; intro a hF
   refine sv2 hF (v_pickT rfl rfl) (v_move rfl) rfl rfl ?_; clear hF a; intro a hF
   refine svn hF rfl rfl rfl ?_; clear hF a; intro a hF
   refine svn hF rfl rfl rfl ?_; clear hF a; intro a hF
   refine svn hF rfl rfl rfl ?_; clear hF a; intro a hF
   refine svn hF rfl rfl rfl ?_; clear hF a; intro a hF
   refine sv hF (v_pickT rfl rfl) rfl ?_; clear hF a; intro a hF
   refine WL_nil (hK _ _ ?_)
   clear hK K
   replace hF := hF.sub _ (c_ 36 rfl (c_ 7 rfl (c_ 6 rfl (c_ 0 rfl (c_ 1 rfl (c_ 2 rfl (n_)))))))
   refine W_ifT hF rfl ?_
   refine W_sr rfl (fun K hK => ?_)
   refine sv2 hF (v_assign rfl) (v_assign rfl) rfl rfl ?_; clear hF a; intro a hF
   refine WL_nil (hK _ _ ?_)
   clear hK K
   replace hF := hF.sub _ (c_ 7 rfl (c_ 6 rfl (c_ 0 rfl (c_ 1 rfl (c_ 2 rfl (n_))))))
   refine W_ret ?_
   refine ⟨_, _, _, hF, rfl, rfl, ?_⟩
   exact ⟨.inl ⟨by unfold fitB; rw [← hpa]; cases pa_ <;> first | (exfalso; simp_all; done) | rfl | (rw [decide_eq_false (by omega)]; rfl), rfl⟩, hS⟩
  ·
   clear hF a; intro hc2 a hF
   try simp only [dcl] at hc2
   refine sv2 hF (v_pickF rfl rfl) (v_move rfl) rfl rfl ?_; clear hF a; intro a hF
   refine svg hF rfl ?_
   refine sv hF (v_move rfl) rfl ?_; clear hF a; intro a hF
   refine svg hF rfl ?_
   refine sb hF (v_lss rfl rfl) rfl ?_ ?_
   ·
    clear hF a; intro hc3 a hF
    try simp only [dcl] at hc3
    refine sv2 hF (v_pickF rfl rfl) (v_move rfl) rfl rfl ?_; clear hF a; intro a hF
    refine svn hF rfl rfl rfl ?_; clear hF a; intro a hF
    refine svn hF rfl rfl rfl ?_; clear hF a; intro a hF
    refine sv2 hF (v_pickT rfl rfl) (v_move rfl) rfl rfl ?_; clear hF a; intro a hF
    refine svn hF rfl rfl rfl ?_; clear hF a; intro a hF
    refine svn hF rfl rfl rfl ?_; clear hF a; intro a hF
    refine sv2 hF (v_pickT rfl rfl) (v_move rfl) rfl rfl ?_; clear hF a; intro a hF
    refine svn hF rfl rfl rfl ?_; clear hF a; intro a hF
    refine svn hF rfl rfl rfl ?_; clear hF a; intro a hF
    refine svn hF rfl rfl rfl ?_; clear hF a; intro a hF
    refine svn hF rfl rfl rfl ?_; clear hF a; intro a hF
    refine sv hF (v_pickT rfl rfl) rfl ?_; clear hF a; intro a hF
    refine WL_nil (hK _ _ ?_)
    clear hK K
    replace hF := hF.sub _ (c_ 36 rfl (c_ 7 rfl (c_ 6 rfl (c_ 0 rfl (c_ 1 rfl (c_ 2 rfl (n_)))))))
    refine W_ifT hF rfl ?_
    refine W_sr rfl (fun K hK => ?_)
    refine sv2 hF (v_assign rfl) (v_assign rfl) rfl rfl ?_; clear hF a; intro a hF
    refine WL_nil (hK _ _ ?_)
    clear hK K
    replace hF := hF.sub _ (c_ 7 rfl (c_ 6 rfl (c_ 0 rfl (c_ 1 rfl (c_ 2 rfl (n_))))))
    refine W_ret ?_
    refine ⟨_, _, _, hF, rfl, rfl, ?_⟩
    exact ⟨.inl ⟨by unfold fitB; rw [← hpa]; cases pa_ <;> first | (exfalso; simp_all; done) | rfl | (rw [decide_eq_false (by omega)]; rfl), rfl⟩, hS⟩
   ·
    clear hF a; intro hc3 a hF
    try simp only [dcl] at hc3
    refine sv2 hF (v_pickF rfl rfl) (v_move rfl) rfl rfl ?_; clear hF a; intro a hF
    refine svg hF rfl ?_
    refine sv hF (v_move rfl) rfl ?_; clear hF a; intro a hF
    refine svg hF rfl ?_
    refine sb hF (v_geq rfl rfl) rfl ?_ ?_
    ·
     clear hF a; intro hc4 a hF
     try simp only [dcl] at hc4
     refine sv2 hF (v_pickF rfl rfl) (v_move rfl) rfl rfl ?_; clear hF a; intro a hF
     refine svn hF rfl rfl rfl ?_; clear hF a; intro a hF
     refine svn hF rfl rfl rfl ?_; clear hF a; intro a hF
     refine sv2 hF (v_pickT rfl rfl) (v_move rfl) rfl rfl ?_; clear hF a; intro a hF
     refine svn hF rfl rfl rfl ?_; clear hF a; intro a hF
     refine svn hF rfl rfl rfl ?_; clear hF a; intro a hF
     refine svn hF rfl rfl rfl ?_; clear hF a; intro a hF
     refine svn hF rfl rfl rfl ?_; clear hF a; intro a hF
     refine sv hF (v_pickT rfl rfl) rfl ?_; clear hF a; intro a hF
     refine WL_nil (hK _ _ ?_)
     clear hK K
     replace hF := hF.sub _ (c_ 36 rfl (c_ 7 rfl (c_ 6 rfl (c_ 0 rfl (c_ 1 rfl (c_ 2 rfl (n_)))))))
     refine W_ifT hF rfl ?_
     refine W_sr rfl (fun K hK => ?_)
     refine sv2 hF (v_assign rfl) (v_assign rfl) rfl rfl ?_; clear hF a; intro a hF
     refine WL_nil (hK _ _ ?_)
     clear hK K
     replace hF := hF.sub _ (c_ 7 rfl (c_ 6 rfl (c_ 0 rfl (c_ 1 rfl (c_ 2 rfl (n_))))))
     refine W_ret ?_
     refine ⟨_, _, _, hF, rfl, rfl, ?_⟩
     exact ⟨.inl ⟨by unfold fitB; rw [← hpa]; cases pa_ <;> first | (exfalso; simp_all; done) | rfl | (rw [decide_eq_false (by omega)]; rfl), rfl⟩, hS⟩
    ·
     clear hF a; intro hc4 a hF
     try simp only [dcl] at hc4
     refine sv2 hF (v_pickF rfl rfl) (v_move rfl) rfl rfl ?_; clear hF a; intro a hF
     refine svg hF rfl ?_
     refine sv hF (v_move rfl) rfl ?_; clear hF a; intro a hF
     refine svg hF rfl ?_
     refine sb hF (v_geq rfl rfl) rfl ?_ ?_
     ·
      clear hF a; intro hc5 a hF
      try simp only [dcl] at hc5
      refine sv2 hF (v_pickF rfl rfl) (v_move rfl) rfl rfl ?_; clear hF a; intro a hF
      refine svn hF rfl rfl rfl ?_; clear hF a; intro a hF
      refine svn hF rfl rfl rfl ?_; clear hF a; intro a hF
      refine svn hF rfl rfl rfl ?_; clear hF a; intro a hF
      refine svn hF rfl rfl rfl ?_; clear hF a; intro a hF
      refine sv hF (v_pickT rfl rfl) rfl ?_; clear hF a; intro a hF
      refine WL_nil (hK _ _ ?_)
      clear hK K
      replace hF := hF.sub _ (c_ 36 rfl (c_ 7 rfl (c_ 6 rfl (c_ 0 rfl (c_ 1 rfl (c_ 2 rfl (n_)))))))
      refine W_ifT hF rfl ?_
      refine W_sr rfl (fun K hK => ?_)
      refine sv2 hF (v_assign rfl) (v_assign rfl) rfl rfl ?_; clear hF a; intro a hF
      refine WL_nil (hK _ _ ?_)
      clear hK K
      replace hF := hF.sub _ (c_ 7 rfl (c_ 6 rfl (c_ 0 rfl (c_ 1 rfl (c_ 2 rfl (n_))))))
      refine W_ret ?_
      refine ⟨_, _, _, hF, rfl, rfl, ?_⟩
      exact ⟨.inl ⟨by unfold fitB; rw [← hpa]; cases pa_ <;> first | (exfalso; simp_all; done) | rfl | (rw [decide_eq_false (by omega)]; rfl), rfl⟩, hS⟩
     ·
      clear hF a; intro hc5 a hF
      try simp only [dcl] at hc5
      refine sv2 hF (v_pickF rfl rfl) (v_move rfl) rfl rfl ?_; clear hF a; intro a hF
      refine svg hF rfl ?_
      refine sv hF (v_move rfl) rfl ?_; clear hF a; intro a hF
      refine svg hF rfl ?_
      refine sv hF (v_move rfl) rfl ?_; clear hF a; intro a hF
      refine svg hF rfl ?_
      refine sv hF (v_addI rfl rfl (by omega)) rfl ?_; clear hF a; intro a hF
      refine svg hF rfl ?_
      refine sv hF (v_gtr rfl rfl) rfl ?_; clear hF a; intro a hF
      refine sv hF (v_pickF rfl rfl) rfl ?_; clear hF a; intro a hF
      refine WL_nil (hK _ _ ?_)
      clear hK K
      replace hF := hF.sub _ (c_ 36 rfl (c_ 7 rfl (c_ 6 rfl (c_ 0 rfl (c_ 1 rfl (c_ 2 rfl (n_)))))))
      refine W_if hF rfl (fun hc6 => ?_) (fun hc6 => ?_)
      ·
       skip
       try simp only [dcl] at hc6
       refine W_sr rfl (fun K hK => ?_)
       refine sv2 hF (v_assign rfl) (v_assign rfl) rfl rfl ?_; clear hF a; intro a hF
       refine WL_nil (hK _ _ ?_)
       clear hK K
       replace hF := hF.sub _ (c_ 7 rfl (c_ 6 rfl (c_ 0 rfl (c_ 1 rfl (c_ 2 rfl (n_))))))
       refine W_ret ?_
       refine ⟨_, _, _, hF, rfl, rfl, ?_⟩
       exact ⟨.inl ⟨by unfold fitB; rw [← hpa]; cases pa_ <;> first | (exfalso; simp_all; done) | rfl | (rw [decide_eq_false (by omega)]; rfl), rfl⟩, hS⟩
      ·
       skip
       try simp only [dcl] at hc6
       have hb : fitB o k m = true := by unfold fitB; rw [← hpa]; cases pa_ <;> first | (exfalso; simp_all; done) | (rw [decide_eq_true (by omega)]; rfl)
       obtain ⟨-, hb2⟩ := fitB_iff.1 hb
       obtain ⟨kn, rfl⟩ : ∃ n : Nat, k = (n : Int) := ⟨k.toNat, by omega⟩
       obtain ⟨mn, rfl⟩ : ∃ n : Nat, m = (n : Int) := ⟨m.toNat, by omega⟩
       refine W_skip ?_
       refine W_sr rfl (fun K hK => ?_)
       refine sv hF (v_assign rfl) rfl ?_; clear hF a; intro a hF
       refine WL_nil (hK _ _ ?_)
       clear hK K
       replace hF := hF.sub _ (c_ 8 rfl (c_ 7 rfl (c_ 6 rfl (c_ 0 rfl (c_ 1 rfl (c_ 2 rfl (n_)))))))
       refine W_seq ?_
       refine W_sr rfl (fun K hK => ?_)
       refine sv2 hF (v_move rfl) (v_move rfl) rfl rfl ?_; clear hF a; intro a hF
       refine sv hF ((v_addI rfl rfl (by omega)).as (show Value.int .i64 ((kn : Int) + (mn : Int)) = .int .i64 ((kn + mn : Nat) : Int) by simp)) rfl ?_; clear hF a; intro a hF
       refine sv hF ((v_subI rfl rfl (by omega)).as (show Value.int .i64 (((kn + mn : Nat) : Int) - 1) = .int .i64 ((kn + mn - 1 : Nat) : Int) by congr 1; omega)) rfl ?_; clear hF a; intro a hF
       refine sv hF (v_move rfl) rfl ?_; clear hF a; intro a hF
       refine WL_nil (hK _ _ ?_)
       clear hK K
       replace hF := hF.sub _ (c_ 41 rfl (c_ 40 rfl (c_ 8 rfl (c_ 7 rfl (c_ 6 rfl (c_ 0 rfl (c_ 1 rfl (n_))))))))
       refine W_block ?_
       refine W_loop (fun q a w1 => ∃ (i : Nat) (v8 : Value) (b8 : Option Nat) (bs rc : Nat → Nat), Fr 71 [(0, .pointer pa_), (1, .int .i64 (kn : Int)), (8, v8), (40, .int .i64 ((kn + mn - 1 : Nat) : Int)), (41, .int .i64 (i : Int))] a ∧ (St FDx B w w1) ∧ (Fo FDx B w1 (.pointer pa_) o) ∧ (Gam.Own FDx B w.heap.size w1 37 v8 b8 (vls i kn bs rc)) ∧ (Wr FDx B w.heap.size w1.heap.size w1 i kn bs rc (extT o kn mn)) ∧ (i ≤ kn + mn - 1) ∧ (q + i = kn + mn - 1)) (kn + mn - 1) ?_ ?_
       ·
        skip
        exact ⟨0, _, none, id, id, hF.sub _ (c_ 0 rfl (c_ 1 rfl (c_ 8 rfl (c_ 40 rfl (c_ 41 rfl (n_)))))), hS, hf, Gam.Own.nil _ _ _ _ _, Wr.nil, by omega, by omega⟩
       ·
        skip
        clear hF
        clear hS hf
        rintro q a w1 ⟨i, v8, b8, bs, rc, hF, hS, hf, hO, hW, hi, hq⟩
        obtain ⟨KM, hKe⟩ : ∃ KM, KM = w1.heap.size := ⟨_, rfl⟩
        rw [← hKe] at hW
        have hKs : KM ≤ w1.heap.size := by omega
        have hNK : w.heap.size ≤ KM := by have := hS.ext.size; omega
        clear hKe
        refine W_sr rfl (fun K hK => ?_)
        refine sv hF (v_lss rfl rfl) rfl ?_; clear hF a; intro a hF
        refine WL_nil (hK _ _ ?_)
        clear hK K
        refine W_seq ?_
        refine W_if hF rfl (fun hc7 => ?_) (fun hc7 => ?_)
        ·
         skip
         try simp only [dcl] at hc7
         have hlt : i < kn + mn - 1 := by omega
         refine W_skip ?_
         refine W_seq ?_
         refine W_block ?_
         refine W_sr rfl (fun K hK => ?_)
         refine sv2 hF (v_move rfl) (v_assign rfl) rfl rfl ?_; clear hF a; intro a hF
         refine WL_nil (hK _ _ ?_)
         clear hK K
         replace hF := hF.sub _ (c_ 9 rfl (c_ 0 rfl (c_ 1 rfl (c_ 8 rfl (c_ 40 rfl (c_ 41 rfl (n_)))))))
         refine W_sr rfl (fun K hK => ?_)
         refine sv hF (v_assign rfl) rfl ?_; clear hF a; intro a hF
         refine WL_nil (hK _ _ ?_)
         clear hK K
         refine W_seq ?_
         refine W_sr rfl (fun K hK => ?_)
         refine sv2 hF (v_move rfl) (v_move rfl) rfl rfl ?_; clear hF a; intro a hF
         refine WL_nil (hK _ _ ?_)
         clear hK K
         refine W_block ?_
         refine W_loop (fun q2 a w2 => ∃ (j : Nat) (v10 : Value) (b10 : Option Nat), Fr 71 [(0, .pointer pa_), (1, .int .i64 (kn : Int)), (8, v8), (9, .int .i64 (i : Int)), (10, v10), (40, .int .i64 ((kn + mn - 1 : Nat) : Int)), (41, .int .i64 (i : Int)), (44, .int .i64 (kn : Int)), (45, .int .i64 (j : Int))] a ∧ (St FDx B w w2) ∧ (Fo FDx B w2 (.pointer pa_) o) ∧ (Gam.Own FDx B w.heap.size w2 37 v8 b8 (vls i kn bs rc)) ∧ (Wr FDx B w.heap.size KM w2 i kn bs rc (extT o kn mn)) ∧ (KM ≤ w2.heap.size) ∧ (Gam.Own FDx B KM w2 FDx.E v10 b10 (zints ((List.range j).map fun j => ((extT o kn mn i j : Nat) : Int)))) ∧ (j ≤ kn) ∧ (q2 + j = kn)) (kn) ?_ ?_
         ·
          skip
          exact ⟨0, _, none, hF.sub _ (c_ 0 rfl (c_ 1 rfl (c_ 8 rfl (c_ 9 rfl (c_ 10 rfl (c_ 40 rfl (c_ 41 rfl (c_ 44 rfl (c_ 45 rfl (n_)))))))))), hS, hf, hO, hW, hKs, Gam.Own.nil _ _ _ _ _, by omega, by omega⟩
         ·
          skip
          clear hF
          clear hS hf hO hW hKs
          rintro q2 a w2 ⟨j, v10, b10, hF, hS, hf, hO, hW, hKs, hC, hj, hq2⟩
          refine W_sr rfl (fun K hK => ?_)
          refine sv hF (v_lss rfl rfl) rfl ?_; clear hF a; intro a hF
          refine WL_nil (hK _ _ ?_)
          clear hK K
          refine W_seq ?_
          refine W_if hF rfl (fun hc8 => ?_) (fun hc8 => ?_)
          ·
           skip
           try simp only [dcl] at hc8
           have hlt2 : j < kn := by omega
           refine W_skip ?_
           refine W_seq ?_
           refine W_block ?_
           refine W_sr rfl (fun K hK => ?_)
           refine sv2 hF (v_move rfl) (v_assign rfl) rfl rfl ?_; clear hF a; intro a hF
           refine WL_nil (hK _ _ ?_)
           clear hK K
           replace hF := hF.sub _ (c_ 11 rfl (c_ 0 rfl (c_ 1 rfl (c_ 8 rfl (c_ 9 rfl (c_ 10 rfl (c_ 40 rfl (c_ 41 rfl (c_ 44 rfl (c_ 45 rfl (n_)))))))))))
           refine W_reg rfl (fun K hK => ?_)
           refine sv4 hF (v_move rfl) (v_move rfl) (v_move rfl) (v_move rfl) rfl rfl rfl rfl ?_; clear hF a; intro a hF
           refine sc hF rfl rfl rfl en42 rfl (Pow_gf B o _ (i : Int) (j : Int) _ hS.inv hf (by omega)) ?_; clear hF a; intro v w' a hv hF
           obtain ⟨rfl, hS'⟩ := hv
           replace hf := hf.st hS'
           replace hO := hO.st (by decide) hS'
           replace hW := hW.st hS'
           replace hKs := Nat.le_trans hKs hS'.ext.size
           replace hC := hC.st (by decide) hS'
           replace hS := hS.trans hS'
           clear hS'
           rw [← ext_cell hprm (k := kn) (m := mn) (j := j) hlt] at hF
           refine s_bs (D := FDx) (B := B) hF sl37 rfl rfl (by decide) (by simp [Value.cells]) (by decide) hS.inv rfl ?_; clear hF a; intro w' a hm hI' hL hF
           replace hf := hf.mb hm
           replace hO := hO.mb hm (fun _ _ => by simp)
           replace hW := hW.mb0 hm
           replace hKs := Nat.le_trans hKs hm.size
           replace hC := hC.mb hm (fun _ _ => by simp)
           replace hS := hS.mb0 hm
           clear hm hI'
           refine s_app (D := FDx) (B := B) hF rfl sl37 rfl rfl hC (hL.row (by decide)) (by simp [Value.oneCell']) (by simp; omega) (by simp [maxLen]; omega) (hKs) (by decide) hS.inv rfl ?_; clear hF a; intro v' b' w' a ho' hm hI' hb' hF
           replace hf := hf.mb hm
           replace hO := hO.mb hm (hO.ne_type hC (by decide))
           replace hW := hW.mbx hm (fun k e => (hC.lt k e).1)
           replace hKs := Nat.le_trans hKs hm.size
           replace hS := hS.mb hm (fun k h => Nat.le_trans (hNK) (hC.lt k h).1)
           replace hC := ho'
           clear hm hI' ho'
           clear hL
           refine sv hF (v_assign rfl) rfl ?_; clear hF a; intro a hF
           refine WL_nil (hK _ _ ?_)
           clear hK K
           replace hF := hF.sub _ (c_ 10 rfl (c_ 0 rfl (c_ 1 rfl (c_ 8 rfl (c_ 9 rfl (c_ 40 rfl (c_ 41 rfl (c_ 44 rfl (c_ 45 rfl (n_))))))))))
           refine W_reg rfl (fun K hK => ?_)
           refine sv hF (v_addI rfl rfl (by omega)) rfl ?_; clear hF a; intro a hF
           refine sv hF (v_move rfl) rfl ?_; clear hF a; intro a hF
           refine WL_nil (hK _ _ ?_)
           clear hK K
           exact ⟨q2 - 1, by omega, j + 1, _, _, hF.sub _ (c_ 0 rfl (c_ 1 rfl (c_ 8 rfl (c_ 9 rfl (c_ 10 rfl (c_ 40 rfl (c_ 41 rfl (c_ 44 rfl (c_ 45 rfl (n_)))))))))), hS, hf, hO, hW, hKs, hC.cast (by rw [List.range_succ, List.map_append]; simp [zints]), by omega, by omega⟩
          ·
           skip
           try simp only [dcl] at hc8
           obtain rfl : j = kn := by omega
           obtain ⟨gx, cx, rfl, rfl⟩ := hC.ptr (by simp; omega)
           rw [zints_length, List.length_map, List.length_range] at hC hF
           have hvl := vls_length i j bs rc
           refine W_exit rfl ?_
           refine W_reg rfl (fun K hK => ?_)
           refine sv2 hF (v_move rfl) (v_move rfl) rfl rfl ?_; clear hF a; intro a hF
           refine s_bs (D := FDx) (B := B) hF sl28 rfl rfl (by decide) (by simp [Value.cells]) (by decide) hS.inv rfl ?_; clear hF a; intro w' a hm hI' hL hF
           replace hf := hf.mb hm
           replace hO := hO.mb hm (fun _ _ => by simp)
           replace hW := hW.mb0 hm
           replace hKs := Nat.le_trans hKs hm.size
           replace hC := hC.mb hm (fun _ _ => by simp)
           replace hS := hS.mb0 hm
           clear hm hI'
           refine s_app (D := FDx) (B := B) hF rfl sl28 rfl rfl hO (hL.row (by decide)) (by simp [Value.oneCell']) (by rw [vls_length]; simp; omega) (by rw [vls_length]; simp [maxLen]; omega) (hS.ext.size) (by decide) hS.inv rfl ?_; clear hF a; intro v' b' w' a ho' hm hI' hb' hF
           replace hf := hf.mb hm
           replace hW := hW.mbo hm hO (by decide)
           replace hKs := Nat.le_trans hKs hm.size
           replace hC := hC.mb hm (hC.ne_type hO (by decide))
           replace hS := hS.mb hm (fun k h => Nat.le_trans (Nat.le_refl _) (hO.lt k h).1)
           replace hO := ho'
           clear hm hI' ho'
           clear hL
           refine sv hF (v_assign rfl) rfl ?_; clear hF a; intro a hF
           refine WL_nil (hK _ _ ?_)
           clear hK K
           replace hF := hF.sub _ (c_ 8 rfl (c_ 59 rfl (c_ 58 rfl (c_ 57 rfl (c_ 56 rfl (c_ 0 rfl (c_ 1 rfl (c_ 9 rfl (c_ 10 rfl (c_ 40 rfl (c_ 41 rfl (c_ 44 rfl (c_ 45 rfl (n_))))))))))))))
           refine W_reg rfl (fun K hK => ?_)
           refine sv hF (v_addI rfl rfl (by omega)) rfl ?_; clear hF a; intro a hF
           refine sv hF (v_move rfl) rfl ?_; clear hF a; intro a hF
           refine WL_nil (hK _ _ ?_)
           clear hK K
           exact ⟨q - 1, by omega, i + 1, _, _, _, _, hF.sub _ (c_ 0 rfl (c_ 1 rfl (c_ 8 rfl (c_ 40 rfl (c_ 41 rfl (n_)))))), hS, hf, hO.cast vls_snoc.symm, hW.snoc (hC.le hNK) ((hC.lt _ rfl).1), by omega, by omega⟩
        ·
         skip
         try simp only [dcl] at hc7
         refine W_exit rfl ?_
         obtain rfl : i = kn + mn - 1 := by omega
         refine W_sr rfl (fun K hK => ?_)
         refine sv hF (v_move rfl) rfl ?_; clear hF a; intro a hF
         have hKs0 := hKs
         refine s_mk (D := FDx) (B := B) (m := kn) hF sl37 rfl rfl (by simp) (by omega) (by simp only [maxLen]; omega) (by decide) hS.inv rfl ?_; clear hF a; intro w' a hm hI' hC hF
         replace hf := hf.mb hm
         replace hO := hO.mb hm (fun _ _ => by simp)
         replace hW := hW.mb0 hm
         replace hKs := Nat.le_trans hKs hm.size
         replace hS := hS.mb0 hm
         clear hm hI'
         replace hC := hC.le hKs0
         clear hKs0
         refine sv hF (v_assign rfl) rfl ?_; clear hF a; intro a hF
         refine WL_nil (hK _ _ ?_)
         clear hK K
         replace hF := hF.sub _ (c_ 12 rfl (c_ 62 rfl (c_ 61 rfl (c_ 0 rfl (c_ 1 rfl (c_ 8 rfl (c_ 40 rfl (c_ 41 rfl (n_)))))))))
         refine W_sr rfl (fun K hK => ?_)
         refine sv2 hF (v_move rfl) (v_move rfl) rfl rfl ?_; clear hF a; intro a hF
         refine sv hF ((v_subI rfl rfl (by omega)).as (show Value.int .i64 ((kn : Int) - 1) = .int .i64 ((kn - 1 : Nat) : Int) by congr 1; omega)) rfl ?_; clear hF a; intro a hF
         refine sv hF (v_ixS sl37 rfl rfl (by omega) (by omega)) rfl ?_; clear hF a; intro a hF
         refine s_set (D := FDx) (B := B) hF on3 rfl (by rw [toNat_c]; simp; omega) rfl rfl hC (by decide) hS.inv ?_; intro w' hm hI' ho'
         replace hf := hf.mb hm
         replace hO := hO.mb hm (hO.ne_type hC (by decide))
         replace hW := hW.mbx hm (fun k e => (hC.lt k e).1)
         replace hKs := Nat.le_trans hKs hm.size
         replace hS := hS.mb hm (fun k h => Nat.le_trans (hNK) (hC.lt k h).1)
         replace hC := ho'
         clear hm hI' ho'
         rw [toNat_c, Nat.zero_add, ext_last (o := o) (m := mn) (by omega)] at hC
         refine WL_nil (hK _ _ ?_)
         clear hK K
         refine W_sr rfl (fun K hK => ?_)
         refine sv2 hF (v_move rfl) (v_move rfl) rfl rfl ?_; clear hF a; intro a hF
         refine s_bs (D := FDx) (B := B) hF sl28 rfl rfl (by decide) (by simp [Value.cells]) (by decide) hS.inv rfl ?_; clear hF a; intro w' a hm hI' hL hF
         replace hf := hf.mb hm
         replace hO := hO.mb hm (fun _ _ => by simp)
         replace hW := hW.mb0 hm
         replace hKs := Nat.le_trans hKs hm.size
         replace hC := hC.mb hm (fun _ _ => by simp)
         replace hS := hS.mb0 hm
         clear hm hI'
         refine s_app (D := FDx) (B := B) hF rfl sl28 rfl rfl hO (hL.row (by decide)) (by simp [Value.oneCell']) (by rw [vls_length]; simp; omega) (by rw [vls_length]; simp [maxLen]; omega) (hS.ext.size) (by decide) hS.inv rfl ?_; clear hF a; intro v' b' w' a ho' hm hI' hb' hF
         replace hf := hf.mb hm
         replace hW := hW.mbo hm hO (by decide)
         replace hKs := Nat.le_trans hKs hm.size
         replace hC := hC.mb hm (hC.ne_type hO (by decide))
         replace hS := hS.mb hm (fun k h => Nat.le_trans (Nat.le_refl _) (hO.lt k h).1)
         replace hO := ho'
         clear hm hI' ho'
         clear hL
         refine sv2 hF (v_assign rfl) (v_assign rfl) rfl rfl ?_; clear hF a; intro a hF
         refine WL_nil (hK _ _ ?_)
         clear hK K
         refine W_ret ?_
         refine ⟨_, _, _, hF, rfl, rfl, ?_⟩
         have hO2 := hO.cast vls_snoc.symm
         have hW2 := hW.snoc (hC.le hNK) ((hC.lt _ rfl).1)
         rw [show kn + mn - 1 + 1 = kn + mn by omega] at hO2 hW2
         obtain ⟨g, cap, rfl, rfl⟩ := hO2.ptr (by simp; omega)
         rw [vls_length] at hO2
         rw [vls_length, show ((kn : Int) + (mn : Int)).toNat = kn + mn by omega]
         simp only [Int.toNat_natCast]
         exact ⟨.inr ⟨hb, g, cap, _, _, rfl, hO2, hW2⟩, hS⟩

end Go.Proofs.Ytaeljbdpjiciaaa

/- The walks of package jvan: columns. -/
set_option linter.unusedVariables false
set_option linter.unusedSimpArgs false
namespace Go.Proofs.Ytaeljbdpjiciaaa
open Go Go.Gam


namespace FxFJvb
theorem en29 : Ent Try.prog 29 := ent Try.func29 (by kernel_rfl) (by kernel_rfl)
theorem fa65_0 : FieldFact Try.prog 65 0 0 := ff_of (sz := 0) Try.underlying65 (by kernel_rfl)
theorem fa65_1 : FieldFact Try.prog 65 1 1 := ff_of (sz := 0) Try.underlying65 (by kernel_rfl)
theorem hmix : Try.prog.follows .mixedOrders = true := by kernel_rfl
theorem on3 : Gam.One Try.prog 3 := by unfold Gam.One; kernel_rfl
theorem sc23 : Scalar Try.prog 23 := ⟨_, Try.underlying23, by simp, by simp⟩
theorem sc28 : Scalar Try.prog 28 := ⟨_, Try.underlying28, by simp, by simp⟩
theorem sc3 : Scalar Try.prog 3 := ⟨_, Try.underlying3, by simp, by simp⟩
theorem sc37 : Scalar Try.prog 37 := ⟨_, Try.underlying37, by simp, by simp⟩
theorem sl28 : Sl Try.prog 28 37 (.slice none 0 0) 24 := sl_of Try.underlying28 rfl (by kernel_rfl)
theorem sl37 : Sl Try.prog 37 3 (.int .i64 0) 8 := sl_of Try.underlying37 rfl (by kernel_rfl)
end FxFJvb
open FxFJvb

set_option maxRecDepth 100000 in
set_option maxHeartbeats 1000000 in
theorem scale_ok (B N KM wb p : Nat) (hp : Prm wb p) (fv : Value) (g cap n k : Nat) (bs rc : Nat → Nat) (f : Tb) (fr j c : Nat) (w : World) (hI : Inv FDx B w) (hf : Fo FDx B w fv (some (wb, p))) (hO : Gam.Own FDx B N w 37 (.slice (some ⟨g, 0, none⟩) n cap) (some g) (vls n k bs rc)) (hW : Wr FDx B N KM w n k bs rc (f)) (hKM : KM ≤ w.heap.size) (hNM : N ≤ KM) (hfb : hp.fld.Bd f) (hnk : n ≤ 20 ∧ k ≤ 20) (hfr : fr < n) (hj : j < k) (hc : c < 2 ^ wb) : Ret Try.prog 47 [.agg #[fv, .slice (some ⟨g, 0, none⟩) n cap], .int .i64 (fr : Int), .int .i64 (j : Int), .int .i64 (c : Int)] w fun v w' => v = .tuple #[] ∧ Gam.Own FDx B N w' 37 (.slice (some ⟨g, 0, none⟩) n cap) (some g) (vls n k bs rc) ∧ Wr FDx B N KM w' n k bs rc (hp.fld.scC fr j c n f) ∧ StZ FDx B (fun x => N ≤ x ∧ x < KM) w w' := by
 refine enter0 31 [(0, .agg #[fv, .slice (some ⟨g, 0, none⟩) n cap]), (1, .int .i64 (fr : Int)), (2, .int .i64 (j : Int)), (3, .int .i64 (c : Int))]  Try.func47 rfl rfl rfl rfl rfl ?_; intro a hF
 have hS := StZ.refl (Z := (fun x => N ≤ x ∧ x < KM)) hI
 have hfw := hp.fld_w
 have h16 : 2 ^ wb ≤ 65536 := by rcases hp.w with h | h <;> rw [h] <;> decide
 refine W_sr rfl (fun K hK => ?_)
 obtain ⟨gr, hgr⟩ : ∃ x, x = w.heap.size := ⟨_, rfl⟩
 have hKgr : KM ≤ gr := by omega
 refine s_box (D := FDx) (B := B) hF rfl (by decide) hS.inv rfl ?_; clear hF a; intro w' a hm hbx hsz hF
 replace hf := hf.mb hm
 replace hO := hO.mb hm (fun _ _ => by simp)
 replace hW := hW.mb0 hm
 replace hS := hS.mb0 hm
 clear hm
 rw [← hgr] at hbx hF
 refine WL_nil (hK _ _ ?_)
 clear hK K
 replace hF := hF.sub _ (c_ 4 rfl (c_ 1 rfl (c_ 2 rfl (c_ 3 rfl (n_)))))
 refine W_sr rfl (fun K hK => ?_)
 refine sv hF (v_fieldAddr fa65_1 rfl) rfl ?_; clear hF a; intro a hF
 refine sv hF (v_load sc28 rfl (hbx.at 1 rfl)) rfl ?_; clear hF a; intro a hF
 refine sv hF (v_move rfl) rfl ?_; clear hF a; intro a hF
 have hcap := (hO.row (by decide)).capd
 have hvl := vls_length n k bs rc
 refine sv hF (v_slLo sl28 rfl rfl (by omega) (by omega)) rfl ?_; clear hF a; intro a hF
 refine sv hF (v_lenS rfl sl28 rfl) rfl ?_; clear hF a; intro a hF
 refine sv hF (v_move rfl) rfl ?_; clear hF a; intro a hF
 refine WL_nil (hK _ _ ?_)
 clear hK K
 replace hF := hF.sub _ (c_ 15 rfl (c_ 14 rfl (c_ 13 rfl (c_ 4 rfl (c_ 2 rfl (c_ 3 rfl (n_)))))))
 refine W_block ?_
 refine W_loop (fun q a w1 => ∃ (l : Nat), Fr 31 [(2, .int .i64 (j : Int)), (3, .int .i64 (c : Int)), (4, .pointer (some ⟨gr, 0, none⟩)), (13, .slice (slA (some ⟨g, 0, none⟩) fr cap) (n - fr) (cap - fr)), (14, .int .i64 ((n - fr : Nat) : Int)), (15, .int .i64 (l : Int))] a ∧ (StZ FDx B (fun x => N ≤ x ∧ x < KM) w w1) ∧ (Fo FDx B w1 fv (some (wb, p))) ∧ (Blk w1 gr 65 [fv, .slice (some ⟨g, 0, none⟩) n cap]) ∧ (Gam.Own FDx B N w1 37 (.slice (some ⟨g, 0, none⟩) n cap) (some g) (vls n k bs rc)) ∧ (Wr FDx B N KM w1 n k bs rc (hp.fld.scC fr j c (fr + l) f)) ∧ (l ≤ n - fr) ∧ (q + l = n - fr)) (n - fr) ?_ ?_
 ·
  skip
  exact ⟨0, hF.sub _ (c_ 2 rfl (c_ 3 rfl (c_ 4 rfl (c_ 13 rfl (c_ 14 rfl (c_ 15 rfl (n_))))))), hS, hf, hbx, hO, hW.congr (fun a _ b _ => hp.fld.scC_zero.symm), by omega, by omega⟩
 ·
  skip
  clear hF
  clear hS hf hbx hO hW
  rintro q a w1 ⟨l, hF, hS, hf, hbx, hO, hW, hl, hq⟩
  refine W_sr rfl (fun K hK => ?_)
  refine sv hF (v_lss rfl rfl) rfl ?_; clear hF a; intro a hF
  refine WL_nil (hK _ _ ?_)
  clear hK K
  refine W_seq ?_
  refine W_if hF rfl (fun hc1 => ?_) (fun hc1 => ?_)
  ·
   skip
   try simp only [dcl] at hc1
   have hlt : l < n - fr := by omega
   have hx : fr + l < n := by omega
   have hb1 := hp.fld.scC_bd (fr := fr) (j := j) (c := c) (x := fr + l) hfb (fr + l) j
   rw [hfw] at hb1
   have hkr := hO.kc (by decide) (vls_at hx)
   have hsl : slA (some ⟨g, 0, none⟩) fr cap = some ⟨g, 0 + fr, none⟩ := slA_of (by omega)
   rw [hsl] at hF
   refine W_skip ?_
   refine W_seq ?_
   refine W_block ?_
   refine W_sr rfl (fun K hK => ?_)
   refine sv hF (v_ixS sl28 rfl rfl (by omega) (by omega)) rfl ?_; clear hF a; intro a hF
   refine sv hF (v_load sc37 rfl (by rw [toNat_c, Nat.add_assoc]; exact hkr.c)) rfl ?_; clear hF a; intro a hF
   refine sv hF (v_assign rfl) rfl ?_; clear hF a; intro a hF
   refine WL_nil (hK _ _ ?_)
   clear hK K
   replace hF := hF.sub _ (c_ 9 rfl (c_ 2 rfl (c_ 3 rfl (c_ 4 rfl (c_ 13 rfl (c_ 14 rfl (c_ 15 rfl (n_))))))))
   clear hkr
   refine W_dS (fun (w2 : World) => w2.cell? ⟨gr, 0, none⟩ = some fv) (m := 12) rfl hmix (fun K hK => ?_)
   have hS' := St.drew hS.inv
   replace hf := hf.st hS'
   replace hO := hO.st (by decide) hS'
   replace hW := hW.st hS'
   replace hbx := hbx.st (by decide) hS'
   replace hS := hS.trans hS'
   clear hS'
   have hSS : (fun (w2 : World) => w2.cell? ⟨gr, 0, none⟩ = some fv) _ := hbx.at 0 rfl
   refine b_v (i := 0) rfl (by kernel_rfl) hF (fun w2 hx => v_move rfl) rfl hSS ?_; clear hF a; intro a hF
   refine b_v (i := 1) rfl (by kernel_rfl) hF (fun w2 hx => v_move rfl) rfl hSS ?_; clear hF a; intro a hF
   refine b_v (i := 2) rfl (by kernel_rfl) hF (fun w2 hx => v_fieldAddr fa65_0 rfl) rfl hSS ?_; clear hF a; intro a hF
   refine b_v (i := 3) rfl (by kernel_rfl) hF (fun w2 hx => v_load sc23 rfl hx) rfl hSS ?_; clear hF a; intro a hF
   refine b_v (i := 4) rfl (by kernel_rfl) hF (fun w2 hx => v_move rfl) rfl hSS ?_; clear hF a; intro a hF
   refine b_v (i := 5) rfl (by kernel_rfl) hF (fun w2 hx => v_move rfl) rfl hSS ?_; clear hF a; intro a hF
   refine b_v (i := 6) rfl (by kernel_rfl) hF (fun w2 hx => v_ixS sl37 rfl rfl (by omega) (by omega)) rfl hSS ?_; clear hF a; intro a hF
   refine b_v (i := 8) rfl (by kernel_rfl) hF (fun w2 hx => v_move rfl) rfl hSS ?_; clear hF a; intro a hF
   refine b_e (i := 7) (by kernel_rfl) rfl ?_
   refine sv hF (v_load sc3 rfl (by rw [toNat_c]; exact (hW.rd hx hj).c)) rfl ?_; clear hF a; intro a hF
   refine WL_nil ⟨hSS, ?_⟩
   refine b_e (i := 9) (by kernel_rfl) rfl ?_
   refine sc hF rfl rfl rfl en29 rfl (Mul_gf B (some (wb, p)) fv (((hp.fld.scC fr j c (fr + l) f) (fr + l) j : Nat) : Int) (c : Int) _ hS.inv hf) ?_; clear hF a; intro v w' a hv hF
   obtain ⟨rfl, hS'⟩ := hv
   replace hf := hf.st hS'
   replace hO := hO.st (by decide) hS'
   replace hW := hW.st hS'
   replace hbx := hbx.st (by decide) hS'
   replace hS := hS.trans hS'
   clear hS'
   rw [gmul_num hp hb1 hc] at hF
   clear hSS
   have hSS : (fun (w2 : World) => w2.cell? ⟨gr, 0, none⟩ = some fv) _ := hbx.at 0 rfl
   refine WL_nil ⟨hSS, ?_⟩
   refine b_v (i := 10) rfl (by kernel_rfl) hF (fun w2 hx => v_ixS sl37 rfl rfl (by omega) (by omega)) rfl hSS ?_; clear hF a; intro a hF
   refine b_e (i := 11) (by kernel_rfl) rfl ?_
   have hR0 := hW.row _ hx
   have hge := hW.ge hx
   refine s_set (D := FDx) (B := B) hF on3 rfl (by rw [toNat_c, zints_length, trow_length]; omega) rfl rfl hR0 (by decide) hS.inv ?_; intro w' hm hI' ho'
   replace hf := hf.mb hm
   replace hO := hO.mb hm (hO.ne_type hR0 (by decide))
   replace hW := hW.set (g := hp.fld.scC fr j c (fr + l + 1) f) hx hm (ho'.cast (by rw [toNat_c, Nat.zero_add, zints_set, trow_set (g := hp.fld.scC fr j c (fr + l + 1) f)]; intro l hl; exact hp.fld.scC_at (by omega))) (fun a ha hai l hl => (hp.fld.scC_ne hai))
   replace hbx := hbx.mb hm (hW.ne hx hKgr)
   replace hS := hS.mb hm (fun k e => ⟨by cases e; exact ⟨hge.1, hW.lt _ hx⟩, hR0.isrow k e⟩)
   replace hR0 := ho'
   clear hm hI' ho'
   clear hR0 hge
   clear hSS
   have hSS : (fun (w2 : World) => w2.cell? ⟨gr, 0, none⟩ = some fv) _ := hbx.at 0 rfl
   refine WL_nil ⟨hSS, ?_⟩
   refine b_done (by kernel_rfl) (hK _ _ ?_)
   clear hK K
   replace hF := hF.sub _ (c_ 2 rfl (c_ 3 rfl (c_ 4 rfl (c_ 13 rfl (c_ 14 rfl (c_ 15 rfl (n_)))))))
   rw [← hsl] at hF
   refine W_reg rfl (fun K hK => ?_)
   refine sv hF (v_addI rfl rfl (by omega)) rfl ?_; clear hF a; intro a hF
   refine sv hF (v_move rfl) rfl ?_; clear hF a; intro a hF
   refine WL_nil (hK _ _ ?_)
   clear hK K
   exact ⟨q - 1, by omega, l + 1, hF.sub _ (c_ 2 rfl (c_ 3 rfl (c_ 4 rfl (c_ 13 rfl (c_ 14 rfl (c_ 15 rfl (n_))))))), hS, hf, hbx, hO, hW, by omega, by omega⟩
  ·
   skip
   try simp only [dcl] at hc1
   refine W_exit rfl ?_
   refine ⟨_, hF, ?_⟩
   obtain rfl : l = n - fr := by omega
   rw [show fr + (n - fr) = n by omega] at hW
   exact ⟨rfl, hO, hW, hS⟩

set_option maxRecDepth 100000 in
set_option maxHeartbeats 1000000 in
theorem jclear_ok (B N KM wb p : Nat) (hp : Prm wb p) (fv : Value) (g cap n k : Nat) (bs rc : Nat → Nat) (f : Tb) (i : Nat) (w : World) (hI : Inv FDx B w) (hf : Fo FDx B w fv (some (wb, p))) (hO : Gam.Own FDx B N w 37 (.slice (some ⟨g, 0, none⟩) n cap) (some g) (vls n k bs rc)) (hW : Wr FDx B N KM w n k bs rc (f)) (hKM : KM ≤ w.heap.size) (hNM : N ≤ KM) (hfb : hp.fld.Bd f) (hnk : n ≤ 20 ∧ k ≤ 20) (hi : i < k) (hin : i < n) : Ret Try.prog 79 [.agg #[fv, .slice (some ⟨g, 0, none⟩) n cap], .int .i64 (i : Int)] w fun v w' => v = .tuple #[] ∧ Gam.Own FDx B N w' 37 (.slice (some ⟨g, 0, none⟩) n cap) (some g) (vls n k bs rc) ∧ Wr FDx B N KM w' n k bs rc (hp.fld.clC i (k) (0) f) ∧ StZ FDx B (fun x => N ≤ x ∧ x < KM) w w' := by
 refine enter0 49 [(0, .agg #[fv, .slice (some ⟨g, 0, none⟩) n cap]), (1, .int .i64 (i : Int))]  Try.func79 rfl rfl rfl rfl rfl ?_; intro a hF
 have hS := StZ.refl (Z := (fun x => N ≤ x ∧ x < KM)) hI
 have hfw := hp.fld_w
 have h16 : 2 ^ wb ≤ 65536 := by rcases hp.w with h | h <;> rw [h] <;> decide
 refine W_sr rfl (fun K hK => ?_)
 obtain ⟨gr, hgr⟩ : ∃ x, x = w.heap.size := ⟨_, rfl⟩
 have hKgr : KM ≤ gr := by omega
 refine s_box (D := FDx) (B := B) hF rfl (by decide) hS.inv rfl ?_; clear hF a; intro w' a hm hbx hsz hF
 replace hf := hf.mb hm
 replace hO := hO.mb hm (fun _ _ => by simp)
 replace hW := hW.mb0 hm
 replace hS := hS.mb0 hm
 clear hm
 rw [← hgr] at hbx hF
 refine WL_nil (hK _ _ ?_)
 clear hK K
 replace hF := hF.sub _ (c_ 2 rfl (c_ 1 rfl (n_)))
 refine W_sr rfl (fun K hK => ?_)
 have hs0 := hS.ext.size
 refine s_bs (D := FDx) (B := B) hF sl37 rfl rfl (by decide) (by simp [Value.cells]) (by decide) hS.inv rfl ?_; clear hF a; intro w' a hm hI' hC hF
 replace hf := hf.mb hm
 replace hO := hO.mb hm (fun _ _ => by simp)
 replace hW := hW.mb0 hm
 replace hbx := hbx.mb hm (by simp)
 replace hS := hS.mb0 hm
 clear hm hI'
 replace hC := hC.le hs0
 clear hs0
 refine sv hF (v_fieldAddr fa65_1 rfl) rfl ?_; clear hF a; intro a hF
 refine sv hF (v_load sc28 rfl (hbx.at 1 rfl)) rfl ?_; clear hF a; intro a hF
 refine sv hF (v_move rfl) rfl ?_; clear hF a; intro a hF
 refine sv hF (v_ixS sl28 rfl rfl (by omega) (by omega)) rfl ?_; clear hF a; intro a hF
 have hkr := hO.kc (by decide) (vls_at hin)
 refine sv hF (v_load sc37 rfl (by rw [toNat_c]; exact hkr.c)) rfl ?_; clear hF a; intro a hF
 clear hkr
 refine s_app (D := FDx) (B := B) hF rfl sl37 rfl rfl hC (((hW.row i hin).row (by decide))) (by intro u hu; obtain ⟨_, _, rfl⟩ := List.mem_map.1 hu; rfl) (by simp; omega) (by simp [maxLen]; omega) (hS.ext.size) (by decide) hS.inv rfl ?_; clear hF a; intro v' b' w' a ho' hm hI' hb' hF
 replace hf := hf.mb hm
 replace hO := hO.mb hm (hO.ne_type hC (by decide))
 replace hW := hW.mbx hm (fun k e => Nat.le_trans hKM (hC.lt k e).1)
 replace hbx := hbx.mb hm (Blk.ne_own hbx hC (by decide))
 replace hS := hS.mbn hm (fun k e => ⟨(hC.lt k e).1, hC.isrow k e⟩)
 replace hC := ho'
 clear hm hI' ho'
 refine sv hF (v_assign rfl) rfl ?_; clear hF a; intro a hF
 refine WL_nil (hK _ _ ?_)
 clear hK K
 replace hF := hF.sub _ (c_ 4 rfl (c_ 2 rfl (c_ 1 rfl (n_))))
 replace hC := hC.cast (List.nil_append _)
 obtain ⟨gc, cc, rfl, rfl⟩ := hC.ptr (by simp; omega)
 rw [zints_length, trow_length] at hC hF
 have hKgc : KM ≤ gc := Nat.le_trans hKM (hC.lt _ rfl).1
 refine W_sr rfl (fun K hK => ?_)
 refine sv hF (v_move rfl) rfl ?_; clear hF a; intro a hF
 refine sv hF (v_lenS rfl sl37 rfl) rfl ?_; clear hF a; intro a hF
 refine sv hF (v_move rfl) rfl ?_; clear hF a; intro a hF
 refine WL_nil (hK _ _ ?_)
 clear hK K
 replace hF := hF.sub _ (c_ 18 rfl (c_ 17 rfl (c_ 16 rfl (c_ 2 rfl (c_ 1 rfl (n_))))))
 refine W_block ?_
 refine W_loop (fun q a w1 => ∃ (j : Nat), Fr 49 [(1, .int .i64 (i : Int)), (2, .pointer (some ⟨gr, 0, none⟩)), (16, .slice (some ⟨gc, 0, none⟩) k cc), (17, .int .i64 (k : Int)), (18, .int .i64 (j : Int))] a ∧ (StZ FDx B (fun x => N ≤ x ∧ x < KM) w w1) ∧ (Fo FDx B w1 fv (some (wb, p))) ∧ (Blk w1 gr 65 [fv, .slice (some ⟨g, 0, none⟩) n cap]) ∧ (Gam.Own FDx B N w1 37 (.slice (some ⟨g, 0, none⟩) n cap) (some g) (vls n k bs rc)) ∧ (Wr FDx B N KM w1 n k bs rc (hp.fld.clC i (j) (0) f)) ∧ (Gam.Own FDx B w.heap.size w1 FDx.E (.slice (some ⟨gc, 0, none⟩) k cc) (some gc) (zints (trow k f i))) ∧ (j ≤ k) ∧ (q + j = k)) (k) ?_ ?_
 ·
  skip
  exact ⟨0, hF.sub _ (c_ 1 rfl (c_ 2 rfl (c_ 16 rfl (c_ 17 rfl (c_ 18 rfl (n_)))))), hS, hf, hbx, hO, hW.congr (fun a _ b _ => hp.fld.clC_zero.symm), hC, by omega, by omega⟩
 ·
  skip
  clear hF
  clear hS hf hbx hO hW hC
  rintro q a w1 ⟨j, hF, hS, hf, hbx, hO, hW, hC, hj, hq⟩
  refine W_sr rfl (fun K hK => ?_)
  refine sv hF (v_lss rfl rfl) rfl ?_; clear hF a; intro a hF
  refine WL_nil (hK _ _ ?_)
  clear hK K
  refine W_seq ?_
  refine W_if hF rfl (fun hc1 => ?_) (fun hc1 => ?_)
  ·
   skip
   try simp only [dcl] at hc1
   have hlt : j < k := by omega
   refine W_skip ?_
   refine W_seq ?_
   refine W_block ?_
   refine W_sr rfl (fun K hK => ?_)
   refine sv hF (v_move rfl) rfl ?_; clear hF a; intro a hF
   refine sv hF (v_ixS sl37 rfl rfl (by omega) (by omega)) rfl ?_; clear hF a; intro a hF
   refine sv hF (v_load sc3 rfl (by rw [toNat_c]; exact (hC.kc (by decide) (zints_at (trow_at (f := f) (i := i) hlt))).c)) rfl ?_; clear hF a; intro a hF
   refine sv2 hF (v_assign rfl) (v_assign rfl) rfl rfl ?_; clear hF a; intro a hF
   refine WL_nil (hK _ _ ?_)
   clear hK K
   replace hF := hF.sub _ (c_ 6 rfl (c_ 5 rfl (c_ 1 rfl (c_ 2 rfl (c_ 16 rfl (c_ 17 rfl (c_ 18 rfl (n_))))))))
   refine W_sr rfl (fun K hK => ?_)
   refine sv hF (v_fieldAddr fa65_1 rfl) rfl ?_; clear hF a; intro a hF
   refine sv hF (v_load sc28 rfl (hbx.at 1 rfl)) rfl ?_; clear hF a; intro a hF
   refine sv hF (v_lenS rfl sl28 rfl) rfl ?_; clear hF a; intro a hF
   refine sv hF (v_move rfl) rfl ?_; clear hF a; intro a hF
   refine WL_nil (hK _ _ ?_)
   clear hK K
   replace hF := hF.sub _ (c_ 26 rfl (c_ 25 rfl (c_ 24 rfl (c_ 6 rfl (c_ 5 rfl (c_ 1 rfl (c_ 2 rfl (c_ 16 rfl (c_ 17 rfl (c_ 18 rfl (n_)))))))))))
   refine W_block ?_
   refine W_loop (fun q2 a w3 => ∃ (x : Nat), Fr 49 [(1, .int .i64 (i : Int)), (2, .pointer (some ⟨gr, 0, none⟩)), (5, .int .i64 (j : Int)), (6, .int .i64 ((f i j : Nat) : Int)), (16, .slice (some ⟨gc, 0, none⟩) k cc), (17, .int .i64 (k : Int)), (18, .int .i64 (j : Int)), (24, .slice (some ⟨g, 0, none⟩) n cap), (25, .int .i64 (n : Int)), (26, .int .i64 (x : Int))] a ∧ (StZ FDx B (fun x => N ≤ x ∧ x < KM) w w3) ∧ (Fo FDx B w3 fv (some (wb, p))) ∧ (Blk w3 gr 65 [fv, .slice (some ⟨g, 0, none⟩) n cap]) ∧ (Gam.Own FDx B N w3 37 (.slice (some ⟨g, 0, none⟩) n cap) (some g) (vls n k bs rc)) ∧ (Wr FDx B N KM w3 n k bs rc (hp.fld.clC i (j) (x) f)) ∧ (Gam.Own FDx B w.heap.size w3 FDx.E (.slice (some ⟨gc, 0, none⟩) k cc) (some gc) (zints (trow k f i))) ∧ (x ≤ n) ∧ (q2 + x = n)) (n) ?_ ?_
   ·
    skip
    exact ⟨0, hF.sub _ (c_ 1 rfl (c_ 2 rfl (c_ 5 rfl (c_ 6 rfl (c_ 16 rfl (c_ 17 rfl (c_ 18 rfl (c_ 24 rfl (c_ 25 rfl (c_ 26 rfl (n_))))))))))), hS, hf, hbx, hO, hW, hC, by omega, by omega⟩
   ·
    skip
    clear hF
    clear hS hf hbx hO hW hC
    rintro q2 a w3 ⟨x, hF, hS, hf, hbx, hO, hW, hC, hxn, hq2⟩
    refine W_sr rfl (fun K hK => ?_)
    refine sv hF (v_lss rfl rfl) rfl ?_; clear hF a; intro a hF
    refine WL_nil (hK _ _ ?_)
    clear hK K
    refine W_seq ?_
    refine W_if hF rfl (fun hc2 => ?_) (fun hc2 => ?_)
    ·
     skip
     try simp only [dcl] at hc2
     have hx : x < n := by omega
     refine W_skip ?_
     refine W_seq ?_
     refine W_block ?_
     refine W_sr rfl (fun K hK => ?_)
     refine sv hF (v_ixS sl28 rfl rfl (by omega) (by omega)) rfl ?_; clear hF a; intro a hF
     refine sv hF (v_load sc37 rfl (by rw [toNat_c]; exact (hO.kc (by decide) (vls_at hx)).c)) rfl ?_; clear hF a; intro a hF
     refine sv hF (v_assign rfl) rfl ?_; clear hF a; intro a hF
     refine WL_nil (hK _ _ ?_)
     clear hK K
     replace hF := hF.sub _ (c_ 8 rfl (c_ 1 rfl (c_ 2 rfl (c_ 5 rfl (c_ 6 rfl (c_ 16 rfl (c_ 17 rfl (c_ 18 rfl (c_ 24 rfl (c_ 25 rfl (c_ 26 rfl (n_))))))))))))
     refine W_sr rfl (fun K hK => ?_)
     refine sv2 hF (v_move rfl) (v_move rfl) rfl rfl ?_; clear hF a; intro a hF
     refine sv hF (v_neq rfl rfl) rfl ?_; clear hF a; intro a hF
     refine WL_nil (hK _ _ ?_)
     clear hK K
     replace hF := hF.sub _ (c_ 32 rfl (c_ 8 rfl (c_ 1 rfl (c_ 2 rfl (c_ 5 rfl (c_ 6 rfl (c_ 16 rfl (c_ 17 rfl (c_ 18 rfl (c_ 24 rfl (c_ 25 rfl (c_ 26 rfl (n_)))))))))))))
     refine W_if hF rfl (fun hc3 => ?_) (fun hc3 => ?_)
     ·
      skip
      try simp only [dcl] at hc3
      have hji : j ≠ i := by omega
      have hb1 := hfb x i
      have hb2 := hfb i j
      have hb3 := hp.fld.clC_bd (i := i) (j := j) (x := x) hfb x j
      have hb5 := hp.fld.lt (f x i) (f i j)
      rw [hfw] at hb1 hb2 hb3 hb5
      refine W_dS (fun (w2 : World) => w2.cell? ⟨gr, 0, none⟩ = some fv ∧ w2.cell? ⟨bs x, 0 + i, none⟩ = some (.int .i64 ((f x i : Nat) : Int))) (m := 15) rfl hmix (fun K hK => ?_)
      have hS' := St.drew hS.inv
      replace hf := hf.st hS'
      replace hO := hO.st (by decide) hS'
      replace hW := hW.st hS'
      replace hbx := hbx.st (by decide) hS'
      replace hC := hC.st (by decide) hS'
      replace hS := hS.trans hS'
      clear hS'
      have hSS : (fun (w2 : World) => w2.cell? ⟨gr, 0, none⟩ = some fv ∧ w2.cell? ⟨bs x, 0 + i, none⟩ = some (.int .i64 ((f x i : Nat) : Int))) _ := And.intro (hbx.at 0 rfl) (by have h := (hW.rd hx hi).c; rw [Fld.clC_self] at h; exact h)
      refine b_v (i := 0) rfl (by kernel_rfl) hF (fun w2 hx => v_move rfl) rfl hSS ?_; clear hF a; intro a hF
      refine b_v (i := 1) rfl (by kernel_rfl) hF (fun w2 hx => v_move rfl) rfl hSS ?_; clear hF a; intro a hF
      refine b_v (i := 2) rfl (by kernel_rfl) hF (fun w2 hx => v_ixS sl37 rfl rfl (by omega) (by omega)) rfl hSS ?_; clear hF a; intro a hF
      refine b_v (i := 4) rfl (by kernel_rfl) hF (fun w2 hx => v_fieldAddr fa65_0 rfl) rfl hSS ?_; clear hF a; intro a hF
      refine b_v (i := 5) rfl (by kernel_rfl) hF (fun w2 hx => v_load sc23 rfl hx.1) rfl hSS ?_; clear hF a; intro a hF
      refine b_v (i := 6) rfl (by kernel_rfl) hF (fun w2 hx => v_move rfl) rfl hSS ?_; clear hF a; intro a hF
      refine b_v (i := 7) rfl (by kernel_rfl) hF (fun w2 hx => v_move rfl) rfl hSS ?_; clear hF a; intro a hF
      refine b_v (i := 8) rfl (by kernel_rfl) hF (fun w2 hx => v_ixS sl37 rfl rfl (by omega) (by omega)) rfl hSS ?_; clear hF a; intro a hF
      refine b_v (i := 9) rfl (by kernel_rfl) hF (fun w2 hx => v_load sc3 rfl (by rw [toNat_c]; exact hx.2)) rfl hSS ?_; clear hF a; intro a hF
      refine b_v (i := 10) rfl (by kernel_rfl) hF (fun w2 hx => v_move rfl) rfl hSS ?_; clear hF a; intro a hF
      refine b_e2 (i := 3) (i' := 11) (by kernel_rfl) rfl rfl ?_ ?_
      ·
       skip
       refine sv hF (v_load sc3 rfl (by rw [toNat_c]; exact (hW.rd hx hlt).c)) rfl ?_; clear hF a; intro a hF
       refine WL_nil ⟨hSS, ?_⟩
       refine b_e (i := 11) (by kernel_rfl) rfl ?_
       refine sc hF rfl rfl rfl en29 rfl (Mul_gf B (some (wb, p)) fv ((f x i : Nat) : Int) ((f i j : Nat) : Int) _ hS.inv hf) ?_; clear hF a; intro v w' a hv hF
       obtain ⟨rfl, hS'⟩ := hv
       replace hf := hf.st hS'
       replace hO := hO.st (by decide) hS'
       replace hW := hW.st hS'
       replace hbx := hbx.st (by decide) hS'
       replace hC := hC.st (by decide) hS'
       replace hS := hS.trans hS'
       clear hS'
       rw [gmul_num hp hb1 hb2] at hF
       clear hSS
       have hSS : (fun (w2 : World) => w2.cell? ⟨gr, 0, none⟩ = some fv ∧ w2.cell? ⟨bs x, 0 + i, none⟩ = some (.int .i64 ((f x i : Nat) : Int))) _ := And.intro (hbx.at 0 rfl) (by have h := (hW.rd hx hi).c; rw [Fld.clC_self] at h; exact h)
       refine WL_nil ⟨hSS, ?_⟩
       refine b_v (i := 12) rfl (by kernel_rfl) hF (fun w2 hx => v_xorN rfl rfl (fits_i64 (by omega)) (fits_i64 (by omega))) rfl hSS ?_; clear hF a; intro a hF
       refine b_v (i := 13) rfl (by kernel_rfl) hF (fun w2 hx => v_ixS sl37 rfl rfl (by omega) (by omega)) rfl hSS ?_; clear hF a; intro a hF
       refine b_e (i := 14) (by kernel_rfl) rfl ?_
       have hR0 := hW.row _ hx
       have hge := hW.ge hx
       refine s_set (D := FDx) (B := B) hF on3 rfl (by rw [toNat_c, zints_length, trow_length]; omega) rfl rfl hR0 (by decide) hS.inv ?_; intro w' hm hI' ho'
       replace hf := hf.mb hm
       replace hO := hO.mb hm (hO.ne_type hR0 (by decide))
       replace hW := hW.set (g := hp.fld.clC i (j) (x + 1) f) hx hm (ho'.cast (by rw [toNat_c, Nat.zero_add, zints_set, trow_set (g := hp.fld.clC i (j) (x + 1) f)]; intro l hl; exact (by have e := hp.fld.clC_at (x := x) (l := l) (f := f) hji; rw [hp.fld.clC_self] at e; exact e))) (fun a ha hai l hl => (hp.fld.clC_ne hai))
       replace hbx := hbx.mb hm (hW.ne hx hKgr)
       replace hC := hC.mb hm (fun k e e2 => hW.ne hx hKgc (e2.trans e.symm))
       replace hS := hS.mb hm (fun k e => ⟨by cases e; exact ⟨hge.1, hW.lt _ hx⟩, hR0.isrow k e⟩)
       replace hR0 := ho'
       clear hm hI' ho'
       clear hR0 hge
       clear hSS
       have hSS : (fun (w2 : World) => w2.cell? ⟨gr, 0, none⟩ = some fv ∧ w2.cell? ⟨bs x, 0 + i, none⟩ = some (.int .i64 ((f x i : Nat) : Int))) _ := And.intro (hbx.at 0 rfl) (by have h := (hW.rd hx hi).c; rw [Fld.clC_self] at h; exact h)
       refine WL_nil ⟨hSS, ?_⟩
       refine b_done (by kernel_rfl) (hK _ _ ?_)
       clear hK K
       replace hF := hF.sub _ (c_ 1 rfl (c_ 2 rfl (c_ 5 rfl (c_ 6 rfl (c_ 16 rfl (c_ 17 rfl (c_ 18 rfl (c_ 24 rfl (c_ 25 rfl (c_ 26 rfl (n_)))))))))))
       refine W_reg rfl (fun K hK => ?_)
       refine sv hF (v_addI rfl rfl (by omega)) rfl ?_; clear hF a; intro a hF
       refine sv hF (v_move rfl) rfl ?_; clear hF a; intro a hF
       refine WL_nil (hK _ _ ?_)
       clear hK K
       exact ⟨q2 - 1, by omega, x + 1, hF.sub _ (c_ 1 rfl (c_ 2 rfl (c_ 5 rfl (c_ 6 rfl (c_ 16 rfl (c_ 17 rfl (c_ 18 rfl (c_ 24 rfl (c_ 25 rfl (c_ 26 rfl (n_))))))))))), hS, hf, hbx, hO, hW, hC, by omega, by omega⟩
      ·
       skip
       refine sc hF rfl rfl rfl en29 rfl (Mul_gf B (some (wb, p)) fv ((f x i : Nat) : Int) ((f i j : Nat) : Int) _ hS.inv hf) ?_; clear hF a; intro v w' a hv hF
       obtain ⟨rfl, hS'⟩ := hv
       replace hf := hf.st hS'
       replace hO := hO.st (by decide) hS'
       replace hW := hW.st hS'
       replace hbx := hbx.st (by decide) hS'
       replace hC := hC.st (by decide) hS'
       replace hS := hS.trans hS'
       clear hS'
       rw [gmul_num hp hb1 hb2] at hF
       clear hSS
       have hSS : (fun (w2 : World) => w2.cell? ⟨gr, 0, none⟩ = some fv ∧ w2.cell? ⟨bs x, 0 + i, none⟩ = some (.int .i64 ((f x i : Nat) : Int))) _ := And.intro (hbx.at 0 rfl) (by have h := (hW.rd hx hi).c; rw [Fld.clC_self] at h; exact h)
       refine WL_nil ⟨hSS, ?_⟩
       refine b_e (i := 3) (by kernel_rfl) rfl ?_
       refine sv hF (v_load sc3 rfl (by rw [toNat_c]; exact (hW.rd hx hlt).c)) rfl ?_; clear hF a; intro a hF
       refine WL_nil ⟨hSS, ?_⟩
       refine b_v (i := 12) rfl (by kernel_rfl) hF (fun w2 hx => v_xorN rfl rfl (fits_i64 (by omega)) (fits_i64 (by omega))) rfl hSS ?_; clear hF a; intro a hF
       refine b_v (i := 13) rfl (by kernel_rfl) hF (fun w2 hx => v_ixS sl37 rfl rfl (by omega) (by omega)) rfl hSS ?_; clear hF a; intro a hF
       refine b_e (i := 14) (by kernel_rfl) rfl ?_
       have hR0 := hW.row _ hx
       have hge := hW.ge hx
       refine s_set (D := FDx) (B := B) hF on3 rfl (by rw [toNat_c, zints_length, trow_length]; omega) rfl rfl hR0 (by decide) hS.inv ?_; intro w' hm hI' ho'
       replace hf := hf.mb hm
       replace hO := hO.mb hm (hO.ne_type hR0 (by decide))
       replace hW := hW.set (g := hp.fld.clC i (j) (x + 1) f) hx hm (ho'.cast (by rw [toNat_c, Nat.zero_add, zints_set, trow_set (g := hp.fld.clC i (j) (x + 1) f)]; intro l hl; exact (by have e := hp.fld.clC_at (x := x) (l := l) (f := f) hji; rw [hp.fld.clC_self] at e; exact e))) (fun a ha hai l hl => (hp.fld.clC_ne hai))
       replace hbx := hbx.mb hm (hW.ne hx hKgr)
       replace hC := hC.mb hm (fun k e e2 => hW.ne hx hKgc (e2.trans e.symm))
       replace hS := hS.mb hm (fun k e => ⟨by cases e; exact ⟨hge.1, hW.lt _ hx⟩, hR0.isrow k e⟩)
       replace hR0 := ho'
       clear hm hI' ho'
       clear hR0 hge
       clear hSS
       have hSS : (fun (w2 : World) => w2.cell? ⟨gr, 0, none⟩ = some fv ∧ w2.cell? ⟨bs x, 0 + i, none⟩ = some (.int .i64 ((f x i : Nat) : Int))) _ := And.intro (hbx.at 0 rfl) (by have h := (hW.rd hx hi).c; rw [Fld.clC_self] at h; exact h)
       refine WL_nil ⟨hSS, ?_⟩
       refine b_done (by kernel_rfl) (hK _ _ ?_)
       clear hK K
       replace hF := hF.sub _ (c_ 1 rfl (c_ 2 rfl (c_ 5 rfl (c_ 6 rfl (c_ 16 rfl (c_ 17 rfl (c_ 18 rfl (c_ 24 rfl (c_ 25 rfl (c_ 26 rfl (n_)))))))))))
       refine W_reg rfl (fun K hK => ?_)
       refine sv hF (v_addI rfl rfl (by omega)) rfl ?_; clear hF a; intro a hF
       refine sv hF (v_move rfl) rfl ?_; clear hF a; intro a hF
       refine WL_nil (hK _ _ ?_)
       clear hK K
       exact ⟨q2 - 1, by omega, x + 1, hF.sub _ (c_ 1 rfl (c_ 2 rfl (c_ 5 rfl (c_ 6 rfl (c_ 16 rfl (c_ 17 rfl (c_ 18 rfl (c_ 24 rfl (c_ 25 rfl (c_ 26 rfl (n_))))))))))), hS, hf, hbx, hO, hW, hC, by omega, by omega⟩
     ·
      skip
      try simp only [dcl] at hc3
      have hji : i = j := by omega
      replace hW := hW.congr (g := hp.fld.clC i (j) (x + 1) f) (fun a _ b _ => by subst hji; exact hp.fld.clC_skip.symm)
      refine W_skip ?_
      refine W_reg rfl (fun K hK => ?_)
      refine sv hF (v_addI rfl rfl (by omega)) rfl ?_; clear hF a; intro a hF
      refine sv hF (v_move rfl) rfl ?_; clear hF a; intro a hF
      refine WL_nil (hK _ _ ?_)
      clear hK K
      replace hF := hF.sub _ (c_ 26 rfl (c_ 47 rfl (c_ 1 rfl (c_ 2 rfl (c_ 5 rfl (c_ 6 rfl (c_ 16 rfl (c_ 17 rfl (c_ 18 rfl (c_ 24 rfl (c_ 25 rfl (n_))))))))))))
      exact ⟨q2 - 1, by omega, x + 1, hF.sub _ (c_ 1 rfl (c_ 2 rfl (c_ 5 rfl (c_ 6 rfl (c_ 16 rfl (c_ 17 rfl (c_ 18 rfl (c_ 24 rfl (c_ 25 rfl (c_ 26 rfl (n_))))))))))), hS, hf, hbx, hO, hW, hC, by omega, by omega⟩
    ·
     skip
     try simp only [dcl] at hc2
     have hxe : x = n := by omega
     rw [hxe] at hW
     replace hW := hW.congr (fun a ha b _ => hp.fld.clC_next ha)
     refine W_exit rfl ?_
     refine W_reg rfl (fun K hK => ?_)
     refine sv hF (v_addI rfl rfl (by omega)) rfl ?_; clear hF a; intro a hF
     refine sv hF (v_move rfl) rfl ?_; clear hF a; intro a hF
     refine WL_nil (hK _ _ ?_)
     clear hK K
     replace hF := hF.sub _ (c_ 18 rfl (c_ 48 rfl (c_ 1 rfl (c_ 2 rfl (c_ 5 rfl (c_ 6 rfl (c_ 16 rfl (c_ 17 rfl (c_ 24 rfl (c_ 25 rfl (c_ 26 rfl (n_))))))))))))
     exact ⟨q - 1, by omega, j + 1, hF.sub _ (c_ 1 rfl (c_ 2 rfl (c_ 16 rfl (c_ 17 rfl (c_ 18 rfl (n_)))))), hS, hf, hbx, hO, hW, hC, by omega, by omega⟩
  ·
   skip
   try simp only [dcl] at hc1
   refine W_exit rfl ?_
   refine ⟨_, hF, ?_⟩
   obtain rfl : j = k := by omega
   exact ⟨rfl, hO, hW, hS⟩

end Go.Proofs.Ytaeljbdpjiciaaa
