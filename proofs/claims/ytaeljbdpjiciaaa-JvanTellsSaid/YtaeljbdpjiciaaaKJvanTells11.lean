/- Texts of the claim JvanTells (part 11), put together in the order of their imports. -/
import Derived.Test.YtaeljbdpjiciaaaKJvanTells10
/- What the statements of layer 7 call first. -/
set_option linter.unusedVariables false
set_option linter.unusedSimpArgs false
namespace Go.Proofs.Ytaeljbdpjiciaaa
open Go Go.Gam


namespace FxFAw07
theorem en15 : Ent Try.prog 15 := ent Try.func15 (by kernel_rfl) (by kernel_rfl)
theorem en16 : Ent Try.prog 16 := ent Try.func16 (by kernel_rfl) (by kernel_rfl)
theorem en18 : Ent Try.prog 18 := ent Try.func18 (by kernel_rfl) (by kernel_rfl)
theorem en21 : Ent Try.prog 21 := ent Try.func21 (by kernel_rfl) (by kernel_rfl)
theorem en41 : Ent Try.prog 41 := ent Try.func41 (by kernel_rfl) (by kernel_rfl)
theorem sl27 : Sl Try.prog 27 37 (.slice none 0 0) 24 := sl_of Try.underlying27 rfl (by kernel_rfl)
theorem sl28 : Sl Try.prog 28 37 (.slice none 0 0) 24 := sl_of Try.underlying28 rfl (by kernel_rfl)
theorem sl37 : Sl Try.prog 37 3 (.int .i64 0) 8 := sl_of Try.underlying37 rfl (by kernel_rfl)
end FxFAw07
open FxFAw07

theorem Same4_t (B M : Nat) (pma : Option Addr) (cma : Nat) (ma : Mtx) (pmb : Option Addr) (cmb : Nat) (mb : Mtx) (w : World) (hI : Inv FDx B w) (hAma : Mat FDx B M w pma cma ma) (hAmb : Mat FDx B M w pmb cmb mb) (hlma : ma.length ≤ 1000) (hbma : ∀ r ∈ ma, r.length ≤ 1000) (e : ma = mb) :
  Ret Try.prog 21 [.slice pma ma.length cma, .slice pmb mb.length cmb] w fun v w' => v = .bool true ∧ St FDx B w w' :=
 (Same04_ok B M pma cma ma pmb cmb mb w hI hAma hAmb hlma hbma).mono fun v w' h => by rw [decide_eq_true e] at h; exact h

theorem Same4_n (B M : Nat) (pma : Option Addr) (cma na : Nat) (ma : Mtx) (pmb : Option Addr) (cmb nb : Nat) (mb : Mtx) (w : World) (hI : Inv FDx B w) (hAma : Mat FDx B M w pma cma ma) (hAmb : Mat FDx B M w pmb cmb mb) (hl : ma.length ≤ 1000 ∧ ∀ r ∈ ma, r.length ≤ 1000) (e : ma = mb) (hna : ma.length = na) (hnb : mb.length = nb) :
  Ret Try.prog 21 [.slice pma na cma, .slice pmb nb cmb] w fun v w' => v = .bool true ∧ St FDx B w w' := by
 subst hna; subst hnb; exact Same4_t B M pma cma ma pmb cmb mb w hI hAma hAmb hl.1 hl.2 e

theorem Inverse_n (B M wb p : Nat) (hp : Prm wb p) (fv : Value) (pmt : Option Addr) (cmt n : Nat) (mt : Mtx) (w : World) (hI : Inv FDx B w) (hM : M ≤ w.heap.size) (hf : Fo FDx B w fv (some (wb, p))) (hA : Mat FDx B M w pmt cmt mt) (hl : mt.length ≤ maxLen) (hb : ∀ r ∈ mt, r.length ≤ maxLen) (hn : mt.length = n) :
  Ret Try.prog 28 [fv, .slice pmt n cmt] w fun v w' => ∃ ob u, v = .tuple #[u, .int .i64 (invR hp mt).1] ∧ MOwn FDx B w.heap.size 0 w'.heap.size w' 37 u ob (invR hp mt).2 ∧ St FDx B w w' := by
 subst hn; exact Inverse_ok B M wb p hp fv pmt cmt mt w hI hM hf hA hl hb

set_option maxRecDepth 100000 in
set_option maxHeartbeats 1000000 in
theorem field7_ok (B : Nat) (lg : Bool) (w : World) (hI : Inv FDx B w) : Ret Try.prog 15 [.bool lg] w fun v w' => ∃ fv, v = .tuple #[fv, .int .i64 ((fq lg).1 : Int), .int .u32 ((fq lg).2 : Int)] ∧ Fo FDx B w' fv (some (fq lg)) ∧ St FDx B w w' := by
 refine enter3 8 [(0, .bool lg)] 2 3 4 Try.func15 rfl rfl rfl rfl rfl ?_; intro a hF
 have hS := St.refl hI
 refine W_sr rfl (fun K hK => ?_)
 refine sv3 hF (v_assign rfl) (v_assign rfl) (v_assign rfl) rfl rfl rfl ?_; clear hF a; intro a hF
 refine WL_nil (hK _ _ ?_)
 clear hK K
 refine W_seq ?_
 refine W_sr rfl (fun K hK => ?_)
 refine sv hF (v_move rfl) rfl ?_; clear hF a; intro a hF
 refine WL_nil (hK _ _ ?_)
 clear hK K
 replace hF := hF.sub _ (c_ 5 rfl (c_ 4 rfl (c_ 3 rfl (c_ 2 rfl (n_)))))
 refine W_if hF rfl (fun hc1 => ?_) (fun hc1 => ?_)
 ·
  skip
  try simp only [dcl] at hc1
  obtain rfl : lg = true := by assumption
  refine W_sr rfl (fun K hK => ?_)
  refine sc hF rfl rfl rfl en41 rfl (New_ok B 16 69643 _ hS.inv (by decide) (by decide)) ?_; clear hF a; intro v w' a hv hF
  obtain ⟨hf, hS'⟩ := hv
  obtain ⟨fv, rfl⟩ : ∃ x, x = v := ⟨_, rfl⟩
  rw [show newF 16 69643 = some (16, 69643) from newF_p prm_69643] at hf
  replace hS := hS.trans hS'
  clear hS'
  refine sv3 hF (v_assign rfl) (v_assign rfl) (v_assign rfl) rfl rfl rfl ?_; clear hF a; intro a hF
  refine WL_nil (hK _ _ ?_)
  clear hK K
  replace hF := hF.sub _ (c_ 4 rfl (c_ 3 rfl (c_ 2 rfl (n_))))
  refine W_ret ?_
  refine ⟨_, _, _, _, hF, rfl, rfl, rfl, ?_⟩
  exact ⟨fv, rfl, hf, hS⟩
 ·
  skip
  try simp only [dcl] at hc1
  obtain rfl : lg = false := by assumption
  refine W_skip ?_
  refine W_sr rfl (fun K hK => ?_)
  refine sc hF rfl rfl rfl en41 rfl (New_ok B 8 285 _ hS.inv (by decide) (by decide)) ?_; clear hF a; intro v w' a hv hF
  obtain ⟨hf, hS'⟩ := hv
  obtain ⟨fv, rfl⟩ : ∃ x, x = v := ⟨_, rfl⟩
  rw [show newF 8 285 = some (8, 285) from newF_p prm_285] at hf
  replace hS := hS.trans hS'
  clear hS'
  refine sv3 hF (v_assign rfl) (v_assign rfl) (v_assign rfl) rfl rfl rfl ?_; clear hF a; intro a hF
  refine WL_nil (hK _ _ ?_)
  clear hK K
  replace hF := hF.sub _ (c_ 4 rfl (c_ 3 rfl (c_ 2 rfl (n_))))
  refine W_ret ?_
  refine ⟨_, _, _, _, hF, rfl, rfl, rfl, ?_⟩
  exact ⟨fv, rfl, hf, hS⟩

set_option maxRecDepth 100000 in
set_option maxHeartbeats 1000000 in
theorem aw07_ok (B : Nat) (w : World) (hI : Inv FDx B w) : Ret Try.prog 14 [] w fun v w' => v = .bool true ∧ St FDx B w w' := by
 refine enter 43 [] 0 Try.func14 rfl rfl rfl rfl rfl ?_; intro a hF
 have hS := St.refl hI
 refine W_sr rfl (fun K hK => ?_)
 refine sv hF (v_assign rfl) rfl ?_; clear hF a; intro a hF
 refine WL_nil (hK _ _ ?_)
 clear hK K
 refine W_sr rfl (fun K hK => ?_)
 refine sc hF rfl rfl rfl en15 rfl (field7_ok B false _ hS.inv) ?_; clear hF a; intro v w' a hv hF
 obtain ⟨fv, rfl, hf, hS'⟩ := hv
 rw [show fq false = (8, 285) from rfl] at hf
 replace hS := hS.trans hS'
 clear hS'
 refine sv6 hF (v_move rfl) (v_ext rfl rfl) (v_ext rfl rfl) (v_ext rfl rfl) (v_assign rfl) (v_assign rfl) rfl rfl rfl rfl rfl rfl ?_; clear hF a; intro a hF
 refine sv hF (v_assign rfl) rfl ?_; clear hF a; intro a hF
 refine WL_nil (hK _ _ ?_)
 clear hK K
 replace hF := hF.sub _ (c_ 1 rfl (c_ 0 rfl (n_)))
 refine W_sr rfl (fun K hK => ?_)
 refine sv hF (v_move rfl) rfl ?_; clear hF a; intro a hF
 refine sc hF rfl rfl rfl en18 rfl (Parity_fit B 8 285 prm_285 fv 2 1 _ hS.inv hf (fitB_ok rfl (by decide) (by decide) (by decide))) ?_; clear hF a; intro v w' a hv hF
 obtain ⟨sX, cX, rfl, hX, hS'⟩ := hv
 rw [aw7_par] at hX
 replace hf := hf.st hS'
 replace hS := hS.trans hS'
 clear hS'
 refine sv5 hF (v_move rfl) (v_ext rfl rfl) (v_ext rfl rfl) (v_assign rfl) (v_assign rfl) rfl rfl rfl rfl rfl ?_; clear hF a; intro a hF
 refine WL_nil (hK _ _ ?_)
 clear hK K
 replace hF := hF.sub _ (c_ 5 rfl (c_ 4 rfl (c_ 1 rfl (c_ 0 rfl (n_)))))
 refine W_sr rfl (fun K hK => ?_)
 refine sv hF (v_move rfl) rfl ?_; clear hF a; intro a hF
 refine sc hF rfl rfl rfl en16 rfl (Extended_m B (some (8, 285)) fv (2 : Int) (1 : Int) _ hS.inv hf) ?_; clear hF a; intro v w' a hv hF
 obtain ⟨obY, uY, rfl, hoY, hS'⟩ := hv
 rw [aw7_ext] at hoY hF
 try simp only [Option.getD_some, Option.getD_none] at hoY
 obtain ⟨sY, cY, rfl, hY⟩ := hoY.mat (by decide) (Nat.zero_le _)
 clear hoY
 replace hf := hf.st hS'
 replace hX := (hX.st hS').mono hS'.ext.size
 replace hS := hS.trans hS'
 clear hS'
 refine sv5 hF (v_move rfl) (v_ext rfl rfl) (v_ext rfl rfl) (v_assign rfl) (v_assign rfl) rfl rfl rfl rfl rfl ?_; clear hF a; intro a hF
 refine WL_nil (hK _ _ ?_)
 clear hK K
 replace hF := hF.sub _ (c_ 7 rfl (c_ 6 rfl (c_ 5 rfl (c_ 4 rfl (c_ 0 rfl (n_))))))
 refine W_sr rfl (fun K hK => ?_)
 refine sv hF (v_move rfl) rfl ?_; clear hF a; intro a hF
 refine sv hF ((v_eql rfl rfl).as (congrArg Value.bool (decide_eq_true (rfl)))) rfl ?_; clear hF a; intro a hF
 refine sv hF (v_move rfl) rfl ?_; clear hF a; intro a hF
 refine svg hF rfl ?_
 refine sv hF (v_move rfl) rfl ?_; clear hF a; intro a hF
 refine svg hF rfl ?_
 refine sv hF ((v_eql rfl rfl).as (congrArg Value.bool (decide_eq_true (rfl)))) rfl ?_; clear hF a; intro a hF
 refine sv2 hF (v_pickT rfl rfl) (v_move rfl) rfl rfl ?_; clear hF a; intro a hF
 refine svg hF rfl ?_
 refine sv hF (v_move rfl) rfl ?_; clear hF a; intro a hF
 refine svg hF rfl ?_
 refine s_bs (D := FDx) (B := B) hF sl37 rfl rfl (by decide) (by simp [Value.cells]) (by decide) hS.inv rfl ?_; clear hF a; intro w' a hm hI' h1 hF
 replace hf := hf.mb hm
 replace hX := (hX.mb hm (fun _ h => by cases h)).mono hm.size
 replace hY := (hY.mb hm (fun _ h => by cases h)).mono hm.size
 replace hS := hS.mb0 hm
 clear hm hI'
 refine svg hF rfl ?_
 refine s_bs (D := FDx) (B := B) hF sl27 rfl rfl (by decide) (by simp [Value.cells]) (by decide) hS.inv rfl ?_; clear hF a; intro w' a hm hI' h3 hF
 replace hf := hf.mb hm
 replace hX := (hX.mb hm (fun _ h => by cases h)).mono hm.size
 replace hY := (hY.mb hm (fun _ h => by cases h)).mono hm.size
 replace h1 := h1.mb hm (fun _ _ => by simp)
 replace hS := hS.mb0 hm
 clear hm hI'
 refine svg hF rfl ?_
 refine sc hF rfl rfl rfl en21 rfl (Same4_t B _ _ _ [[1, 1]] _ _ [[1, 1]] _ hS.inv hX (Mat.one h3 (by decide) ((h1.cast (ys := zints [1, 1]) rfl).row (by decide))) (aw7_len _ _).1 (aw7_len _ _).2 rfl) ?_; clear hF a; intro v w' a hv hF
 obtain ⟨rfl, hS'⟩ := hv
 replace hY := (hY.st hS').mono hS'.ext.size
 replace hS := hS.trans hS'
 clear hS'
 refine sv2 hF (v_pickT rfl rfl) (v_move rfl) rfl rfl ?_; clear hF a; intro a hF
 refine svg hF rfl ?_
 refine sv hF (v_move rfl) rfl ?_; clear hF a; intro a hF
 refine svg hF rfl ?_
 refine s_bs (D := FDx) (B := B) hF sl37 rfl rfl (by decide) (by simp [Value.cells]) (by decide) hS.inv rfl ?_; clear hF a; intro w' a hm hI' h1 hF
 replace hY := (hY.mb hm (fun _ h => by cases h)).mono hm.size
 replace hS := hS.mb0 hm
 clear hm hI'
 refine svg hF rfl ?_
 refine s_bs (D := FDx) (B := B) hF sl37 rfl rfl (by decide) (by simp [Value.cells]) (by decide) hS.inv rfl ?_; clear hF a; intro w' a hm hI' h2 hF
 replace hY := (hY.mb hm (fun _ h => by cases h)).mono hm.size
 replace h1 := h1.mb hm (fun _ _ => by simp)
 replace hS := hS.mb0 hm
 clear hm hI'
 refine svg hF rfl ?_
 refine s_bs (D := FDx) (B := B) hF sl37 rfl rfl (by decide) (by simp [Value.cells]) (by decide) hS.inv rfl ?_; clear hF a; intro w' a hm hI' h3 hF
 replace hY := (hY.mb hm (fun _ h => by cases h)).mono hm.size
 replace h1 := h1.mb hm (fun _ _ => by simp)
 replace h2 := h2.mb hm (fun _ _ => by simp)
 replace hS := hS.mb0 hm
 clear hm hI'
 refine svg hF rfl ?_
 refine s_bs (D := FDx) (B := B) hF sl27 rfl rfl (by decide) (by simp [Value.cells]) (by decide) hS.inv rfl ?_; clear hF a; intro w' a hm hI' h4 hF
 replace hY := (hY.mb hm (fun _ h => by cases h)).mono hm.size
 replace h1 := h1.mb hm (fun _ _ => by simp)
 replace h2 := h2.mb hm (fun _ _ => by simp)
 replace h3 := h3.mb hm (fun _ _ => by simp)
 replace hS := hS.mb0 hm
 clear hm hI'
 refine svg hF rfl ?_
 refine sc hF rfl rfl rfl en21 rfl (Same4_t B _ _ _ [[1, 0], [1, 1], [0, 1]] _ _ [[1, 0], [1, 1], [0, 1]] _ hS.inv hY (Mat.three h4 (by decide) ((h1.cast (ys := zints [1, 0]) rfl).row (by decide)) ((h2.cast (ys := zints [1, 1]) rfl).row (by decide)) ((h3.cast (ys := zints [0, 1]) rfl).row (by decide))) (aw6_len3 _ _ _ _ _ _).1 (aw6_len3 _ _ _ _ _ _).2 rfl) ?_; clear hF a; intro v w' a hv hF
 obtain ⟨rfl, hS'⟩ := hv
 replace hS := hS.trans hS'
 clear hS'
 refine sv2 hF (v_pickT rfl rfl) (v_assign rfl) rfl rfl ?_; clear hF a; intro a hF
 refine WL_nil (hK _ _ ?_)
 clear hK K
 replace hF := hF.sub _ (c_ 0 rfl (n_))
 refine W_ret ?_
 refine ⟨_, _, hF, rfl, ?_⟩
 exact ⟨rfl, hS⟩

end Go.Proofs.Ytaeljbdpjiciaaa

/- Rows that are gathered, one of them changed for another; what gambrelref05 reduces. No program in sight. -/
set_option linter.unusedVariables false
set_option linter.unusedSimpArgs false
set_option linter.unusedSectionVars false
namespace Go.Gam
open Px

section
variable {P : Program} {ops : Array Oper} {K' : Kont} {rest : List Oper} {n : NN} {F : Fs} {T : TypeId} {pp : String} {af : Array Edge} {v : Value} {d : Nat} {a : Act} {w : World} {x y : Operand} {D : FD} {B : Nat}
/-- A row of rows that are gathered is changed for another. -/
theorem s_setM {t e N M0 K g o : Nat} {u : Value} {a0 : Mtx} {r : List Int} (hF : Fr n F a) (ht : One P t) (hx : ev F x = some (.pointer (some ⟨g, o, none⟩))) (ho : o < a0.length) (hy : ev F y = some u) (hu : u.oneCell' = true)
    (hM : MOwn D B N M0 K w e v (some g) a0) (hr : RowO D B M0 K w u r) (he : e ≠ D.T) (hE : D.E ≠ e) (hI : Inv D B w)
    (k : ∀ w', Mb D B (some g) w w' → Inv D B w' → MOwn D B N M0 K w' e v (some g) (a0.set o r) → WL P ops K' rest a w') :
    WL P ops K' (⟨none, .store t x y, T, pp, af, none⟩ :: rest) a w := by
  obtain ⟨vals, h2, h3, h4⟩ := hM.ex
  refine s_set (D := D) (B := B) hF ht hx (by omega) hy hu h3 he hI ?_
  intro w' hm hI' ho'
  refine k w' hm hI' ⟨⟨vals.set o u, by simp [h2], ho', fun j z s hz hs => ?_⟩, hM.mn⟩
  by_cases hj : o = j
  · subst hj
    rw [List.getElem?_set_self (by omega)] at hz
    rw [List.getElem?_set_self ho] at hs
    obtain rfl := Option.some.inj hz
    obtain rfl := Option.some.inj hs
    exact hr.mb2 hm h3 hE hM.mn
  · rw [List.getElem?_set_ne hj] at hz hs
    exact (h4 j z s hz hs).mb2 hm h3 hE hM.mn
end
/-- A row of rows that are gathered, as a row that may be gathered again. -/
theorem MOwn.rowO {D : FD} {B N M0 K g cap i : Nat} {w : World} {E2 : TypeId} {b : Option Nat} {a : Mtx} {r : List Int} (h : MOwn D B N M0 K w E2 (.slice (some ⟨g, 0, none⟩) a.length cap) b a) (hE : E2 ≠ D.T) (hi : a[i]? = some r) :
    ∃ pr cr, KC D B w ⟨g, 0 + i, none⟩ (.slice pr r.length cr) ∧ RowO D B M0 K w (.slice pr r.length cr) r := by
  obtain ⟨vals, h1, h2, h3⟩ := h.ex
  have hl := (List.getElem?_eq_some_iff.1 hi).1
  obtain ⟨u, hu⟩ : ∃ u, vals[i]? = some u := ⟨_, List.getElem?_eq_getElem (by omega)⟩
  have hr := h3 i u r hu hi
  have hs : ∃ pr cr, u = .slice pr r.length cr := by
    rcases hr with ⟨b, ho, _⟩ | hr
    · obtain ⟨p, c, e⟩ := ho.shape; rw [zints_length] at e; exact ⟨p, c, e⟩
    · obtain ⟨p, c, e⟩ := hr.sl; rw [zints_length] at e; exact ⟨p, c, e⟩
  obtain ⟨pr, cr, rfl⟩ := hs
  exact ⟨pr, cr, Own.kc h2 hE hu, hr⟩
theorem tab_set {n m i : Nat} {f g : Tb} {r : List Int} (hr : r = trow m g i) (h : ∀ a, a < n → a ≠ i → ∀ j, j < m → g a j = f a j) : (tab n m f).set i r = tab n m g := by
  subst hr
  apply List.ext_getElem?
  intro l
  by_cases hl : l < n
  · by_cases e : i = l
    · subst e; rw [List.getElem?_set_self (by rw [tab_length]; exact hl), tab_at hl]; rfl
    · rw [List.getElem?_set_ne e, tab_at hl, tab_at hl]
      exact congrArg some (trow_congr (m := m) (f := f) (g := g) (i := l) (k := l) fun j hj => (h l hl (Ne.symm e) j hj).symm)
  · rw [List.getElem?_eq_none (by rw [List.length_set, tab_length]; omega), List.getElem?_eq_none (by rw [tab_length]; omega)]
def pivI (f : Tb) (n c t : Nat) : Int := match Fld.piv f n c t (n - t) with | none => -1 | some k => (k : Int)
namespace Fld
variable (F : Fld)
/-- Row k changed for row t, then row t for row k times s. -/
theorem swap_scl {n m t k s : Nat} {f : Tb} (ht : t < n) (hk : k < n) :
    ((tab n m f).set k (trow m f t)).set t (trow m (fun _ j => F.mul (f k j) s) 0) = tab n m (F.sclF t s m (fun i j => f (sw t k i) j)) := by
  have h1 : (tab n m f).set k (trow m f t) = tab n m (fun i j => if i = k then f t j else f i j) :=
    tab_set (trow_congr fun j _ => by rw [if_pos rfl]) fun a _ hne j _ => by rw [if_neg hne]
  rw [h1]
  refine tab_set (trow_congr fun j hj => ?_) fun a _ hne j _ => ?_
  · unfold sclF; rw [if_pos ⟨rfl, hj⟩]; show _ = F.mul (f (sw t k t) j) s; unfold sw; rw [if_pos rfl]
  · unfold sclF
    rw [if_neg (by omega)]
    show f (sw t k a) j = _
    unfold sw
    rw [if_neg hne]
    by_cases e : a = k
    · subst e; rw [if_pos rfl, if_pos rfl]
    · rw [if_neg e, if_neg e]
theorem cleF_zero {t c i : Nat} {f : Tb} (h : f i c = 0) : ∀ a j, F.cleF t c i f a j = F.cleF t c (i + 1) f a j := by
  intro a j
  unfold cleF
  by_cases h1 : a < i ∧ a ≠ t
  · rw [if_pos h1, if_pos ⟨by omega, h1.2⟩]
  · rw [if_neg h1]
    by_cases h2 : a < i + 1 ∧ a ≠ t
    · rw [if_pos h2]
      obtain rfl : a = i := by omega
      rw [h, F.zero_mul, Nat.xor_zero]
    · rw [if_neg h2]
theorem cleF_set {n m t c i : Nat} {f : Tb} (hi : i ≠ t) : (tab n m (F.cleF t c i f)).set i (trow m (fun a j => f i j ^^^ F.mul (f i c) (f t j)) 0) = tab n m (F.cleF t c (i + 1) f) := by
  refine tab_set (trow_congr fun j hj => ?_) fun a _ hne j _ => ?_
  · unfold cleF; rw [if_pos ⟨by omega, hi⟩]
  · unfold cleF
    by_cases h1 : a < i ∧ a ≠ t
    · rw [if_pos h1, if_pos ⟨by omega, h1.2⟩]
    · rw [if_neg h1, if_neg (by omega)]
end Fld
/-- A row times a number; two rows together. -/
theorem scaled_row {wb p m k s : Nat} (hp : Prm wb p) {f : Tb} (hf : hp.fld.Bd f) (hs : s < 2 ^ wb) : (trow m f k).map (fun x => gmul (some (wb, p)) x (s : Int)) = trow m (fun _ j => hp.fld.mul (f k j) s) 0 := by
  unfold trow
  rw [List.map_map]
  refine List.map_congr_left fun j _ => ?_
  show gmul _ ((f k j : Nat) : Int) _ = _
  rw [gmul_num hp (by have := hf k j; rwa [hp.fld_w] at this) hs]
def xorZ (a b : List Int) : List Int := List.zipWith (fun x y => ((x.toNat ^^^ y.toNat : Nat) : Int)) a b
theorem xorZ_length {a b : List Int} (h : a.length = b.length) : (xorZ a b).length = a.length := by simp [xorZ, h]
theorem xorZ_snoc {a b : List Int} {i x y : Nat} (hx : a[i]? = some (x : Int)) (hy : b[i]? = some (y : Int)) : xorZ (a.take (i + 1)) (b.take (i + 1)) = xorZ (a.take i) (b.take i) ++ [((x ^^^ y : Nat) : Int)] := by
  have h1 := (List.getElem?_eq_some_iff.1 hx).1
  have h2 := (List.getElem?_eq_some_iff.1 hy).1
  unfold xorZ
  rw [take_snoc hx, take_snoc hy, List.zipWith_append (by simp; omega)]
  simp
theorem xorZ_rows {m i k : Nat} {f g : Tb} : xorZ (trow m f i) (trow m g k) = trow m (fun _ j => f i j ^^^ g k j) 0 := by
  unfold xorZ trow
  rw [List.zipWith_map, List.zipWith_self]
  simp
theorem MOwn.ptr {D : FD} {B N M0 K : Nat} {w : World} {E2 : TypeId} {v : Value} {b : Option Nat} {a : Mtx} (h : MOwn D B N M0 K w E2 v b a) (h0 : 0 < a.length) : ∃ g cap, v = .slice (some ⟨g, 0, none⟩) a.length cap ∧ b = some g := by
  obtain ⟨vals, h1, h2, h3⟩ := h.ex
  obtain ⟨g, cap, e1, e2⟩ := h2.ptr (by omega)
  exact ⟨g, cap, by rw [← h1]; exact e1, e2⟩
theorem MOwn.matS {D : FD} {B N M0 K n cap : Nat} {w : World} {E2 : TypeId} {sa : Option Addr} {b : Option Nat} {a : Mtx} (h : MOwn D B N M0 K w E2 (.slice sa n cap) b a) (hE : E2 ≠ D.T) (hN : M0 ≤ w.heap.size) : Mat D B w.heap.size w sa cap a := by
  obtain ⟨sa', cap', e, hm⟩ := h.mat hE hN
  obtain ⟨rfl, -, rfl⟩ := Value.slice.inj e
  exact hm
theorem pivI_neg {f : Tb} {n c t : Nat} (h : pivI f n c t < 0) : Fld.piv f n c t (n - t) = none := by
  unfold pivI at h
  cases hk : Fld.piv f n c t (n - t) with
  | none => rfl
  | some k => rw [hk] at h; dsimp only at h; omega
theorem pivI_nn {f : Tb} {n c t : Nat} (h : ¬ pivI f n c t < 0) : ∃ k, Fld.piv f n c t (n - t) = some k ∧ pivI f n c t = (k : Int) := by
  unfold pivI at *
  cases hk : Fld.piv f n c t (n - t) with
  | none => rw [hk] at h; exact absurd (by decide) h
  | some k => exact ⟨k, rfl, rfl⟩
theorem cle_row {wb p m t c k s i : Nat} (hp : Prm wb p) {f : Tb} (h : i ≠ t) (hc : c < m) (hsw : Fld.sw t k t = k) {g : Tb} (hg : g = hp.fld.sclF t s m (fun i j => f (Fld.sw t k i) j)) :
    trow m (fun _ j => hp.fld.cleF t c i g i j ^^^ hp.fld.mul (hp.fld.mul (f k j) s) (hp.fld.cleF t c i g i c)) 0 = trow m (fun _ j => g i j ^^^ hp.fld.mul (g i c) (g t j)) 0 := by
  refine trow_congr fun j hj => ?_
  have e1 : ∀ j, hp.fld.cleF t c i g i j = g i j := fun j => by unfold Fld.cleF; rw [if_neg (by omega)]
  have e2 : g t j = hp.fld.mul (f k j) s := by subst hg; unfold Fld.sclF; rw [if_pos ⟨rfl, hj⟩]; show hp.fld.mul (f (Fld.sw t k t) j) s = _; rw [hsw]
  rw [e1, e1, e2, hp.fld.comm (hp.fld.mul (f k j) s)]
theorem solR_len {wb p : Nat} (hp : Prm wb p) {a : Mtx} {v : List Int} : (solR hp a v).2.length ≤ 20 := by
  unfold solR
  split
  · rename_i h
    obtain ⟨hmx, h1, h2, -⟩ := sqM_Mx h.1
    cases hi : hp.fld.iv a.length (en a) with
    | none => simp
    | some g =>
      have hI := hp.fld.iv_some (hmx.bd hp) hi
      show ((applyM _ _ v).getD []).length ≤ 20
      rw [apply_fld hp hI.bd' h.2.2 h.2.1 ⟨h1, h2⟩ ⟨h1, h2⟩]
      simpa using h2
  · simp
end Go.Gam

/- The walks of gambrelref05: rows times a number, two rows together, pivots, rows reduced. -/
set_option linter.unusedVariables false
set_option linter.unusedSimpArgs false
namespace Go.Proofs.Ytaeljbdpjiciaaa
open Go Go.Gam


namespace FxFRef05
theorem en55 : Ent Try.prog 55 := ent Try.func55 (by kernel_rfl) (by kernel_rfl)
theorem en82 : Ent Try.prog 82 := ent Try.func82 (by kernel_rfl) (by kernel_rfl)
theorem en106 : Ent Try.prog 106 := ent Try.func106 (by kernel_rfl) (by kernel_rfl)
theorem en107 : Ent Try.prog 107 := ent Try.func107 (by kernel_rfl) (by kernel_rfl)
theorem en108 : Ent Try.prog 108 := ent Try.func108 (by kernel_rfl) (by kernel_rfl)
theorem hmix : Try.prog.follows .mixedOrders = true := by kernel_rfl
theorem on37 : Gam.One Try.prog 37 := by unfold Gam.One; kernel_rfl
theorem sc3 : Scalar Try.prog 3 := ⟨_, Try.underlying3, by simp, by simp⟩
theorem sc37 : Scalar Try.prog 37 := ⟨_, Try.underlying37, by simp, by simp⟩
theorem sl27 : Sl Try.prog 27 37 (.slice none 0 0) 24 := sl_of Try.underlying27 rfl (by kernel_rfl)
theorem sl37 : Sl Try.prog 37 3 (.int .i64 0) 8 := sl_of Try.underlying37 rfl (by kernel_rfl)
end FxFRef05
open FxFRef05

set_option maxRecDepth 100000 in
set_option maxHeartbeats 1000000 in
theorem scaled_ok (B M wb p : Nat) (hp : Prm wb p) (pr : Option Addr) (cr m k s : Nat) (f : Tb) (w : World) (hI : Inv FDx B w) (hx : Row FDx B M w (.slice pr m cr) (zints (trow m f k))) (hf : hp.fld.Bd f) (hs : s < 2 ^ wb) (hM : M ≤ w.heap.size) (hm : m ≤ 100) : Ret Try.prog 107 [.int .i64 (wb : Int), .int .u32 (p : Int), .slice pr m cr, .int .i64 (s : Int)] w fun v w' => ∃ ob, Gam.Own FDx B w.heap.size w' FDx.E v ob (zints (trow m (fun _ j => hp.fld.mul (f k j) s) 0)) ∧ St FDx B w w' := by
 refine enter 29 [(0, .int .i64 (wb : Int)), (1, .int .u32 (p : Int)), (2, .slice pr m cr), (3, .int .i64 (s : Int))] 8 Try.func107 rfl rfl rfl rfl rfl ?_; intro a hF
 have hS := St.refl hI
 have hfw := hp.fld_w
 have h16 : 2 ^ wb ≤ 65536 := by rcases hp.w with h | h <;> rw [h] <;> decide
 refine W_sr rfl (fun K hK => ?_)
 refine sv hF (v_assign rfl) rfl ?_; clear hF a; intro a hF
 refine WL_nil (hK _ _ ?_)
 clear hK K
 refine W_sr rfl (fun K hK => ?_)
 refine sv hF (v_assign rfl) rfl ?_; clear hF a; intro a hF
 refine WL_nil (hK _ _ ?_)
 clear hK K
 refine W_seq ?_
 refine W_sr rfl (fun K hK => ?_)
 refine sv hF (v_assign rfl) rfl ?_; clear hF a; intro a hF
 refine WL_nil (hK _ _ ?_)
 clear hK K
 refine W_block ?_
 refine W_loop (fun q a w1 => ∃ (i : Nat) (v9 : Value) (b9 : Option Nat), Fr 29 [(0, .int .i64 (wb : Int)), (1, .int .u32 (p : Int)), (2, .slice pr m cr), (3, .int .i64 (s : Int)), (9, v9), (10, .int .i64 (i : Int))] a ∧ (St FDx B w w1) ∧ (Row FDx B M w1 (.slice pr m cr) (zints (trow m f k))) ∧ (Gam.Own FDx B w.heap.size w1 FDx.E v9 b9 (zints ((List.range i).map fun j => ((hp.fld.mul (f k j) s : Nat) : Int)))) ∧ (i ≤ m) ∧ (q + i = m)) (m) ?_ ?_
 ·
  skip
  exact ⟨0, _, none, hF.sub _ (c_ 0 rfl (c_ 1 rfl (c_ 2 rfl (c_ 3 rfl (c_ 9 rfl (c_ 10 rfl (n_))))))), hS, hx, Gam.Own.nil _ _ _ _ _, by omega, by omega⟩
 ·
  skip
  clear hF
  clear hS hx
  rintro q a w1 ⟨i, v9, b9, hF, hS, hx, hO, hi, hq⟩
  refine W_seq ?_
  refine W_sr rfl (fun K hK => ?_)
  refine sv2 hF (v_move rfl) (v_move rfl) rfl rfl ?_; clear hF a; intro a hF
  refine sv hF (v_lenS rfl sl37 rfl) rfl ?_; clear hF a; intro a hF
  refine sv hF (v_lss rfl rfl) rfl ?_; clear hF a; intro a hF
  refine WL_nil (hK _ _ ?_)
  clear hK K
  replace hF := hF.sub _ (c_ 14 rfl (c_ 0 rfl (c_ 1 rfl (c_ 2 rfl (c_ 3 rfl (c_ 9 rfl (c_ 10 rfl (n_))))))))
  refine W_if hF rfl (fun hc1 => ?_) (fun hc1 => ?_)
  ·
   skip
   try simp only [dcl] at hc1
   have hlt : i < m := by omega
   obtain ⟨gx, ox, hgx, hkx, -⟩ := hx.kat (zints_at (trow_at (m := m) (f := f) (i := k) hlt))
   subst hgx
   have hb := hf k i
   rw [hfw] at hb
   refine W_skip ?_
   refine W_seq ?_
   refine W_block ?_
   refine W_reg rfl (fun K hK => ?_)
   refine sv5 hF (v_move rfl) (v_move rfl) (v_move rfl) (v_move rfl) (v_move rfl) rfl rfl rfl rfl rfl ?_; clear hF a; intro a hF
   refine sv hF (v_ixS sl37 rfl rfl (by omega) (by omega)) rfl ?_; clear hF a; intro a hF
   refine sv hF (v_load sc3 rfl (by rw [toNat_c]; exact hkx.c)) rfl ?_; clear hF a; intro a hF
   refine sv hF (v_move rfl) rfl ?_; clear hF a; intro a hF
   refine sc hF rfl rfl rfl en82 rfl (rMul_gf B wb p ((f k i : Nat) : Int) (s : Int) _ hS.inv hp) ?_; clear hF a; intro v w' a hv hF
   obtain ⟨rfl, hS'⟩ := hv
   replace hx := hx.st hS'
   replace hO := hO.st (by decide) hS'
   replace hS := hS.trans hS'
   clear hS'
   rw [gmul_num hp hb hs] at hF
   refine s_bs (D := FDx) (B := B) hF sl37 rfl rfl (by decide) (by simp [Value.cells]) (by decide) hS.inv rfl ?_; clear hF a; intro w' a hm hI' hL hF
   replace hx := hx.mb hm (fun _ h => by cases h)
   replace hO := hO.mb hm (fun _ _ => by simp)
   replace hS := hS.mb0 hm
   clear hm hI'
   refine s_app (D := FDx) (B := B) hF rfl sl37 rfl rfl hO (hL.row (by decide)) (by simp [Value.oneCell']) (by simp; omega) (by simp [maxLen]; omega) (hS.ext.size) (by decide) hS.inv rfl ?_; clear hF a; intro v' b' w' a ho' hm hI' hb' hF
   replace hx := hx.mb hm (fun k h => Nat.le_trans (hM) (hO.lt k h).1)
   replace hS := hS.mb hm (fun k h => Nat.le_trans (Nat.le_refl _) (hO.lt k h).1)
   replace hO := ho'
   clear hm hI' ho'
   refine sv hF (v_assign rfl) rfl ?_; clear hF a; intro a hF
   refine WL_nil (hK _ _ ?_)
   clear hK K
   replace hF := hF.sub _ (c_ 9 rfl (c_ 0 rfl (c_ 1 rfl (c_ 2 rfl (c_ 3 rfl (c_ 10 rfl (n_)))))))
   refine W_reg rfl (fun K hK => ?_)
   refine sv hF (v_move rfl) rfl ?_; clear hF a; intro a hF
   refine sv hF (v_addI rfl rfl (by omega)) rfl ?_; clear hF a; intro a hF
   refine sv hF (v_assign rfl) rfl ?_; clear hF a; intro a hF
   refine WL_nil (hK _ _ ?_)
   clear hK K
   exact ⟨q - 1, by omega, i + 1, _, _, hF.sub _ (c_ 0 rfl (c_ 1 rfl (c_ 2 rfl (c_ 3 rfl (c_ 9 rfl (c_ 10 rfl (n_))))))), hS, hx, hO.cast (by rw [List.range_succ, List.map_append]; simp [zints]), by omega, by omega⟩
  ·
   skip
   try simp only [dcl] at hc1
   refine W_exit rfl ?_
   refine W_sr rfl (fun K hK => ?_)
   refine sv2 hF (v_move rfl) (v_assign rfl) rfl rfl ?_; clear hF a; intro a hF
   refine WL_nil (hK _ _ ?_)
   clear hK K
   replace hF := hF.sub _ (c_ 8 rfl (c_ 28 rfl (c_ 0 rfl (c_ 1 rfl (c_ 2 rfl (c_ 3 rfl (c_ 9 rfl (c_ 10 rfl (n_)))))))))
   refine W_ret ?_
   refine ⟨_, _, hF, rfl, ?_⟩
   obtain rfl : i = m := by omega
   exact ⟨_, hO, hS⟩

set_option maxRecDepth 100000 in
set_option maxHeartbeats 1000000 in
theorem added_ok (B M : Nat) (pa pb : Option Addr) (ca cb m i k : Nat) (f g : Tb) (w : World) (hI : Inv FDx B w) (hA : Row FDx B M w (.slice pa m ca) (zints (trow m f i))) (hB : Row FDx B M w (.slice pb m cb) (zints (trow m g k))) (hf : ∀ j, f i j < 65536) (hg : ∀ j, g k j < 65536) (hM : M ≤ w.heap.size) (hm : m ≤ 100) : Ret Try.prog 108 [.slice pa m ca, .slice pb m cb] w fun v w' => ∃ ob, Gam.Own FDx B w.heap.size w' FDx.E v ob (zints (trow m (fun _ j => f i j ^^^ g k j) 0)) ∧ St FDx B w w' := by
 refine enter 26 [(0, .slice pa m ca), (1, .slice pb m cb)] 4 Try.func108 rfl rfl rfl rfl rfl ?_; intro a hF
 have hS := St.refl hI
 refine W_sr rfl (fun K hK => ?_)
 refine sv hF (v_assign rfl) rfl ?_; clear hF a; intro a hF
 refine WL_nil (hK _ _ ?_)
 clear hK K
 refine W_sr rfl (fun K hK => ?_)
 refine sv hF (v_assign rfl) rfl ?_; clear hF a; intro a hF
 refine WL_nil (hK _ _ ?_)
 clear hK K
 refine W_seq ?_
 refine W_sr rfl (fun K hK => ?_)
 refine sv hF (v_assign rfl) rfl ?_; clear hF a; intro a hF
 refine WL_nil (hK _ _ ?_)
 clear hK K
 refine W_block ?_
 refine W_loop (fun q a w1 => ∃ (j : Nat) (v5 : Value) (b5 : Option Nat), Fr 26 [(0, .slice pa m ca), (1, .slice pb m cb), (5, v5), (6, .int .i64 (j : Int))] a ∧ (St FDx B w w1) ∧ (Row FDx B M w1 (.slice pa m ca) (zints (trow m f i))) ∧ (Row FDx B M w1 (.slice pb m cb) (zints (trow m g k))) ∧ (Gam.Own FDx B w.heap.size w1 FDx.E v5 b5 (zints ((List.range j).map fun j => ((f i j ^^^ g k j : Nat) : Int)))) ∧ (j ≤ m) ∧ (q + j = m)) (m) ?_ ?_
 ·
  skip
  exact ⟨0, _, none, hF.sub _ (c_ 0 rfl (c_ 1 rfl (c_ 5 rfl (c_ 6 rfl (n_))))), hS, hA, hB, Gam.Own.nil _ _ _ _ _, by omega, by omega⟩
 ·
  skip
  clear hF
  clear hS hA hB
  rintro q a w1 ⟨j, v5, b5, hF, hS, hA, hB, hO, hj, hq⟩
  refine W_seq ?_
  refine W_sr rfl (fun K hK => ?_)
  refine sv2 hF (v_move rfl) (v_move rfl) rfl rfl ?_; clear hF a; intro a hF
  refine sv hF (v_lenS rfl sl37 rfl) rfl ?_; clear hF a; intro a hF
  refine sv hF (v_lss rfl rfl) rfl ?_; clear hF a; intro a hF
  refine WL_nil (hK _ _ ?_)
  clear hK K
  replace hF := hF.sub _ (c_ 10 rfl (c_ 0 rfl (c_ 1 rfl (c_ 5 rfl (c_ 6 rfl (n_))))))
  refine W_if hF rfl (fun hc1 => ?_) (fun hc1 => ?_)
  ·
   skip
   try simp only [dcl] at hc1
   have hlt : j < m := by omega
   obtain ⟨ga, oa, hga, -⟩ := hA.kat (zints_at (trow_at (m := m) (f := f) (i := i) hlt))
   subst hga
   obtain ⟨gb, ob_, hgb, -⟩ := hB.kat (zints_at (trow_at (m := m) (f := g) (i := k) hlt))
   subst hgb
   have hb1 := hf j
   have hb2 := hg j
   refine W_skip ?_
   refine W_seq ?_
   refine W_block ?_
   refine W_dS (fun (w2 : World) => w2.cell? ⟨ga, oa + j, none⟩ = some (.int .i64 ((f i j : Nat) : Int)) ∧ w2.cell? ⟨gb, ob_ + j, none⟩ = some (.int .i64 ((g k j : Nat) : Int))) (m := 13) rfl hmix (fun K hK => ?_)
   have hS' := St.drew hS.inv
   replace hA := hA.st hS'
   replace hB := hB.st hS'
   replace hO := hO.st (by decide) hS'
   replace hS := hS.trans hS'
   clear hS'
   have hSS : (fun (w2 : World) => w2.cell? ⟨ga, oa + j, none⟩ = some (.int .i64 ((f i j : Nat) : Int)) ∧ w2.cell? ⟨gb, ob_ + j, none⟩ = some (.int .i64 ((g k j : Nat) : Int))) _ := And.intro (hA.ldx (Ext.refl _ _ _) (zints_at (trow_at (f := f) (m := m) hlt))) (hB.ldx (Ext.refl _ _ _) (zints_at (trow_at (f := g) (m := m) hlt)))
   refine b_v (i := 0) rfl (by kernel_rfl) hF (fun w2 hx => v_move rfl) rfl hSS ?_; clear hF a; intro a hF
   refine b_v (i := 1) rfl (by kernel_rfl) hF (fun w2 hx => v_move rfl) rfl hSS ?_; clear hF a; intro a hF
   refine b_v (i := 2) rfl (by kernel_rfl) hF (fun w2 hx => v_move rfl) rfl hSS ?_; clear hF a; intro a hF
   refine b_v (i := 3) rfl (by kernel_rfl) hF (fun w2 hx => v_ixS sl37 rfl rfl (by omega) (by omega)) rfl hSS ?_; clear hF a; intro a hF
   refine b_v (i := 4) rfl (by kernel_rfl) hF (fun w2 hx => v_load sc3 rfl (by rw [toNat_c]; exact hx.1)) rfl hSS ?_; clear hF a; intro a hF
   refine b_v (i := 5) rfl (by kernel_rfl) hF (fun w2 hx => v_move rfl) rfl hSS ?_; clear hF a; intro a hF
   refine b_v (i := 6) rfl (by kernel_rfl) hF (fun w2 hx => v_move rfl) rfl hSS ?_; clear hF a; intro a hF
   refine b_v (i := 7) rfl (by kernel_rfl) hF (fun w2 hx => v_ixS sl37 rfl rfl (by omega) (by omega)) rfl hSS ?_; clear hF a; intro a hF
   refine b_v (i := 8) rfl (by kernel_rfl) hF (fun w2 hx => v_load sc3 rfl (by rw [toNat_c]; exact hx.2)) rfl hSS ?_; clear hF a; intro a hF
   refine b_v (i := 9) rfl (by kernel_rfl) hF (fun w2 hx => v_xorN rfl rfl (fits_i64 (by omega)) (fits_i64 (by omega))) rfl hSS ?_; clear hF a; intro a hF
   refine b_e (i := 10) (by kernel_rfl) rfl ?_
   refine s_bs (D := FDx) (B := B) hF sl37 rfl rfl (by decide) (by simp [Value.cells]) (by decide) hS.inv rfl ?_; clear hF a; intro w' a hm hI' hb hF
   replace hA := hA.mb hm (fun _ h => by cases h)
   replace hB := hB.mb hm (fun _ h => by cases h)
   replace hO := hO.mb hm (fun _ _ => by simp)
   replace hS := hS.mb0 hm
   clear hm hI'
   clear hSS
   have hSS : (fun (w2 : World) => w2.cell? ⟨ga, oa + j, none⟩ = some (.int .i64 ((f i j : Nat) : Int)) ∧ w2.cell? ⟨gb, ob_ + j, none⟩ = some (.int .i64 ((g k j : Nat) : Int))) _ := And.intro (hA.ldx (Ext.refl _ _ _) (zints_at (trow_at (f := f) (m := m) hlt))) (hB.ldx (Ext.refl _ _ _) (zints_at (trow_at (f := g) (m := m) hlt)))
   refine WL_nil ⟨hSS, ?_⟩
   refine b_e (i := 11) (by kernel_rfl) rfl ?_
   refine s_app (D := FDx) (B := B) hF rfl sl37 rfl rfl hO (hb.row (by decide)) (by simp [Value.oneCell']) (by simp; omega) (by simp [maxLen]; omega) (hS.ext.size) (by decide) hS.inv rfl ?_; clear hF a; intro v' b' w' a ho' hm hI' hb' hF
   replace hA := hA.mb hm (fun k h => Nat.le_trans (hM) (hO.lt k h).1)
   replace hB := hB.mb hm (fun k h => Nat.le_trans (hM) (hO.lt k h).1)
   replace hS := hS.mb hm (fun k h => Nat.le_trans (Nat.le_refl _) (hO.lt k h).1)
   replace hO := ho'
   clear hm hI' ho' hb
   clear hSS
   have hSS : (fun (w2 : World) => w2.cell? ⟨ga, oa + j, none⟩ = some (.int .i64 ((f i j : Nat) : Int)) ∧ w2.cell? ⟨gb, ob_ + j, none⟩ = some (.int .i64 ((g k j : Nat) : Int))) _ := And.intro (hA.ldx (Ext.refl _ _ _) (zints_at (trow_at (f := f) (m := m) hlt))) (hB.ldx (Ext.refl _ _ _) (zints_at (trow_at (f := g) (m := m) hlt)))
   refine WL_nil ⟨hSS, ?_⟩
   refine b_v (i := 12) rfl (by kernel_rfl) hF (fun w2 hx => v_assign rfl) rfl hSS ?_; clear hF a; intro a hF
   refine b_done (by kernel_rfl) (hK _ _ ?_)
   clear hK K
   replace hF := hF.sub _ (c_ 5 rfl (c_ 0 rfl (c_ 1 rfl (c_ 6 rfl (n_)))))
   refine W_reg rfl (fun K hK => ?_)
   refine sv hF (v_move rfl) rfl ?_; clear hF a; intro a hF
   refine sv hF (v_addI rfl rfl (by omega)) rfl ?_; clear hF a; intro a hF
   refine sv hF (v_assign rfl) rfl ?_; clear hF a; intro a hF
   refine WL_nil (hK _ _ ?_)
   clear hK K
   exact ⟨q - 1, by omega, j + 1, _, _, hF.sub _ (c_ 0 rfl (c_ 1 rfl (c_ 5 rfl (c_ 6 rfl (n_))))), hS, hA, hB, hO.cast (by rw [List.range_succ, List.map_append]; simp [zints]), by omega, by omega⟩
  ·
   skip
   try simp only [dcl] at hc1
   refine W_exit rfl ?_
   refine W_sr rfl (fun K hK => ?_)
   refine sv2 hF (v_move rfl) (v_assign rfl) rfl rfl ?_; clear hF a; intro a hF
   refine WL_nil (hK _ _ ?_)
   clear hK K
   replace hF := hF.sub _ (c_ 4 rfl (c_ 25 rfl (c_ 0 rfl (c_ 1 rfl (c_ 5 rfl (c_ 6 rfl (n_)))))))
   refine W_ret ?_
   refine ⟨_, _, hF, rfl, ?_⟩
   obtain rfl : j = m := by omega
   exact ⟨_, hO, hS⟩

set_option maxRecDepth 100000 in
set_option maxHeartbeats 1000000 in
theorem pivot_ok (B M n m t c : Nat) (f : Tb) (pmt : Option Addr) (cmt : Nat) (w : World) (hI : Inv FDx B w) (hA : Mat FDx B M w pmt cmt (tab n m f)) (ht : t ≤ n) (hc : c < m) (hnm : n ≤ 100 ∧ m ≤ 100) : Ret Try.prog 106 [.slice pmt n cmt, .int .i64 (t : Int), .int .i64 (c : Int)] w fun v w' => v = .int .i64 (pivI f n c t) ∧ St FDx B w w' := by
 refine enter 24 [(0, .slice pmt n cmt), (1, .int .i64 (t : Int)), (2, .int .i64 (c : Int))] 6 Try.func106 rfl rfl rfl rfl rfl ?_; intro a hF
 have hS := St.refl hI
 have htl := tab_length n m f
 refine W_sr rfl (fun K hK => ?_)
 refine sv hF (v_assign rfl) rfl ?_; clear hF a; intro a hF
 refine WL_nil (hK _ _ ?_)
 clear hK K
 refine W_seq ?_
 refine W_sr rfl (fun K hK => ?_)
 refine sv2 hF (v_move rfl) (v_assign rfl) rfl rfl ?_; clear hF a; intro a hF
 refine WL_nil (hK _ _ ?_)
 clear hK K
 replace hF := hF.sub _ (c_ 7 rfl (c_ 6 rfl (c_ 0 rfl (c_ 2 rfl (n_)))))
 refine W_block ?_
 refine W_loop (fun q a w1 => ∃ (i : Nat), Fr 24 [(0, .slice pmt n cmt), (2, .int .i64 (c : Int)), (7, .int .i64 (i : Int))] a ∧ (St FDx B w w1) ∧ (Mat FDx B M w1 pmt cmt (tab n m f)) ∧ (∀ a, t ≤ a → a < i → f a c = 0) ∧ (t ≤ i ∧ i ≤ n) ∧ (q + i = n)) (n - t) ?_ ?_
 ·
  skip
  exact ⟨t, hF.sub _ (c_ 0 rfl (c_ 2 rfl (c_ 7 rfl (n_)))), hS, hA, fun a h1 h2 => by omega, by omega, by omega⟩
 ·
  skip
  clear hF
  clear hS hA
  rintro q a w1 ⟨i, hF, hS, hA, hz, hi, hq⟩
  refine W_seq ?_
  refine W_sr rfl (fun K hK => ?_)
  refine sv2 hF (v_move rfl) (v_move rfl) rfl rfl ?_; clear hF a; intro a hF
  refine sv hF (v_lenS rfl sl27 rfl) rfl ?_; clear hF a; intro a hF
  refine sv hF (v_lss rfl rfl) rfl ?_; clear hF a; intro a hF
  refine WL_nil (hK _ _ ?_)
  clear hK K
  replace hF := hF.sub _ (c_ 12 rfl (c_ 0 rfl (c_ 2 rfl (c_ 7 rfl (n_)))))
  refine W_if hF rfl (fun hc1 => ?_) (fun hc1 => ?_)
  ·
   skip
   try simp only [dcl] at hc1
   have hlt : i < n := by omega
   obtain ⟨gm, om, pr, cr, hgm, hkr, hrow, -⟩ := hA.row (tab_at (f := f) (m := m) hlt)
   cases hgm
   have hrl : ((List.range m).map fun j => ((f i j : Nat) : Int)).length = m := by simp
   rw [hrl] at hkr hrow
   obtain ⟨gx, ox, hgx, hkx, -⟩ := hrow.kat (zints_at (trow_at (m := m) (f := f) (i := i) hc))
   cases hgx
   refine W_skip ?_
   refine W_seq ?_
   refine W_block ?_
   refine W_sr rfl (fun K hK => ?_)
   refine sv2 hF (v_move rfl) (v_move rfl) rfl rfl ?_; clear hF a; intro a hF
   refine sv hF (v_ixS sl27 rfl rfl (by omega) (by omega)) rfl ?_; clear hF a; intro a hF
   refine sv hF (v_load sc37 rfl (by rw [toNat_c]; exact hkr.c)) rfl ?_; clear hF a; intro a hF
   refine sv hF (v_move rfl) rfl ?_; clear hF a; intro a hF
   refine sv hF (v_ixS sl37 rfl rfl (by omega) (by omega)) rfl ?_; clear hF a; intro a hF
   refine sv hF (v_load sc3 rfl (by rw [toNat_c]; exact hkx.c)) rfl ?_; clear hF a; intro a hF
   refine sv hF (v_neq rfl rfl) rfl ?_; clear hF a; intro a hF
   refine WL_nil (hK _ _ ?_)
   clear hK K
   replace hF := hF.sub _ (c_ 22 rfl (c_ 0 rfl (c_ 2 rfl (c_ 7 rfl (n_)))))
   refine W_if hF rfl (fun hc2 => ?_) (fun hc2 => ?_)
   ·
    skip
    try simp only [dcl] at hc2
    refine W_sr rfl (fun K hK => ?_)
    refine sv2 hF (v_move rfl) (v_assign rfl) rfl rfl ?_; clear hF a; intro a hF
    refine WL_nil (hK _ _ ?_)
    clear hK K
    replace hF := hF.sub _ (c_ 6 rfl (c_ 0 rfl (c_ 2 rfl (c_ 7 rfl (n_)))))
    refine W_ret ?_
    refine ⟨_, _, hF, rfl, ?_⟩
    exact ⟨congrArg _ (by unfold pivI; rw [Fld.piv_is (k := i) (by omega) (by omega) (by omega) hz]), hS⟩
   ·
    skip
    try simp only [dcl] at hc2
    refine W_skip ?_
    refine W_reg rfl (fun K hK => ?_)
    refine sv hF (v_move rfl) rfl ?_; clear hF a; intro a hF
    refine sv hF (v_addI rfl rfl (by omega)) rfl ?_; clear hF a; intro a hF
    refine sv hF (v_assign rfl) rfl ?_; clear hF a; intro a hF
    refine WL_nil (hK _ _ ?_)
    clear hK K
    replace hF := hF.sub _ (c_ 7 rfl (c_ 14 rfl (c_ 13 rfl (c_ 0 rfl (c_ 2 rfl (n_))))))
    exact ⟨q - 1, by omega, i + 1, hF.sub _ (c_ 0 rfl (c_ 2 rfl (c_ 7 rfl (n_)))), hS, hA, fun a h1 h2 => by by_cases h : a = i; (subst h; omega); exact hz a h1 (by omega), by omega, by omega⟩
  ·
   skip
   try simp only [dcl] at hc1
   refine W_exit rfl ?_
   refine W_sr rfl (fun K hK => ?_)
   refine sv hF (v_assign rfl) rfl ?_; clear hF a; intro a hF
   refine WL_nil (hK _ _ ?_)
   clear hK K
   replace hF := hF.sub _ (c_ 6 rfl (c_ 0 rfl (c_ 2 rfl (c_ 7 rfl (n_)))))
   refine W_ret ?_
   refine ⟨_, _, hF, rfl, ?_⟩
   exact ⟨congrArg _ (by unfold pivI; rw [Fld.piv_no fun a h1 h2 => hz a h1 (by omega)]), hS⟩

set_option maxRecDepth 100000 in
set_option maxHeartbeats 1000000 in
theorem reduced_ok (B M wb p n m cols : Nat) (hp : Prm wb p) (pmt : Option Addr) (cmt : Nat) (f : Tb) (w : World) (hI : Inv FDx B w) (hA : Mat FDx B M w pmt cmt (tab n m f)) (hM : M ≤ w.heap.size) (hfb : hp.fld.Bd f) (hcm : cols ≤ m) (hnm : 1 ≤ n ∧ n ≤ 40 ∧ m ≤ 40) : Ret Try.prog 81 [.int .i64 (wb : Int), .int .u32 (p : Int), .slice pmt n cmt, .int .i64 (cols : Int)] w fun v w' => ∃ go cap, v = .tuple #[.slice (some ⟨go, 0, none⟩) n cap, .int .i64 ((hp.fld.rk n f cols : Nat) : Int)] ∧ MOwn FDx B w.heap.size M w'.heap.size w' 37 (.slice (some ⟨go, 0, none⟩) n cap) (some go) (tab n m ((hp.fld.red n f cols).1)) ∧ St FDx B w w' := by
 refine enter2 112 [(0, .int .i64 (wb : Int)), (1, .int .u32 (p : Int)), (2, .slice pmt n cmt), (3, .int .i64 (cols : Int))] 8 9 Try.func81 rfl rfl rfl rfl rfl ?_; intro a hF
 have hS := St.refl hI
 have hfw := hp.fld_w
 have h16 : 2 ^ wb ≤ 65536 := by rcases hp.w with h | h <;> rw [h] <;> decide
 have htl := tab_length n m f
 refine W_sr rfl (fun K hK => ?_)
 refine sv2 hF (v_assign rfl) (v_assign rfl) rfl rfl ?_; clear hF a; intro a hF
 refine WL_nil (hK _ _ ?_)
 clear hK K
 refine W_sr rfl (fun K hK => ?_)
 have hs0 := hS.ext.size
 refine s_bs (D := FDx) (B := B) hF sl27 rfl rfl (by decide) (by simp [Value.cells]) (by decide) hS.inv rfl ?_; clear hF a; intro w' a hm hI' hL hF
 replace hA := hA.mb hm (fun _ h => by cases h)
 replace hS := hS.mb0 hm
 clear hm hI'
 have hMO : MOwn FDx B w.heap.size M w.heap.size w' 37 _ _ [] := ⟨⟨[], rfl, hL.le hs0, fun j v r x => by simp at x⟩, hM⟩
 clear hL
 refine sv hF (v_move rfl) rfl ?_; clear hF a; intro a hF
 refine s_appMM (D := FDx) (B := B) hF rfl sl27 rfl rfl hMO (by have h := hA.rowsO (N := M) (K := w.heap.size) (Nat.le_refl _); rw [htl] at h; exact h) rfl (by rw [htl]; simp; omega) (hS.ext.size) (by decide) (by decide) hS.inv rfl ?_; clear hF a; intro v' b' w' a ho' hm hI' hF
 replace hS := hS.mb hm (fun k h => (hMO.lt k h).1)
 have hKm := hm.size
 replace hMO := ho'
 clear hm hI' ho'
 refine sv hF (v_assign rfl) rfl ?_; clear hF a; intro a hF
 refine WL_nil (hK _ _ ?_)
 clear hK K
 replace hF := hF.sub _ (c_ 10 rfl (c_ 9 rfl (c_ 8 rfl (c_ 0 rfl (c_ 1 rfl (c_ 3 rfl (n_)))))))
 have hl0 : ([] ++ tab n m f).length = n := by rw [List.nil_append, htl]
 obtain ⟨go, cap, rfl, rfl⟩ := hMO.ptr (by rw [hl0]; omega)
 rw [hl0] at hMO hF
 replace hMO := (hMO.cast (List.nil_append _)).up hS.ext.size
 clear hA hKm
 refine W_sr rfl (fun K hK => ?_)
 refine sv hF (v_assign rfl) rfl ?_; clear hF a; intro a hF
 refine WL_nil (hK _ _ ?_)
 clear hK K
 refine W_seq ?_
 refine W_sr rfl (fun K hK => ?_)
 refine sv hF (v_assign rfl) rfl ?_; clear hF a; intro a hF
 refine WL_nil (hK _ _ ?_)
 clear hK K
 refine W_block ?_
 refine W_loop (fun q a w1 => ∃ (c : Nat), Fr 112 [(0, .int .i64 (wb : Int)), (1, .int .u32 (p : Int)), (3, .int .i64 (cols : Int)), (10, .slice (some ⟨go, 0, none⟩) n cap), (11, .int .i64 (((hp.fld.red n f c).2 : Nat) : Int)), (12, .int .i64 (c : Int))] a ∧ (St FDx B w w1) ∧ (MOwn FDx B w.heap.size M w1.heap.size w1 37 (.slice (some ⟨go, 0, none⟩) n cap) (some go) (tab n m ((hp.fld.red n f c).1))) ∧ (c ≤ cols) ∧ (q + c = cols)) (cols) ?_ ?_
 ·
  skip
  exact ⟨0, hF.sub _ (c_ 0 rfl (c_ 1 rfl (c_ 3 rfl (c_ 10 rfl (c_ 11 rfl (c_ 12 rfl (n_))))))), hS, hMO, by omega, by omega⟩
 ·
  skip
  clear hF
  clear hS
  rintro q a w1 ⟨c, hF, hS, hMO, hc, hq⟩
  refine W_seq ?_
  obtain ⟨KM, hKe⟩ : ∃ KM, KM = w1.heap.size := ⟨_, rfl⟩
  rw [← hKe] at hMO
  have hKs : KM ≤ w1.heap.size := by omega
  have hNK : w.heap.size ≤ KM := by have := hS.ext.size; omega
  clear hKe
  have hRd := hp.fld.red_ok (n := n) hfb c
  have htn := hRd.tn
  refine W_sr rfl (fun K hK => ?_)
  refine sv2 hF (v_move rfl) (v_move rfl) rfl rfl ?_; clear hF a; intro a hF
  refine sb hF (v_lss rfl rfl) rfl ?_ ?_
  ·
   clear hF a; intro hc1 a hF
   try simp only [dcl] at hc1
   refine sv hF (v_move rfl) rfl ?_; clear hF a; intro a hF
   refine svg hF rfl ?_
   refine sv hF (v_move rfl) rfl ?_; clear hF a; intro a hF
   refine svg hF rfl ?_
   refine sv hF (v_move rfl) rfl ?_; clear hF a; intro a hF
   refine svg hF rfl ?_
   refine sv hF (v_lenS rfl sl27 rfl) rfl ?_; clear hF a; intro a hF
   refine svg hF rfl ?_
   refine sv hF (v_lss rfl rfl) rfl ?_; clear hF a; intro a hF
   refine sv hF (v_pickT rfl rfl) rfl ?_; clear hF a; intro a hF
   refine WL_nil (hK _ _ ?_)
   clear hK K
   replace hF := hF.sub _ (c_ 29 rfl (c_ 0 rfl (c_ 1 rfl (c_ 3 rfl (c_ 10 rfl (c_ 11 rfl (c_ 12 rfl (n_))))))))
   refine W_if hF rfl (fun hc2 => ?_) (fun hc2 => ?_)
   ·
    skip
    try simp only [dcl] at hc2
    obtain ⟨f1, hf1⟩ : ∃ x, x = (hp.fld.red n f c).1 := ⟨_, rfl⟩
    obtain ⟨t, ht1⟩ : ∃ x, x = (hp.fld.red n f c).2 := ⟨_, rfl⟩
    rw [← hf1, ← ht1] at hRd
    rw [← hf1] at hMO
    rw [← ht1] at hF htn hc2
    have hb1 := hRd.bd
    clear hRd
    have hcl : c < m := by omega
    have ht : t < n := by omega
    refine W_skip ?_
    refine W_seq ?_
    refine W_block ?_
    refine W_sr rfl (fun K hK => ?_)
    refine sv3 hF (v_move rfl) (v_move rfl) (v_move rfl) rfl rfl rfl ?_; clear hF a; intro a hF
    have hMt := hMO.matS (by decide) (Nat.le_trans hM hS.ext.size)
    refine sc hF rfl rfl rfl en106 rfl (pivot_ok B _ n m t c f1 _ _ _ hS.inv hMt (by omega) hcl (by omega)) ?_; clear hF a; intro v w' a hv hF
    obtain ⟨rfl, hS'⟩ := hv
    replace hMO := hMO.st (by decide) hS'
    replace hKs := Nat.le_trans hKs hS'.ext.size
    replace hS := hS.trans hS'
    clear hS'
    clear hMt
    refine sv hF (v_assign rfl) rfl ?_; clear hF a; intro a hF
    refine WL_nil (hK _ _ ?_)
    clear hK K
    replace hF := hF.sub _ (c_ 13 rfl (c_ 0 rfl (c_ 1 rfl (c_ 3 rfl (c_ 10 rfl (c_ 11 rfl (c_ 12 rfl (n_))))))))
    refine W_seq ?_
    refine W_sr rfl (fun K hK => ?_)
    refine sv hF (v_move rfl) rfl ?_; clear hF a; intro a hF
    refine sv hF (v_lss rfl rfl) rfl ?_; clear hF a; intro a hF
    refine WL_nil (hK _ _ ?_)
    clear hK K
    replace hF := hF.sub _ (c_ 37 rfl (c_ 13 rfl (c_ 0 rfl (c_ 1 rfl (c_ 3 rfl (c_ 10 rfl (c_ 11 rfl (c_ 12 rfl (n_)))))))))
    refine W_if hF rfl (fun hc3 => ?_) (fun hc3 => ?_)
    ·
     skip
     try simp only [dcl] at hc3
     have hrd := hp.fld.red_none hf1.symm ht1.symm (pivI_neg (by assumption))
     have hrd1 : (hp.fld.red n f (c + 1)).1 = f1 := by rw [hrd]
     have hrd2 : (hp.fld.red n f (c + 1)).2 = t := by rw [hrd]
     rw [← hrd1] at hMO
     rw [show (t : Int) = (((hp.fld.red n f (c + 1)).2 : Nat) : Int) by rw [hrd2]] at hF
     refine W_exit rfl ?_
     refine W_reg rfl (fun K hK => ?_)
     refine sv hF (v_move rfl) rfl ?_; clear hF a; intro a hF
     refine sv hF (v_addI rfl rfl (by omega)) rfl ?_; clear hF a; intro a hF
     refine sv hF (v_assign rfl) rfl ?_; clear hF a; intro a hF
     refine WL_nil (hK _ _ ?_)
     clear hK K
     replace hF := hF.sub _ (c_ 12 rfl (c_ 31 rfl (c_ 30 rfl (c_ 0 rfl (c_ 1 rfl (c_ 3 rfl (c_ 10 rfl (c_ 11 rfl (n_)))))))))
     exact ⟨q - 1, by omega, c + 1, hF.sub _ (c_ 0 rfl (c_ 1 rfl (c_ 3 rfl (c_ 10 rfl (c_ 11 rfl (c_ 12 rfl (n_))))))), hS, hMO.up (by first | exact hKs | exact hKz | exact Nat.le_refl _), by omega, by omega⟩
    ·
     skip
     try simp only [dcl] at hc3
     obtain ⟨k, hpk, hpi⟩ := pivI_nn (f := f1) (n := n) (c := c) (t := t) (by assumption)
     rw [hpi] at hF
     obtain ⟨htk, hkn0, hk0, -⟩ := Fld.piv_some hpk
     have hkn : k < n := by omega
     have hsw : Fld.sw t k t = k := by unfold Fld.sw; rw [if_pos rfl]
     have hMt := hMO.matS (by decide) (Nat.le_trans hM hS.ext.size)
     obtain ⟨gm, om, pr, cr, hgm, hkr, hrow, -⟩ := hMt.row (tab_at (f := f1) (m := m) hkn)
     cases hgm
     have hrl : ((List.range m).map fun j => ((f1 k j : Nat) : Int)).length = m := by simp
     rw [hrl] at hkr hrow
     obtain ⟨gx, ox, hgx, hkx, -⟩ := hrow.kat (zints_at (trow_at (m := m) (f := f1) (i := k) hcl))
     cases hgx
     have hkb := hb1 k c
     rw [hfw] at hkb
     clear hMt
     refine W_skip ?_
     refine W_sr rfl (fun K hK => ?_)
     refine sv4 hF (v_move rfl) (v_move rfl) (v_move rfl) (v_move rfl) rfl rfl rfl rfl ?_; clear hF a; intro a hF
     refine sv hF (v_ixS sl27 rfl rfl (by omega) (by omega)) rfl ?_; clear hF a; intro a hF
     refine sv hF (v_load sc37 rfl (by rw [toNat_c]; exact hkr.c)) rfl ?_; clear hF a; intro a hF
     refine sv hF (v_move rfl) rfl ?_; clear hF a; intro a hF
     refine sv hF (v_ixS sl37 rfl rfl (by omega) (by omega)) rfl ?_; clear hF a; intro a hF
     refine sv hF (v_load sc3 rfl (by rw [toNat_c]; exact hkx.c)) rfl ?_; clear hF a; intro a hF
     refine sc hF rfl rfl rfl en55 rfl (rInv_gf B wb p ((f1 k c : Nat) : Int) _ hS.inv hp) ?_; clear hF a; intro v w' a hv hF
     obtain ⟨rfl, hS'⟩ := hv
     replace hMO := hMO.st (by decide) hS'
     replace hKs := Nat.le_trans hKs hS'.ext.size
     replace hkr := hkr.st hS'
     replace hrow := (hrow.st hS').mono hS'.ext.size
     replace hS := hS.trans hS'
     clear hS'
     clear hkx
     rw [ginv_fld hp hkb hk0] at hF
     have hib := hp.fld.inv_lt (f1 k c)
     rw [hfw] at hib
     refine sv5 hF (v_move rfl) (v_ext rfl rfl) (v_ext rfl rfl) (v_assign rfl) (v_assign rfl) rfl rfl rfl rfl rfl ?_; clear hF a; intro a hF
     refine WL_nil (hK _ _ ?_)
     clear hK K
     replace hF := hF.sub _ (c_ 14 rfl (c_ 13 rfl (c_ 0 rfl (c_ 1 rfl (c_ 3 rfl (c_ 10 rfl (c_ 11 rfl (c_ 12 rfl (n_)))))))))
     refine W_sr rfl (fun K hK => ?_)
     refine sv4 hF (v_move rfl) (v_move rfl) (v_move rfl) (v_move rfl) rfl rfl rfl rfl ?_; clear hF a; intro a hF
     refine sv hF (v_ixS sl27 rfl rfl (by omega) (by omega)) rfl ?_; clear hF a; intro a hF
     refine sv hF (v_load sc37 rfl (by rw [toNat_c]; exact hkr.c)) rfl ?_; clear hF a; intro a hF
     refine sv hF (v_move rfl) rfl ?_; clear hF a; intro a hF
     refine sc hF rfl rfl rfl en107 rfl (scaled_ok B _ wb p hp _ _ m k (hp.fld.inv (f1 k c)) f1 _ hS.inv hrow hb1 hib (Nat.le_refl _) (by omega)) ?_; clear hF a; intro v w' a hv hF
     obtain ⟨ob, hR, hS'⟩ := hv
     replace hR := hR.le hKs
     obtain ⟨gR, cR, rfl, rfl⟩ := hR.ptr (by simp; omega)
     rw [zints_length, trow_length] at hR hF
     clear hkr hrow
     replace hMO := hMO.st (by decide) hS'
     replace hKs := Nat.le_trans hKs hS'.ext.size
     replace hS := hS.trans hS'
     clear hS'
     refine sv hF (v_assign rfl) rfl ?_; clear hF a; intro a hF
     refine WL_nil (hK _ _ ?_)
     clear hK K
     replace hF := hF.sub _ (c_ 16 rfl (c_ 13 rfl (c_ 0 rfl (c_ 1 rfl (c_ 3 rfl (c_ 10 rfl (c_ 11 rfl (c_ 12 rfl (n_)))))))))
     have hMO2 := hMO
     rw [show MOwn FDx B w.heap.size M KM w' 37 (.slice (some ⟨go, 0, none⟩) n cap) (some go) (tab n m f1) = MOwn FDx B w.heap.size M KM w' 37 (.slice (some ⟨go, 0, none⟩) (tab n m f1).length cap) (some go) (tab n m f1) by rw [tab_length]] at hMO2
     obtain ⟨p_t, c_t, hkt, hrt⟩ := hMO2.rowO (by decide) (i := t) (r := trow m f1 t) (tab_at ht)
     rw [trow_length] at hkt hrt
     clear hMO2
     refine W_sr rfl (fun K hK => ?_)
     refine sv4 hF (v_move rfl) (v_move rfl) (v_move rfl) (v_move rfl) rfl rfl rfl rfl ?_; clear hF a; intro a hF
     refine sv hF (v_ixS sl27 rfl rfl (by omega) (by omega)) rfl ?_; clear hF a; intro a hF
     refine sv hF (v_load sc37 rfl (by rw [toNat_c]; exact hkt.c)) rfl ?_; clear hF a; intro a hF
     refine sv hF (v_ixS sl27 rfl rfl (by omega) (by omega)) rfl ?_; clear hF a; intro a hF
     refine s_setM (D := FDx) (B := B) hF on37 rfl (by rw [toNat_c, tab_length]; omega) rfl rfl hMO hrt (by decide) (by decide) hS.inv ?_; intro w' hm hI' ho'
     replace hR := hR.mb hm (hR.ne_mown hMO (by decide))
     replace hS := hS.mb hm (fun k h => (hMO.lt k h).1)
     replace hKs := Nat.le_trans hKs hm.size
     have hKm0 := hm.size
     replace hMO := ho'
     rw [toNat_c, Nat.zero_add] at hMO
     clear hm hI' ho'
     clear hkt hrt
     refine WL_nil (hK _ _ ?_)
     clear hK K
     replace hF := hF.sub _ (c_ 16 rfl (c_ 0 rfl (c_ 1 rfl (c_ 3 rfl (c_ 10 rfl (c_ 11 rfl (c_ 12 rfl (n_))))))))
     refine W_sr rfl (fun K hK => ?_)
     refine sv3 hF (v_move rfl) (v_move rfl) (v_move rfl) rfl rfl rfl ?_; clear hF a; intro a hF
     refine sv hF (v_ixS sl27 rfl rfl (by omega) (by omega)) rfl ?_; clear hF a; intro a hF
     replace hMO := hMO.up hKs
     refine s_setM (D := FDx) (B := B) hF on37 rfl (by rw [toNat_c, List.length_set, tab_length]; omega) rfl rfl hMO (.of (r := trow m (fun _ j => hp.fld.mul (f1 k j) (hp.fld.inv (f1 k c))) 0) hR (Nat.le_trans hM hNK)) (by decide) (by decide) hS.inv ?_; intro w' hm hI' ho'
     replace hR := hR.mb hm (hR.ne_mown hMO (by decide))
     replace hS := hS.mb hm (fun k h => (hMO.lt k h).1)
     replace hKs := Nat.le_trans hKs hm.size
     have hKm0 := hm.size
     replace hMO := ho'
     rw [toNat_c, Nat.zero_add] at hMO
     clear hm hI' ho'
     replace hMO := hMO.cast (hp.fld.swap_scl (m := m) (s := hp.fld.inv (f1 k c)) ht hkn)
     refine WL_nil (hK _ _ ?_)
     clear hK K
     replace hF := hF.sub _ (c_ 16 rfl (c_ 0 rfl (c_ 1 rfl (c_ 3 rfl (c_ 10 rfl (c_ 11 rfl (c_ 12 rfl (n_))))))))
     refine W_seq ?_
     refine W_sr rfl (fun K hK => ?_)
     refine sv hF (v_assign rfl) rfl ?_; clear hF a; intro a hF
     refine WL_nil (hK _ _ ?_)
     clear hK K
     refine W_block ?_
     refine W_loop (fun q3 a w3 => ∃ (i : Nat), Fr 112 [(0, .int .i64 (wb : Int)), (1, .int .u32 (p : Int)), (3, .int .i64 (cols : Int)), (10, .slice (some ⟨go, 0, none⟩) n cap), (11, .int .i64 (t : Int)), (12, .int .i64 (c : Int)), (16, .slice (some ⟨gR, 0, none⟩) m cR), (17, .int .i64 (i : Int))] a ∧ (St FDx B w w3) ∧ (MOwn FDx B w.heap.size M w3.heap.size w3 37 (.slice (some ⟨go, 0, none⟩) n cap) (some go) (tab n m (hp.fld.cleF t c i (hp.fld.sclF t (hp.fld.inv (f1 k c)) m (fun i j => f1 (Fld.sw t k i) j))))) ∧ (Gam.Own FDx B KM w3 FDx.E (.slice (some ⟨gR, 0, none⟩) m cR) (some gR) (zints (trow m (fun _ j => hp.fld.mul (f1 k j) (hp.fld.inv (f1 k c))) 0))) ∧ (KM ≤ w3.heap.size) ∧ (i ≤ n) ∧ (q3 + i = n)) (n) ?_ ?_
     ·
      skip
      exact ⟨0, hF.sub _ (c_ 0 rfl (c_ 1 rfl (c_ 3 rfl (c_ 10 rfl (c_ 11 rfl (c_ 12 rfl (c_ 16 rfl (c_ 17 rfl (n_))))))))), hS, (hMO.up hKm0).cast (tab_congr fun a j _ _ => by unfold Fld.cleF; rw [if_neg (by omega)]), hR, hKs, by omega, by omega⟩
     ·
      skip
      clear hF
      clear hS hR hKs
      rintro q3 a w3 ⟨i, hF, hS, hMO, hR, hKw, hi, hq3⟩
      refine W_seq ?_
      obtain ⟨KN, hKe⟩ : ∃ K, K = w3.heap.size := ⟨_, rfl⟩
      rw [← hKe] at hMO
      have hKz : KN ≤ w3.heap.size := by omega
      clear hKe
      refine W_sr rfl (fun K hK => ?_)
      refine sv2 hF (v_move rfl) (v_move rfl) rfl rfl ?_; clear hF a; intro a hF
      refine sv hF (v_lenS rfl sl27 rfl) rfl ?_; clear hF a; intro a hF
      refine sv hF (v_lss rfl rfl) rfl ?_; clear hF a; intro a hF
      refine WL_nil (hK _ _ ?_)
      clear hK K
      replace hF := hF.sub _ (c_ 73 rfl (c_ 0 rfl (c_ 1 rfl (c_ 3 rfl (c_ 10 rfl (c_ 11 rfl (c_ 12 rfl (c_ 16 rfl (c_ 17 rfl (n_))))))))))
      refine W_if hF rfl (fun hc4 => ?_) (fun hc4 => ?_)
      ·
       skip
       try simp only [dcl] at hc4
       have hin : i < n := by omega
       have hfib : hp.fld.Bd (hp.fld.cleF t c i (hp.fld.sclF t (hp.fld.inv (f1 k c)) m (fun i j => f1 (Fld.sw t k i) j))) := hp.fld.cleF_bd (hp.fld.sclF_bd (fun a b => hb1 _ b))
       have hxb := hfib i c
       rw [hfw] at hxb
       have hMt := hMO.matS (by decide) (Nat.le_trans hM hS.ext.size)
       obtain ⟨gm, om, pr, cr, hgm, hkr, hrow, -⟩ := hMt.row (tab_at (f := (hp.fld.cleF t c i (hp.fld.sclF t (hp.fld.inv (f1 k c)) m (fun i j => f1 (Fld.sw t k i) j)))) (m := m) hin)
       cases hgm
       have hrl : ((List.range m).map fun j => (((hp.fld.cleF t c i (hp.fld.sclF t (hp.fld.inv (f1 k c)) m (fun i j => f1 (Fld.sw t k i) j))) i j : Nat) : Int)).length = m := by simp
       rw [hrl] at hkr hrow
       obtain ⟨gx, ox, hgx, hkx, -⟩ := hrow.kat (zints_at (trow_at (m := m) (f := hp.fld.cleF t c i (hp.fld.sclF t (hp.fld.inv (f1 k c)) m (fun i j => f1 (Fld.sw t k i) j))) (i := i) hcl))
       cases hgx
       clear hMt
       have hei : (hp.fld.cleF t c i (hp.fld.sclF t (hp.fld.inv (f1 k c)) m (fun i j => f1 (Fld.sw t k i) j))) i c = (hp.fld.sclF t (hp.fld.inv (f1 k c)) m (fun i j => f1 (Fld.sw t k i) j)) i c := by unfold Fld.cleF; rw [if_neg (by omega)]
       refine W_skip ?_
       refine W_seq ?_
       refine W_block ?_
       refine W_sr rfl (fun K hK => ?_)
       refine sv2 hF (v_move rfl) (v_move rfl) rfl rfl ?_; clear hF a; intro a hF
       refine sb hF (v_neq rfl rfl) rfl ?_ ?_
       ·
        clear hF a; intro hc5 a hF
        try simp only [dcl] at hc5
        refine sv hF (v_move rfl) rfl ?_; clear hF a; intro a hF
        refine svg hF rfl ?_
        refine sv hF (v_move rfl) rfl ?_; clear hF a; intro a hF
        refine svg hF rfl ?_
        refine sv hF (v_move rfl) rfl ?_; clear hF a; intro a hF
        refine svg hF rfl ?_
        refine sv hF (v_ixS sl27 rfl rfl (by omega) (by omega)) rfl ?_; clear hF a; intro a hF
        refine svg hF rfl ?_
        refine sv hF (v_load sc37 rfl (by rw [toNat_c]; exact hkr.c)) rfl ?_; clear hF a; intro a hF
        refine svg hF rfl ?_
        refine sv hF (v_move rfl) rfl ?_; clear hF a; intro a hF
        refine svg hF rfl ?_
        refine sv hF (v_ixS sl37 rfl rfl (by omega) (by omega)) rfl ?_; clear hF a; intro a hF
        refine svg hF rfl ?_
        refine sv hF (v_load sc3 rfl (by rw [toNat_c]; exact hkx.c)) rfl ?_; clear hF a; intro a hF
        refine svg hF rfl ?_
        refine sv hF (v_neq rfl rfl) rfl ?_; clear hF a; intro a hF
        refine sv hF (v_pickT rfl rfl) rfl ?_; clear hF a; intro a hF
        refine WL_nil (hK _ _ ?_)
        clear hK K
        replace hF := hF.sub _ (c_ 88 rfl (c_ 0 rfl (c_ 1 rfl (c_ 3 rfl (c_ 10 rfl (c_ 11 rfl (c_ 12 rfl (c_ 16 rfl (c_ 17 rfl (n_))))))))))
        refine W_if hF rfl (fun hc6 => ?_) (fun hc6 => ?_)
        ·
         skip
         try simp only [dcl] at hc6
         have hit : i ≠ t := by omega
         have hrfb : hp.fld.Bd (fun _ j => hp.fld.mul (f1 k j) (hp.fld.inv (f1 k c))) := fun _ j => hp.fld.lt _ _
         refine W_dS (fun (w2 : World) => St FDx B w w2) (m := 20) rfl hmix (fun K hK => ?_)
         have hS' := St.drew hS.inv
         replace hMO := hMO.st (by decide) hS'
         replace hR := hR.st (by decide) hS'
         replace hKw := Nat.le_trans hKw hS'.ext.size
         replace hKz := Nat.le_trans hKz hS'.ext.size
         replace hkr := hkr.st hS'
         replace hkx := hkx.st hS'
         replace hrow := (hrow.st hS').mono hS'.ext.size
         replace hS := hS.trans hS'
         clear hS'
         have hSS : (fun (w2 : World) => St FDx B w w2) _ := hS
         refine b_v (i := 0) rfl (by kernel_rfl) hF (fun w2 hx => v_move rfl) rfl hSS ?_; clear hF a; intro a hF
         refine b_v (i := 1) rfl (by kernel_rfl) hF (fun w2 hx => v_move rfl) rfl hSS ?_; clear hF a; intro a hF
         refine b_v (i := 2) rfl (by kernel_rfl) hF (fun w2 hx => v_move rfl) rfl hSS ?_; clear hF a; intro a hF
         refine b_v (i := 3) rfl (by kernel_rfl) hF (fun w2 hx => v_move rfl) rfl hSS ?_; clear hF a; intro a hF
         refine b_v (i := 4) rfl (by kernel_rfl) hF (fun w2 hx => v_ixS sl27 rfl rfl (by omega) (by omega)) rfl hSS ?_; clear hF a; intro a hF
         refine b_v (i := 6) rfl (by kernel_rfl) hF (fun w2 hx => v_move rfl) rfl hSS ?_; clear hF a; intro a hF
         refine b_v (i := 7) rfl (by kernel_rfl) hF (fun w2 hx => v_move rfl) rfl hSS ?_; clear hF a; intro a hF
         refine b_v (i := 8) rfl (by kernel_rfl) hF (fun w2 hx => v_move rfl) rfl hSS ?_; clear hF a; intro a hF
         refine b_v (i := 9) rfl (by kernel_rfl) hF (fun w2 hx => v_move rfl) rfl hSS ?_; clear hF a; intro a hF
         refine b_v (i := 10) rfl (by kernel_rfl) hF (fun w2 hx => v_move rfl) rfl hSS ?_; clear hF a; intro a hF
         refine b_v (i := 11) rfl (by kernel_rfl) hF (fun w2 hx => v_ixS sl27 rfl rfl (by omega) (by omega)) rfl hSS ?_; clear hF a; intro a hF
         refine b_v (i := 13) rfl (by kernel_rfl) hF (fun w2 hx => v_move rfl) rfl hSS ?_; clear hF a; intro a hF
         refine b_e2 (i := 5) (i' := 12) (by kernel_rfl) rfl rfl ?_ ?_
         ·
          skip
          refine sv hF (v_load sc37 rfl (by rw [toNat_c]; exact hkr.c)) rfl ?_; clear hF a; intro a hF
          refine WL_nil ⟨hSS, ?_⟩
          refine b_e (i := 12) (by kernel_rfl) rfl ?_
          refine sv hF (v_load sc37 rfl (by rw [toNat_c]; exact hkr.c)) rfl ?_; clear hF a; intro a hF
          refine WL_nil ⟨hSS, ?_⟩
          refine b_v (i := 14) rfl (by kernel_rfl) hF (fun w2 hx => v_ixS sl37 rfl rfl (by omega) (by omega)) rfl hSS ?_; clear hF a; intro a hF
          refine b_e (i := 15) (by kernel_rfl) rfl ?_
          refine sv hF (v_load sc3 rfl (by rw [toNat_c]; exact hkx.c)) rfl ?_; clear hF a; intro a hF
          refine WL_nil ⟨hSS, ?_⟩
          refine b_e (i := 16) (by kernel_rfl) rfl ?_
          refine sc hF rfl rfl rfl en107 rfl (scaled_ok B _ wb p hp (some ⟨gR, 0, none⟩) cR m 0 ((hp.fld.cleF t c i (hp.fld.sclF t (hp.fld.inv (f1 k c)) m (fun i j => f1 (Fld.sw t k i) j))) i c) (fun _ j => hp.fld.mul (f1 k j) (hp.fld.inv (f1 k c))) _ hS.inv (hR.row (by decide)) hrfb hxb (Nat.le_refl _) (by omega)) ?_; clear hF a; intro v w' a hv hF
          obtain ⟨obU, hU, hS'⟩ := hv
          replace hU := hU.le hKw
          obtain ⟨gU, cU, rfl, rfl⟩ := hU.ptr (by simp; omega)
          rw [zints_length, trow_length] at hU hF
          replace hMO := hMO.st (by decide) hS'
          replace hR := hR.st (by decide) hS'
          replace hKw := Nat.le_trans hKw hS'.ext.size
          replace hKz := Nat.le_trans hKz hS'.ext.size
          replace hkr := hkr.st hS'
          replace hkx := hkx.st hS'
          replace hrow := (hrow.st hS').mono hS'.ext.size
          replace hS := hS.trans hS'
          clear hS'
          clear hSS
          have hSS : (fun (w2 : World) => St FDx B w w2) _ := hS
          refine WL_nil ⟨hSS, ?_⟩
          refine b_e (i := 17) (by kernel_rfl) rfl ?_
          refine sc hF rfl rfl rfl en108 rfl (added_ok B _ _ _ _ _ m i 0 (hp.fld.cleF t c i (hp.fld.sclF t (hp.fld.inv (f1 k c)) m (fun i j => f1 (Fld.sw t k i) j))) (fun _ j => hp.fld.mul ((fun _ j => hp.fld.mul (f1 k j) (hp.fld.inv (f1 k c))) 0 j) ((hp.fld.cleF t c i (hp.fld.sclF t (hp.fld.inv (f1 k c)) m (fun i j => f1 (Fld.sw t k i) j))) i c)) _ hS.inv hrow (hU.row (by decide)) (fun j => Nat.lt_of_lt_of_le (by have := hfib i j; rw [hfw] at this; exact this) h16) (fun j => Nat.lt_of_lt_of_le (by have := hp.fld.lt ((fun _ j => hp.fld.mul (f1 k j) (hp.fld.inv (f1 k c))) 0 j) ((hp.fld.cleF t c i (hp.fld.sclF t (hp.fld.inv (f1 k c)) m (fun i j => f1 (Fld.sw t k i) j))) i c); rw [hfw] at this; exact this) h16) (Nat.le_refl _) (by omega)) ?_; clear hF a; intro v w' a hv hF
          obtain ⟨obV, hV, hS'⟩ := hv
          replace hV := hV.le hKw
          replace hMO := hMO.st (by decide) hS'
          replace hR := hR.st (by decide) hS'
          replace hKw := Nat.le_trans hKw hS'.ext.size
          replace hKz := Nat.le_trans hKz hS'.ext.size
          replace hS := hS.trans hS'
          clear hS'
          clear hSS
          have hSS : (fun (w2 : World) => St FDx B w w2) _ := hS
          refine WL_nil ⟨hSS, ?_⟩
          refine b_v (i := 18) rfl (by kernel_rfl) hF (fun w2 hx => v_ixS sl27 rfl rfl (by omega) (by omega)) rfl hSS ?_; clear hF a; intro a hF
          refine b_e (i := 19) (by kernel_rfl) rfl ?_
          replace hMO := hMO.up hKz
          obtain ⟨aV, cV, rfl⟩ := hV.shape
          refine s_setM (D := FDx) (B := B) hF on37 rfl (by rw [toNat_c, tab_length]; omega) rfl rfl hMO (.of (r := trow m (fun _ j => (hp.fld.cleF t c i (hp.fld.sclF t (hp.fld.inv (f1 k c)) m (fun i j => f1 (Fld.sw t k i) j))) i j ^^^ hp.fld.mul ((fun _ j => hp.fld.mul (f1 k j) (hp.fld.inv (f1 k c))) 0 j) ((hp.fld.cleF t c i (hp.fld.sclF t (hp.fld.inv (f1 k c)) m (fun i j => f1 (Fld.sw t k i) j))) i c)) 0) hV (Nat.le_trans hM hNK)) (by decide) (by decide) hS.inv ?_; intro w' hm hI' ho'
          replace hS := hS.mb hm (fun k h => (hMO.lt k h).1)
          replace hR := hR.mb hm (hR.ne_mown hMO (by decide))
          replace hKw := Nat.le_trans hKw hm.size
          have hKz := hm.size
          replace hMO := ho'
          rw [toNat_c, Nat.zero_add] at hMO
          replace hMO := hMO.cast ((congrArg (List.set _ i) (cle_row (m := m) hp hit hcl hsw rfl)).trans (hp.fld.cleF_set hit))
          clear hm hI' ho' hV
          have hSS : (fun (w2 : World) => St FDx B w w2) _ := hS
          refine WL_nil ⟨hSS, ?_⟩
          refine b_done (by kernel_rfl) (hK _ _ ?_)
          clear hK K
          replace hF := hF.sub _ (c_ 0 rfl (c_ 1 rfl (c_ 3 rfl (c_ 10 rfl (c_ 11 rfl (c_ 12 rfl (c_ 16 rfl (c_ 17 rfl (n_)))))))))
          refine W_reg rfl (fun K hK => ?_)
          refine sv hF (v_move rfl) rfl ?_; clear hF a; intro a hF
          refine sv hF (v_addI rfl rfl (by omega)) rfl ?_; clear hF a; intro a hF
          refine sv hF (v_assign rfl) rfl ?_; clear hF a; intro a hF
          refine WL_nil (hK _ _ ?_)
          clear hK K
          exact ⟨q3 - 1, by omega, i + 1, hF.sub _ (c_ 0 rfl (c_ 1 rfl (c_ 3 rfl (c_ 10 rfl (c_ 11 rfl (c_ 12 rfl (c_ 16 rfl (c_ 17 rfl (n_))))))))), hS, hMO.up (by first | exact hKz | exact Nat.le_refl _), hR, hKw, by omega, by omega⟩
         ·
          skip
          refine sv hF (v_load sc37 rfl (by rw [toNat_c]; exact hkr.c)) rfl ?_; clear hF a; intro a hF
          refine WL_nil ⟨hSS, ?_⟩
          refine b_v (i := 14) rfl (by kernel_rfl) hF (fun w2 hx => v_ixS sl37 rfl rfl (by omega) (by omega)) rfl hSS ?_; clear hF a; intro a hF
          refine b_e2 (i := 5) (i' := 15) (by kernel_rfl) rfl rfl ?_ ?_
          ·
           skip
           refine sv hF (v_load sc37 rfl (by rw [toNat_c]; exact hkr.c)) rfl ?_; clear hF a; intro a hF
           refine WL_nil ⟨hSS, ?_⟩
           refine b_e (i := 15) (by kernel_rfl) rfl ?_
           refine sv hF (v_load sc3 rfl (by rw [toNat_c]; exact hkx.c)) rfl ?_; clear hF a; intro a hF
           refine WL_nil ⟨hSS, ?_⟩
           refine b_e (i := 16) (by kernel_rfl) rfl ?_
           refine sc hF rfl rfl rfl en107 rfl (scaled_ok B _ wb p hp (some ⟨gR, 0, none⟩) cR m 0 ((hp.fld.cleF t c i (hp.fld.sclF t (hp.fld.inv (f1 k c)) m (fun i j => f1 (Fld.sw t k i) j))) i c) (fun _ j => hp.fld.mul (f1 k j) (hp.fld.inv (f1 k c))) _ hS.inv (hR.row (by decide)) hrfb hxb (Nat.le_refl _) (by omega)) ?_; clear hF a; intro v w' a hv hF
           obtain ⟨obU, hU, hS'⟩ := hv
           replace hU := hU.le hKw
           obtain ⟨gU, cU, rfl, rfl⟩ := hU.ptr (by simp; omega)
           rw [zints_length, trow_length] at hU hF
           replace hMO := hMO.st (by decide) hS'
           replace hR := hR.st (by decide) hS'
           replace hKw := Nat.le_trans hKw hS'.ext.size
           replace hKz := Nat.le_trans hKz hS'.ext.size
           replace hkr := hkr.st hS'
           replace hkx := hkx.st hS'
           replace hrow := (hrow.st hS').mono hS'.ext.size
           replace hS := hS.trans hS'
           clear hS'
           clear hSS
           have hSS : (fun (w2 : World) => St FDx B w w2) _ := hS
           refine WL_nil ⟨hSS, ?_⟩
           refine b_e (i := 17) (by kernel_rfl) rfl ?_
           refine sc hF rfl rfl rfl en108 rfl (added_ok B _ _ _ _ _ m i 0 (hp.fld.cleF t c i (hp.fld.sclF t (hp.fld.inv (f1 k c)) m (fun i j => f1 (Fld.sw t k i) j))) (fun _ j => hp.fld.mul ((fun _ j => hp.fld.mul (f1 k j) (hp.fld.inv (f1 k c))) 0 j) ((hp.fld.cleF t c i (hp.fld.sclF t (hp.fld.inv (f1 k c)) m (fun i j => f1 (Fld.sw t k i) j))) i c)) _ hS.inv hrow (hU.row (by decide)) (fun j => Nat.lt_of_lt_of_le (by have := hfib i j; rw [hfw] at this; exact this) h16) (fun j => Nat.lt_of_lt_of_le (by have := hp.fld.lt ((fun _ j => hp.fld.mul (f1 k j) (hp.fld.inv (f1 k c))) 0 j) ((hp.fld.cleF t c i (hp.fld.sclF t (hp.fld.inv (f1 k c)) m (fun i j => f1 (Fld.sw t k i) j))) i c); rw [hfw] at this; exact this) h16) (Nat.le_refl _) (by omega)) ?_; clear hF a; intro v w' a hv hF
           obtain ⟨obV, hV, hS'⟩ := hv
           replace hV := hV.le hKw
           replace hMO := hMO.st (by decide) hS'
           replace hR := hR.st (by decide) hS'
           replace hKw := Nat.le_trans hKw hS'.ext.size
           replace hKz := Nat.le_trans hKz hS'.ext.size
           replace hS := hS.trans hS'
           clear hS'
           clear hSS
           have hSS : (fun (w2 : World) => St FDx B w w2) _ := hS
           refine WL_nil ⟨hSS, ?_⟩
           refine b_v (i := 18) rfl (by kernel_rfl) hF (fun w2 hx => v_ixS sl27 rfl rfl (by omega) (by omega)) rfl hSS ?_; clear hF a; intro a hF
           refine b_e (i := 19) (by kernel_rfl) rfl ?_
           replace hMO := hMO.up hKz
           obtain ⟨aV, cV, rfl⟩ := hV.shape
           refine s_setM (D := FDx) (B := B) hF on37 rfl (by rw [toNat_c, tab_length]; omega) rfl rfl hMO (.of (r := trow m (fun _ j => (hp.fld.cleF t c i (hp.fld.sclF t (hp.fld.inv (f1 k c)) m (fun i j => f1 (Fld.sw t k i) j))) i j ^^^ hp.fld.mul ((fun _ j => hp.fld.mul (f1 k j) (hp.fld.inv (f1 k c))) 0 j) ((hp.fld.cleF t c i (hp.fld.sclF t (hp.fld.inv (f1 k c)) m (fun i j => f1 (Fld.sw t k i) j))) i c)) 0) hV (Nat.le_trans hM hNK)) (by decide) (by decide) hS.inv ?_; intro w' hm hI' ho'
           replace hS := hS.mb hm (fun k h => (hMO.lt k h).1)
           replace hR := hR.mb hm (hR.ne_mown hMO (by decide))
           replace hKw := Nat.le_trans hKw hm.size
           have hKz := hm.size
           replace hMO := ho'
           rw [toNat_c, Nat.zero_add] at hMO
           replace hMO := hMO.cast ((congrArg (List.set _ i) (cle_row (m := m) hp hit hcl hsw rfl)).trans (hp.fld.cleF_set hit))
           clear hm hI' ho' hV
           have hSS : (fun (w2 : World) => St FDx B w w2) _ := hS
           refine WL_nil ⟨hSS, ?_⟩
           refine b_done (by kernel_rfl) (hK _ _ ?_)
           clear hK K
           replace hF := hF.sub _ (c_ 0 rfl (c_ 1 rfl (c_ 3 rfl (c_ 10 rfl (c_ 11 rfl (c_ 12 rfl (c_ 16 rfl (c_ 17 rfl (n_)))))))))
           refine W_reg rfl (fun K hK => ?_)
           refine sv hF (v_move rfl) rfl ?_; clear hF a; intro a hF
           refine sv hF (v_addI rfl rfl (by omega)) rfl ?_; clear hF a; intro a hF
           refine sv hF (v_assign rfl) rfl ?_; clear hF a; intro a hF
           refine WL_nil (hK _ _ ?_)
           clear hK K
           exact ⟨q3 - 1, by omega, i + 1, hF.sub _ (c_ 0 rfl (c_ 1 rfl (c_ 3 rfl (c_ 10 rfl (c_ 11 rfl (c_ 12 rfl (c_ 16 rfl (c_ 17 rfl (n_))))))))), hS, hMO.up (by first | exact hKz | exact Nat.le_refl _), hR, hKw, by omega, by omega⟩
          ·
           skip
           refine sv hF (v_load sc3 rfl (by rw [toNat_c]; exact hkx.c)) rfl ?_; clear hF a; intro a hF
           refine WL_nil ⟨hSS, ?_⟩
           refine b_e2 (i := 5) (i' := 16) (by kernel_rfl) rfl rfl ?_ ?_
           ·
            skip
            refine sv hF (v_load sc37 rfl (by rw [toNat_c]; exact hkr.c)) rfl ?_; clear hF a; intro a hF
            refine WL_nil ⟨hSS, ?_⟩
            refine b_e (i := 16) (by kernel_rfl) rfl ?_
            refine sc hF rfl rfl rfl en107 rfl (scaled_ok B _ wb p hp (some ⟨gR, 0, none⟩) cR m 0 ((hp.fld.cleF t c i (hp.fld.sclF t (hp.fld.inv (f1 k c)) m (fun i j => f1 (Fld.sw t k i) j))) i c) (fun _ j => hp.fld.mul (f1 k j) (hp.fld.inv (f1 k c))) _ hS.inv (hR.row (by decide)) hrfb hxb (Nat.le_refl _) (by omega)) ?_; clear hF a; intro v w' a hv hF
            obtain ⟨obU, hU, hS'⟩ := hv
            replace hU := hU.le hKw
            obtain ⟨gU, cU, rfl, rfl⟩ := hU.ptr (by simp; omega)
            rw [zints_length, trow_length] at hU hF
            replace hMO := hMO.st (by decide) hS'
            replace hR := hR.st (by decide) hS'
            replace hKw := Nat.le_trans hKw hS'.ext.size
            replace hKz := Nat.le_trans hKz hS'.ext.size
            replace hkr := hkr.st hS'
            replace hkx := hkx.st hS'
            replace hrow := (hrow.st hS').mono hS'.ext.size
            replace hS := hS.trans hS'
            clear hS'
            clear hSS
            have hSS : (fun (w2 : World) => St FDx B w w2) _ := hS
            refine WL_nil ⟨hSS, ?_⟩
            refine b_e (i := 17) (by kernel_rfl) rfl ?_
            refine sc hF rfl rfl rfl en108 rfl (added_ok B _ _ _ _ _ m i 0 (hp.fld.cleF t c i (hp.fld.sclF t (hp.fld.inv (f1 k c)) m (fun i j => f1 (Fld.sw t k i) j))) (fun _ j => hp.fld.mul ((fun _ j => hp.fld.mul (f1 k j) (hp.fld.inv (f1 k c))) 0 j) ((hp.fld.cleF t c i (hp.fld.sclF t (hp.fld.inv (f1 k c)) m (fun i j => f1 (Fld.sw t k i) j))) i c)) _ hS.inv hrow (hU.row (by decide)) (fun j => Nat.lt_of_lt_of_le (by have := hfib i j; rw [hfw] at this; exact this) h16) (fun j => Nat.lt_of_lt_of_le (by have := hp.fld.lt ((fun _ j => hp.fld.mul (f1 k j) (hp.fld.inv (f1 k c))) 0 j) ((hp.fld.cleF t c i (hp.fld.sclF t (hp.fld.inv (f1 k c)) m (fun i j => f1 (Fld.sw t k i) j))) i c); rw [hfw] at this; exact this) h16) (Nat.le_refl _) (by omega)) ?_; clear hF a; intro v w' a hv hF
            obtain ⟨obV, hV, hS'⟩ := hv
            replace hV := hV.le hKw
            replace hMO := hMO.st (by decide) hS'
            replace hR := hR.st (by decide) hS'
            replace hKw := Nat.le_trans hKw hS'.ext.size
            replace hKz := Nat.le_trans hKz hS'.ext.size
            replace hS := hS.trans hS'
            clear hS'
            clear hSS
            have hSS : (fun (w2 : World) => St FDx B w w2) _ := hS
            refine WL_nil ⟨hSS, ?_⟩
            refine b_v (i := 18) rfl (by kernel_rfl) hF (fun w2 hx => v_ixS sl27 rfl rfl (by omega) (by omega)) rfl hSS ?_; clear hF a; intro a hF
            refine b_e (i := 19) (by kernel_rfl) rfl ?_
            replace hMO := hMO.up hKz
            obtain ⟨aV, cV, rfl⟩ := hV.shape
            refine s_setM (D := FDx) (B := B) hF on37 rfl (by rw [toNat_c, tab_length]; omega) rfl rfl hMO (.of (r := trow m (fun _ j => (hp.fld.cleF t c i (hp.fld.sclF t (hp.fld.inv (f1 k c)) m (fun i j => f1 (Fld.sw t k i) j))) i j ^^^ hp.fld.mul ((fun _ j => hp.fld.mul (f1 k j) (hp.fld.inv (f1 k c))) 0 j) ((hp.fld.cleF t c i (hp.fld.sclF t (hp.fld.inv (f1 k c)) m (fun i j => f1 (Fld.sw t k i) j))) i c)) 0) hV (Nat.le_trans hM hNK)) (by decide) (by decide) hS.inv ?_; intro w' hm hI' ho'
            replace hS := hS.mb hm (fun k h => (hMO.lt k h).1)
            replace hR := hR.mb hm (hR.ne_mown hMO (by decide))
            replace hKw := Nat.le_trans hKw hm.size
            have hKz := hm.size
            replace hMO := ho'
            rw [toNat_c, Nat.zero_add] at hMO
            replace hMO := hMO.cast ((congrArg (List.set _ i) (cle_row (m := m) hp hit hcl hsw rfl)).trans (hp.fld.cleF_set hit))
            clear hm hI' ho' hV
            have hSS : (fun (w2 : World) => St FDx B w w2) _ := hS
            refine WL_nil ⟨hSS, ?_⟩
            refine b_done (by kernel_rfl) (hK _ _ ?_)
            clear hK K
            replace hF := hF.sub _ (c_ 0 rfl (c_ 1 rfl (c_ 3 rfl (c_ 10 rfl (c_ 11 rfl (c_ 12 rfl (c_ 16 rfl (c_ 17 rfl (n_)))))))))
            refine W_reg rfl (fun K hK => ?_)
            refine sv hF (v_move rfl) rfl ?_; clear hF a; intro a hF
            refine sv hF (v_addI rfl rfl (by omega)) rfl ?_; clear hF a; intro a hF
            refine sv hF (v_assign rfl) rfl ?_; clear hF a; intro a hF
            refine WL_nil (hK _ _ ?_)
            clear hK K
            exact ⟨q3 - 1, by omega, i + 1, hF.sub _ (c_ 0 rfl (c_ 1 rfl (c_ 3 rfl (c_ 10 rfl (c_ 11 rfl (c_ 12 rfl (c_ 16 rfl (c_ 17 rfl (n_))))))))), hS, hMO.up (by first | exact hKz | exact Nat.le_refl _), hR, hKw, by omega, by omega⟩
           ·
            skip
            refine sc hF rfl rfl rfl en107 rfl (scaled_ok B _ wb p hp (some ⟨gR, 0, none⟩) cR m 0 ((hp.fld.cleF t c i (hp.fld.sclF t (hp.fld.inv (f1 k c)) m (fun i j => f1 (Fld.sw t k i) j))) i c) (fun _ j => hp.fld.mul (f1 k j) (hp.fld.inv (f1 k c))) _ hS.inv (hR.row (by decide)) hrfb hxb (Nat.le_refl _) (by omega)) ?_; clear hF a; intro v w' a hv hF
            obtain ⟨obU, hU, hS'⟩ := hv
            replace hU := hU.le hKw
            obtain ⟨gU, cU, rfl, rfl⟩ := hU.ptr (by simp; omega)
            rw [zints_length, trow_length] at hU hF
            replace hMO := hMO.st (by decide) hS'
            replace hR := hR.st (by decide) hS'
            replace hKw := Nat.le_trans hKw hS'.ext.size
            replace hKz := Nat.le_trans hKz hS'.ext.size
            replace hkr := hkr.st hS'
            replace hkx := hkx.st hS'
            replace hrow := (hrow.st hS').mono hS'.ext.size
            replace hS := hS.trans hS'
            clear hS'
            clear hSS
            have hSS : (fun (w2 : World) => St FDx B w w2) _ := hS
            refine WL_nil ⟨hSS, ?_⟩
            refine b_e (i := 5) (by kernel_rfl) rfl ?_
            refine sv hF (v_load sc37 rfl (by rw [toNat_c]; exact hkr.c)) rfl ?_; clear hF a; intro a hF
            refine WL_nil ⟨hSS, ?_⟩
            refine b_e (i := 17) (by kernel_rfl) rfl ?_
            refine sc hF rfl rfl rfl en108 rfl (added_ok B _ _ _ _ _ m i 0 (hp.fld.cleF t c i (hp.fld.sclF t (hp.fld.inv (f1 k c)) m (fun i j => f1 (Fld.sw t k i) j))) (fun _ j => hp.fld.mul ((fun _ j => hp.fld.mul (f1 k j) (hp.fld.inv (f1 k c))) 0 j) ((hp.fld.cleF t c i (hp.fld.sclF t (hp.fld.inv (f1 k c)) m (fun i j => f1 (Fld.sw t k i) j))) i c)) _ hS.inv hrow (hU.row (by decide)) (fun j => Nat.lt_of_lt_of_le (by have := hfib i j; rw [hfw] at this; exact this) h16) (fun j => Nat.lt_of_lt_of_le (by have := hp.fld.lt ((fun _ j => hp.fld.mul (f1 k j) (hp.fld.inv (f1 k c))) 0 j) ((hp.fld.cleF t c i (hp.fld.sclF t (hp.fld.inv (f1 k c)) m (fun i j => f1 (Fld.sw t k i) j))) i c); rw [hfw] at this; exact this) h16) (Nat.le_refl _) (by omega)) ?_; clear hF a; intro v w' a hv hF
            obtain ⟨obV, hV, hS'⟩ := hv
            replace hV := hV.le hKw
            replace hMO := hMO.st (by decide) hS'
            replace hR := hR.st (by decide) hS'
            replace hKw := Nat.le_trans hKw hS'.ext.size
            replace hKz := Nat.le_trans hKz hS'.ext.size
            replace hS := hS.trans hS'
            clear hS'
            clear hSS
            have hSS : (fun (w2 : World) => St FDx B w w2) _ := hS
            refine WL_nil ⟨hSS, ?_⟩
            refine b_v (i := 18) rfl (by kernel_rfl) hF (fun w2 hx => v_ixS sl27 rfl rfl (by omega) (by omega)) rfl hSS ?_; clear hF a; intro a hF
            refine b_e (i := 19) (by kernel_rfl) rfl ?_
            replace hMO := hMO.up hKz
            obtain ⟨aV, cV, rfl⟩ := hV.shape
            refine s_setM (D := FDx) (B := B) hF on37 rfl (by rw [toNat_c, tab_length]; omega) rfl rfl hMO (.of (r := trow m (fun _ j => (hp.fld.cleF t c i (hp.fld.sclF t (hp.fld.inv (f1 k c)) m (fun i j => f1 (Fld.sw t k i) j))) i j ^^^ hp.fld.mul ((fun _ j => hp.fld.mul (f1 k j) (hp.fld.inv (f1 k c))) 0 j) ((hp.fld.cleF t c i (hp.fld.sclF t (hp.fld.inv (f1 k c)) m (fun i j => f1 (Fld.sw t k i) j))) i c)) 0) hV (Nat.le_trans hM hNK)) (by decide) (by decide) hS.inv ?_; intro w' hm hI' ho'
            replace hS := hS.mb hm (fun k h => (hMO.lt k h).1)
            replace hR := hR.mb hm (hR.ne_mown hMO (by decide))
            replace hKw := Nat.le_trans hKw hm.size
            have hKz := hm.size
            replace hMO := ho'
            rw [toNat_c, Nat.zero_add] at hMO
            replace hMO := hMO.cast ((congrArg (List.set _ i) (cle_row (m := m) hp hit hcl hsw rfl)).trans (hp.fld.cleF_set hit))
            clear hm hI' ho' hV
            have hSS : (fun (w2 : World) => St FDx B w w2) _ := hS
            refine WL_nil ⟨hSS, ?_⟩
            refine b_done (by kernel_rfl) (hK _ _ ?_)
            clear hK K
            replace hF := hF.sub _ (c_ 0 rfl (c_ 1 rfl (c_ 3 rfl (c_ 10 rfl (c_ 11 rfl (c_ 12 rfl (c_ 16 rfl (c_ 17 rfl (n_)))))))))
            refine W_reg rfl (fun K hK => ?_)
            refine sv hF (v_move rfl) rfl ?_; clear hF a; intro a hF
            refine sv hF (v_addI rfl rfl (by omega)) rfl ?_; clear hF a; intro a hF
            refine sv hF (v_assign rfl) rfl ?_; clear hF a; intro a hF
            refine WL_nil (hK _ _ ?_)
            clear hK K
            exact ⟨q3 - 1, by omega, i + 1, hF.sub _ (c_ 0 rfl (c_ 1 rfl (c_ 3 rfl (c_ 10 rfl (c_ 11 rfl (c_ 12 rfl (c_ 16 rfl (c_ 17 rfl (n_))))))))), hS, hMO.up (by first | exact hKz | exact Nat.le_refl _), hR, hKw, by omega, by omega⟩
        ·
         skip
         try simp only [dcl] at hc6
         replace hMO := hMO.cast (tab_congr (g := hp.fld.cleF t c (i + 1) (hp.fld.sclF t (hp.fld.inv (f1 k c)) m (fun i j => f1 (Fld.sw t k i) j))) fun a j _ _ => hp.fld.cleF_zero (by rw [← hei]; omega) a j)
         clear hkr hkx hrow
         refine W_skip ?_
         refine W_reg rfl (fun K hK => ?_)
         refine sv hF (v_move rfl) rfl ?_; clear hF a; intro a hF
         refine sv hF (v_addI rfl rfl (by omega)) rfl ?_; clear hF a; intro a hF
         refine sv hF (v_assign rfl) rfl ?_; clear hF a; intro a hF
         refine WL_nil (hK _ _ ?_)
         clear hK K
         replace hF := hF.sub _ (c_ 17 rfl (c_ 75 rfl (c_ 74 rfl (c_ 0 rfl (c_ 1 rfl (c_ 3 rfl (c_ 10 rfl (c_ 11 rfl (c_ 12 rfl (c_ 16 rfl (n_)))))))))))
         exact ⟨q3 - 1, by omega, i + 1, hF.sub _ (c_ 0 rfl (c_ 1 rfl (c_ 3 rfl (c_ 10 rfl (c_ 11 rfl (c_ 12 rfl (c_ 16 rfl (c_ 17 rfl (n_))))))))), hS, hMO.up (by first | exact hKz | exact Nat.le_refl _), hR, hKw, by omega, by omega⟩
       ·
        clear hF a; intro hc5 a hF
        try simp only [dcl] at hc5
        refine sv hF (v_move rfl) rfl ?_; clear hF a; intro a hF
        refine svn hF rfl rfl rfl ?_; clear hF a; intro a hF
        refine svn hF rfl rfl rfl ?_; clear hF a; intro a hF
        refine svn hF rfl rfl rfl ?_; clear hF a; intro a hF
        refine svn hF rfl rfl rfl ?_; clear hF a; intro a hF
        refine svn hF rfl rfl rfl ?_; clear hF a; intro a hF
        refine svn hF rfl rfl rfl ?_; clear hF a; intro a hF
        refine svn hF rfl rfl rfl ?_; clear hF a; intro a hF
        refine svn hF rfl rfl rfl ?_; clear hF a; intro a hF
        refine sv hF (v_pickF rfl rfl) rfl ?_; clear hF a; intro a hF
        refine WL_nil (hK _ _ ?_)
        clear hK K
        replace hF := hF.sub _ (c_ 88 rfl (c_ 0 rfl (c_ 1 rfl (c_ 3 rfl (c_ 10 rfl (c_ 11 rfl (c_ 12 rfl (c_ 16 rfl (c_ 17 rfl (n_))))))))))
        have hit : i = t := by omega
        replace hMO := hMO.cast (tab_congr (g := hp.fld.cleF t c (i + 1) (hp.fld.sclF t (hp.fld.inv (f1 k c)) m (fun i j => f1 (Fld.sw t k i) j))) fun a j _ _ => by subst hit; exact hp.fld.cleF_skip a j)
        clear hkr hkx hrow
        refine W_ifF hF rfl ?_
        refine W_skip ?_
        refine W_reg rfl (fun K hK => ?_)
        refine sv hF (v_move rfl) rfl ?_; clear hF a; intro a hF
        refine sv hF (v_addI rfl rfl (by omega)) rfl ?_; clear hF a; intro a hF
        refine sv hF (v_assign rfl) rfl ?_; clear hF a; intro a hF
        refine WL_nil (hK _ _ ?_)
        clear hK K
        replace hF := hF.sub _ (c_ 17 rfl (c_ 75 rfl (c_ 74 rfl (c_ 0 rfl (c_ 1 rfl (c_ 3 rfl (c_ 10 rfl (c_ 11 rfl (c_ 12 rfl (c_ 16 rfl (n_)))))))))))
        exact ⟨q3 - 1, by omega, i + 1, hF.sub _ (c_ 0 rfl (c_ 1 rfl (c_ 3 rfl (c_ 10 rfl (c_ 11 rfl (c_ 12 rfl (c_ 16 rfl (c_ 17 rfl (n_))))))))), hS, hMO.up (by first | exact hKz | exact Nat.le_refl _), hR, hKw, by omega, by omega⟩
      ·
       skip
       try simp only [dcl] at hc4
       have hie : i = n := by omega
       rw [hie] at hMO
       have hrd := hp.fld.red_some hf1.symm ht1.symm hpk
       have hrd2 : (hp.fld.red n f (c + 1)).2 = t + 1 := by rw [hrd]
       replace hMO := hMO.cast (tab_congr (g := (hp.fld.red n f (c + 1)).1) fun a j ha hj => by rw [hrd]; exact hp.fld.op_eq hcl a ha j hj)
       refine W_exit rfl ?_
       refine W_reg rfl (fun K hK => ?_)
       refine sv hF (v_move rfl) rfl ?_; clear hF a; intro a hF
       refine sv hF ((v_addI rfl rfl (by omega)).as (show Value.int .i64 ((t : Int) + 1) = .int .i64 (((hp.fld.red n f (c + 1)).2 : Nat) : Int) by rw [hrd2]; simp)) rfl ?_; clear hF a; intro a hF
       refine sv hF (v_assign rfl) rfl ?_; clear hF a; intro a hF
       refine WL_nil (hK _ _ ?_)
       clear hK K
       replace hF := hF.sub _ (c_ 11 rfl (c_ 109 rfl (c_ 108 rfl (c_ 0 rfl (c_ 1 rfl (c_ 3 rfl (c_ 10 rfl (c_ 12 rfl (c_ 16 rfl (c_ 17 rfl (n_)))))))))))
       refine W_reg rfl (fun K hK => ?_)
       refine sv hF (v_move rfl) rfl ?_; clear hF a; intro a hF
       refine sv hF (v_addI rfl rfl (by omega)) rfl ?_; clear hF a; intro a hF
       refine sv hF (v_assign rfl) rfl ?_; clear hF a; intro a hF
       refine WL_nil (hK _ _ ?_)
       clear hK K
       exact ⟨q - 1, by omega, c + 1, hF.sub _ (c_ 0 rfl (c_ 1 rfl (c_ 3 rfl (c_ 10 rfl (c_ 11 rfl (c_ 12 rfl (n_))))))), hS, hMO.up (by first | exact hKs | exact hKz | exact Nat.le_refl _), by omega, by omega⟩
   ·
    skip
    try simp only [dcl] at hc2
    refine W_exit rfl ?_
    refine W_sr rfl (fun K hK => ?_)
    refine sv4 hF (v_move rfl) (v_move rfl) (v_assign rfl) (v_assign rfl) rfl rfl rfl rfl ?_; clear hF a; intro a hF
    refine WL_nil (hK _ _ ?_)
    clear hK K
    replace hF := hF.sub _ (c_ 9 rfl (c_ 8 rfl (c_ 111 rfl (c_ 110 rfl (c_ 0 rfl (c_ 1 rfl (c_ 3 rfl (c_ 10 rfl (c_ 11 rfl (c_ 12 rfl (n_)))))))))))
    refine W_ret ?_
    refine ⟨_, _, _, hF, rfl, rfl, ?_⟩
    have htn2 : (hp.fld.red n f c).2 = n := by omega
    have hfull := hp.fld.red_full (n := n) (f := f) (c := c) htn2 (cols - c)
    rw [show c + (cols - c) = cols by omega] at hfull
    rw [← hfull] at hMO hF
    exact ⟨_, _, by unfold Fld.rk; rw [hfull], hMO.up hKs, hS⟩
  ·
   clear hF a; intro hc1 a hF
   try simp only [dcl] at hc1
   refine sv hF (v_move rfl) rfl ?_; clear hF a; intro a hF
   refine svn hF rfl rfl rfl ?_; clear hF a; intro a hF
   refine svn hF rfl rfl rfl ?_; clear hF a; intro a hF
   refine svn hF rfl rfl rfl ?_; clear hF a; intro a hF
   refine svn hF rfl rfl rfl ?_; clear hF a; intro a hF
   refine sv hF (v_pickF rfl rfl) rfl ?_; clear hF a; intro a hF
   refine WL_nil (hK _ _ ?_)
   clear hK K
   replace hF := hF.sub _ (c_ 29 rfl (c_ 0 rfl (c_ 1 rfl (c_ 3 rfl (c_ 10 rfl (c_ 11 rfl (c_ 12 rfl (n_))))))))
   refine W_ifF hF rfl ?_
   refine W_exit rfl ?_
   refine W_sr rfl (fun K hK => ?_)
   refine sv4 hF (v_move rfl) (v_move rfl) (v_assign rfl) (v_assign rfl) rfl rfl rfl rfl ?_; clear hF a; intro a hF
   refine WL_nil (hK _ _ ?_)
   clear hK K
   replace hF := hF.sub _ (c_ 9 rfl (c_ 8 rfl (c_ 111 rfl (c_ 110 rfl (c_ 0 rfl (c_ 1 rfl (c_ 3 rfl (c_ 10 rfl (c_ 11 rfl (c_ 12 rfl (n_)))))))))))
   refine W_ret ?_
   refine ⟨_, _, _, hF, rfl, rfl, ?_⟩
   obtain rfl : c = cols := by omega
   exact ⟨_, _, rfl, hMO.up hKs, hS⟩

end Go.Proofs.Ytaeljbdpjiciaaa

/- The walks of gambrelref04: products. -/
set_option linter.unusedVariables false
set_option linter.unusedSimpArgs false
namespace Go.Proofs.Ytaeljbdpjiciaaa
open Go Go.Gam


namespace FxFRef04c
theorem en80 : Ent Try.prog 80 := ent Try.func80 (by kernel_rfl) (by kernel_rfl)
theorem en82 : Ent Try.prog 82 := ent Try.func82 (by kernel_rfl) (by kernel_rfl)
theorem hmix : Try.prog.follows .mixedOrders = true := by kernel_rfl
theorem sc3 : Scalar Try.prog 3 := ⟨_, Try.underlying3, by simp, by simp⟩
theorem sc37 : Scalar Try.prog 37 := ⟨_, Try.underlying37, by simp, by simp⟩
theorem sl27 : Sl Try.prog 27 37 (.slice none 0 0) 24 := sl_of Try.underlying27 rfl (by kernel_rfl)
theorem sl37 : Sl Try.prog 37 3 (.int .i64 0) 8 := sl_of Try.underlying37 rfl (by kernel_rfl)
end FxFRef04c
open FxFRef04c

set_option maxRecDepth 100000 in
set_option maxHeartbeats 1000000 in
theorem rMulM_ok (B M wb p : Nat) (hp : Prm wb p) (pma : Option Addr) (cma : Nat) (ma : Mtx) (pmb : Option Addr) (cmb : Nat) (mb : Mtx) (w : World) (hI : Inv FDx B w) (hM : M ≤ w.heap.size) (hAma : Mat FDx B M w pma cma ma) (hlma : ma.length ≤ 1000) (hbma : ∀ r ∈ ma, r.length ≤ 1000) (hAmb : Mat FDx B M w pmb cmb mb) (hlmb : mb.length ≤ 1000) (hbmb : ∀ r ∈ mb, r.length ≤ 1000) : Ret Try.prog 49 [.int .i64 (wb : Int), .int .u32 (p : Int), .slice pma ma.length cma, .slice pmb mb.length cmb] w fun v w' => ∃ ob u, v = .tuple #[u, .bool (mulM (some (wb, p)) ma mb).isSome] ∧ MOwn FDx B w.heap.size 0 w'.heap.size w' 37 u ob ((mulM (some (wb, p)) ma mb).getD []) ∧ St FDx B w w' := by
 refine enter2 83 [(0, .int .i64 (wb : Int)), (1, .int .u32 (p : Int)), (2, .slice pma ma.length cma), (3, .slice pmb mb.length cmb)] 8 9 Try.func49 rfl rfl rfl rfl rfl ?_; intro a hF
 have hS := St.refl hI
 refine W_sr rfl (fun K hK => ?_)
 refine sv2 hF (v_assign rfl) (v_assign rfl) rfl rfl ?_; clear hF a; intro a hF
 refine WL_nil (hK _ _ ?_)
 clear hK K
 refine W_seq ?_
 refine W_sr rfl (fun K hK => ?_)
 refine sv2 hF (v_move rfl) (v_move rfl) rfl rfl ?_; clear hF a; intro a hF
 refine sc hF rfl rfl rfl en80 rfl (rMay_ok B M wb p hp _ cma ma _ hS.inv hAma (Nat.le_trans hlma (by decide)) (fun r hr => Nat.le_trans (hbma r hr) (by decide))) ?_; clear hF a; intro v w' a hv hF
 obtain ⟨rfl, hS'⟩ := hv
 replace hAma := hAma.st hS'
 replace hAmb := hAmb.st hS'
 replace hS := hS.trans hS'
 clear hS'
 refine sb hF (v_not rfl) rfl ?_ ?_
 ·
  clear hF a; intro hc1 a hF
  try simp only [dcl] at hc1
  refine sv hF (v_move rfl) rfl ?_; clear hF a; intro a hF
  refine svn hF rfl rfl rfl ?_; clear hF a; intro a hF
  refine svn hF rfl rfl rfl ?_; clear hF a; intro a hF
  refine svn hF rfl rfl rfl ?_; clear hF a; intro a hF
  refine svn hF rfl rfl rfl ?_; clear hF a; intro a hF
  refine sv2 hF (v_pickT rfl rfl) (v_move rfl) rfl rfl ?_; clear hF a; intro a hF
  refine svn hF rfl rfl rfl ?_; clear hF a; intro a hF
  refine svn hF rfl rfl rfl ?_; clear hF a; intro a hF
  refine svn hF rfl rfl rfl ?_; clear hF a; intro a hF
  refine svn hF rfl rfl rfl ?_; clear hF a; intro a hF
  refine svn hF rfl rfl rfl ?_; clear hF a; intro a hF
  refine svn hF rfl rfl rfl ?_; clear hF a; intro a hF
  refine svn hF rfl rfl rfl ?_; clear hF a; intro a hF
  refine sv hF (v_pickT rfl rfl) rfl ?_; clear hF a; intro a hF
  refine WL_nil (hK _ _ ?_)
  clear hK K
  replace hF := hF.sub _ (c_ 34 rfl (c_ 9 rfl (c_ 8 rfl (c_ 0 rfl (c_ 1 rfl (c_ 2 rfl (c_ 3 rfl (n_))))))))
  refine W_ifT hF rfl ?_
  refine W_sr rfl (fun K hK => ?_)
  refine sv2 hF (v_assign rfl) (v_assign rfl) rfl rfl ?_; clear hF a; intro a hF
  refine WL_nil (hK _ _ ?_)
  clear hK K
  replace hF := hF.sub _ (c_ 9 rfl (c_ 8 rfl (c_ 0 rfl (c_ 1 rfl (c_ 2 rfl (c_ 3 rfl (n_)))))))
  refine W_ret ?_
  refine ⟨_, _, _, hF, rfl, rfl, ?_⟩
  have hno : mulM (some (wb, p)) ma mb = none := mulM_f (.inl (by simpa using hc1))
  rw [hno]
  exact ⟨none, _, rfl, MOwn.nil _ _ _ _ _ _ _ (Nat.zero_le _), hS⟩
 ·
  clear hF a; intro hc1 a hF
  try simp only [dcl] at hc1
  refine sv hF (v_move rfl) rfl ?_; clear hF a; intro a hF
  refine svg hF rfl ?_
  refine sv hF (v_move rfl) rfl ?_; clear hF a; intro a hF
  refine svg hF rfl ?_
  refine sv hF (v_move rfl) rfl ?_; clear hF a; intro a hF
  refine svg hF rfl ?_
  refine sc hF rfl rfl rfl en80 rfl (rMay_ok B M wb p hp _ cmb mb _ hS.inv hAmb (Nat.le_trans hlmb (by decide)) (fun r hr => Nat.le_trans (hbmb r hr) (by decide))) ?_; clear hF a; intro v w' a hv hF
  obtain ⟨rfl, hS'⟩ := hv
  replace hAma := hAma.st hS'
  replace hAmb := hAmb.st hS'
  replace hS := hS.trans hS'
  clear hS'
  refine svg hF rfl ?_
  refine sb hF (v_not rfl) rfl ?_ ?_
  ·
   clear hF a; intro hc2 a hF
   try simp only [dcl] at hc2
   refine sv2 hF (v_pickF rfl rfl) (v_move rfl) rfl rfl ?_; clear hF a; intro a hF
   refine svn hF rfl rfl rfl ?_; clear hF a; intro a hF
   refine svn hF rfl rfl rfl ?_; clear hF a; intro a hF
   refine svn hF rfl rfl rfl ?_; clear hF a; intro a hF
   refine svn hF rfl rfl rfl ?_; clear hF a; intro a hF
   refine svn hF rfl rfl rfl ?_; clear hF a; intro a hF
   refine svn hF rfl rfl rfl ?_; clear hF a; intro a hF
   refine svn hF rfl rfl rfl ?_; clear hF a; intro a hF
   refine sv hF (v_pickT rfl rfl) rfl ?_; clear hF a; intro a hF
   refine WL_nil (hK _ _ ?_)
   clear hK K
   replace hF := hF.sub _ (c_ 34 rfl (c_ 9 rfl (c_ 8 rfl (c_ 0 rfl (c_ 1 rfl (c_ 2 rfl (c_ 3 rfl (n_))))))))
   refine W_ifT hF rfl ?_
   refine W_sr rfl (fun K hK => ?_)
   refine sv2 hF (v_assign rfl) (v_assign rfl) rfl rfl ?_; clear hF a; intro a hF
   refine WL_nil (hK _ _ ?_)
   clear hK K
   replace hF := hF.sub _ (c_ 9 rfl (c_ 8 rfl (c_ 0 rfl (c_ 1 rfl (c_ 2 rfl (c_ 3 rfl (n_)))))))
   refine W_ret ?_
   refine ⟨_, _, _, hF, rfl, rfl, ?_⟩
   have hno : mulM (some (wb, p)) ma mb = none := mulM_f (.inr (.inl (by simpa using hc2)))
   rw [hno]
   exact ⟨none, _, rfl, MOwn.nil _ _ _ _ _ _ _ (Nat.zero_le _), hS⟩
  ·
   clear hF a; intro hc2 a hF
   try simp only [dcl] at hc2
   refine sv2 hF (v_pickF rfl rfl) (v_move rfl) rfl rfl ?_; clear hF a; intro a hF
   refine svg hF rfl ?_
   have hm1 : mayM (some (wb, p)) ma = true := by simpa using hc1
   have hm2 : mayM (some (wb, p)) mb = true := by simpa using hc2
   have hp1 := mayM_pos hm1
   have hp2 := mayM_pos hm2
   obtain ⟨gma, oma, rfl⟩ := hAma.at1 (by omega)
   obtain ⟨r0ma, h0ma⟩ : ∃ r, ma[0]? = some r := ⟨_, List.getElem?_eq_getElem (by omega)⟩
   obtain ⟨p0ma, c0ma, hk0ma, hrow0ma, -⟩ := hAma.row2 h0ma
   have hwma := wid_at h0ma
   obtain ⟨gmb, omb, rfl⟩ := hAmb.at1 (by omega)
   obtain ⟨r0mb, h0mb⟩ : ∃ r, mb[0]? = some r := ⟨_, List.getElem?_eq_getElem (by omega)⟩
   obtain ⟨p0mb, c0mb, hk0mb, hrow0mb, -⟩ := hAmb.row2 h0mb
   have hwmb := wid_at h0mb
   refine sv hF (v_move rfl) rfl ?_; clear hF a; intro a hF
   refine svg hF rfl ?_
   refine sv hF (v_ixS sl27 rfl rfl (by decide) (by omega)) rfl ?_; clear hF a; intro a hF
   refine svg hF rfl ?_
   refine sv hF (v_load sc37 rfl hk0ma.c) rfl ?_; clear hF a; intro a hF
   refine svg hF rfl ?_
   refine sv hF (v_lenS rfl sl37 rfl) rfl ?_; clear hF a; intro a hF
   refine svg hF rfl ?_
   refine sv hF (v_move rfl) rfl ?_; clear hF a; intro a hF
   refine svg hF rfl ?_
   refine sv hF (v_lenS rfl sl27 rfl) rfl ?_; clear hF a; intro a hF
   refine svg hF rfl ?_
   refine sv hF (v_neq rfl rfl) rfl ?_; clear hF a; intro a hF
   refine sv hF (v_pickF rfl rfl) rfl ?_; clear hF a; intro a hF
   refine WL_nil (hK _ _ ?_)
   clear hK K
   replace hF := hF.sub _ (c_ 34 rfl (c_ 9 rfl (c_ 8 rfl (c_ 0 rfl (c_ 1 rfl (c_ 2 rfl (c_ 3 rfl (n_))))))))
   refine W_if hF rfl (fun hc3 => ?_) (fun hc3 => ?_)
   ·
    skip
    try simp only [dcl] at hc3
    refine W_sr rfl (fun K hK => ?_)
    refine sv2 hF (v_assign rfl) (v_assign rfl) rfl rfl ?_; clear hF a; intro a hF
    refine WL_nil (hK _ _ ?_)
    clear hK K
    replace hF := hF.sub _ (c_ 9 rfl (c_ 8 rfl (c_ 0 rfl (c_ 1 rfl (c_ 2 rfl (c_ 3 rfl (n_)))))))
    refine W_ret ?_
    refine ⟨_, _, _, hF, rfl, rfl, ?_⟩
    have hno : mulM (some (wb, p)) ma mb = none := mulM_f (.inr (.inr (by rw [hwma]; omega)))
    rw [hno]
    exact ⟨none, _, rfl, MOwn.nil _ _ _ _ _ _ _ (Nat.zero_le _), hS⟩
   ·
    skip
    try simp only [dcl] at hc3
    refine W_skip ?_
    have hyes := mulM_t hm1 hm2 (by rw [hwma]; omega)
    refine W_sr rfl (fun K hK => ?_)
    refine sv hF (v_assign rfl) rfl ?_; clear hF a; intro a hF
    refine WL_nil (hK _ _ ?_)
    clear hK K
    replace hF := hF.sub _ (c_ 10 rfl (c_ 9 rfl (c_ 8 rfl (c_ 0 rfl (c_ 1 rfl (c_ 2 rfl (c_ 3 rfl (n_))))))))
    refine W_seq ?_
    refine W_sr rfl (fun K hK => ?_)
    refine sv hF (v_assign rfl) rfl ?_; clear hF a; intro a hF
    refine WL_nil (hK _ _ ?_)
    clear hK K
    refine W_block ?_
    refine W_loop (fun m a w1 => ∃ (i : Nat) (v10 : Value) (b10 : Option Nat), Fr 83 [(0, .int .i64 (wb : Int)), (1, .int .u32 (p : Int)), (2, .slice (some ⟨gma, oma, none⟩) ma.length cma), (3, .slice (some ⟨gmb, omb, none⟩) mb.length cmb), (10, v10), (11, .int .i64 (i : Int))] a ∧ (St FDx B w w1) ∧ (Mat FDx B M w1 (some ⟨gma, oma, none⟩) cma ma) ∧ (Mat FDx B M w1 (some ⟨gmb, omb, none⟩) cmb mb) ∧ (MOwn FDx B w.heap.size 0 w1.heap.size w1 37 v10 b10 ((ma.take i).map (mulRow (some (wb, p)) mb))) ∧ (i ≤ ma.length) ∧ (m + i = ma.length)) (ma.length) ?_ ?_
    ·
     skip
     exact ⟨0, _, none, hF.sub _ (c_ 0 rfl (c_ 1 rfl (c_ 2 rfl (c_ 3 rfl (c_ 10 rfl (c_ 11 rfl (n_))))))), hS, hAma, hAmb, MOwn.nil _ _ _ _ _ _ _ (Nat.zero_le _), by omega, by omega⟩
    ·
     skip
     clear hF
     clear hS hAma hAmb hk0ma hrow0ma hk0mb hrow0mb
     rintro m a w1 ⟨i, v10, b10, hF, hS, hAma, hAmb, hMO, hi, hm⟩
     refine W_seq ?_
     obtain ⟨KM, hKe⟩ : ∃ KM, KM = w1.heap.size := ⟨_, rfl⟩
     rw [← hKe] at hMO
     have hKs : KM ≤ w1.heap.size := by omega
     have hNK : w.heap.size ≤ KM := by have := hS.ext.size; omega
     clear hKe
     refine W_sr rfl (fun K hK => ?_)
     refine sv2 hF (v_move rfl) (v_move rfl) rfl rfl ?_; clear hF a; intro a hF
     refine sv hF (v_lenS rfl sl27 rfl) rfl ?_; clear hF a; intro a hF
     refine sv hF (v_lss rfl rfl) rfl ?_; clear hF a; intro a hF
     refine WL_nil (hK _ _ ?_)
     clear hK K
     replace hF := hF.sub _ (c_ 38 rfl (c_ 0 rfl (c_ 1 rfl (c_ 2 rfl (c_ 3 rfl (c_ 10 rfl (c_ 11 rfl (n_))))))))
     refine W_if hF rfl (fun hc4 => ?_) (fun hc4 => ?_)
     ·
      skip
      try simp only [dcl] at hc4
      obtain ⟨r, hr⟩ : ∃ z, ma[i]? = some z := ⟨_, List.getElem?_eq_getElem (by omega)⟩
      obtain ⟨pr, cr, hkr, hrowr, -⟩ := hAma.row2 hr
      have hrl := (hp1.2.2.2.2 r (List.mem_of_getElem? hr)).1
      refine W_skip ?_
      refine W_seq ?_
      refine W_block ?_
      refine W_sr rfl (fun K hK => ?_)
      refine sv hF (v_assign rfl) rfl ?_; clear hF a; intro a hF
      refine WL_nil (hK _ _ ?_)
      clear hK K
      replace hF := hF.sub _ (c_ 12 rfl (c_ 0 rfl (c_ 1 rfl (c_ 2 rfl (c_ 3 rfl (c_ 10 rfl (c_ 11 rfl (n_))))))))
      refine W_seq ?_
      refine W_sr rfl (fun K hK => ?_)
      refine sv hF (v_assign rfl) rfl ?_; clear hF a; intro a hF
      refine WL_nil (hK _ _ ?_)
      clear hK K
      refine W_block ?_
      refine W_loop (fun m2 a w2 => ∃ (j : Nat) (v12 : Value) (b12 : Option Nat), Fr 83 [(0, .int .i64 (wb : Int)), (1, .int .u32 (p : Int)), (2, .slice (some ⟨gma, oma, none⟩) ma.length cma), (3, .slice (some ⟨gmb, omb, none⟩) mb.length cmb), (10, v10), (11, .int .i64 (i : Int)), (12, v12), (13, .int .i64 (j : Int))] a ∧ (St FDx B w w2) ∧ (Mat FDx B M w2 (some ⟨gma, oma, none⟩) cma ma) ∧ (Mat FDx B M w2 (some ⟨gmb, omb, none⟩) cmb mb) ∧ (MOwn FDx B w.heap.size 0 KM w2 37 v10 b10 ((ma.take i).map (mulRow (some (wb, p)) mb))) ∧ (KM ≤ w2.heap.size) ∧ (Gam.Own FDx B KM w2 FDx.E v12 b12 (zints ((mulRow (some (wb, p)) mb r).take j))) ∧ (j ≤ wid mb) ∧ (m2 + j = wid mb)) (wid mb) ?_ ?_
      ·
       skip
       exact ⟨0, _, none, hF.sub _ (c_ 0 rfl (c_ 1 rfl (c_ 2 rfl (c_ 3 rfl (c_ 10 rfl (c_ 11 rfl (c_ 12 rfl (c_ 13 rfl (n_))))))))), hS, hAma, hAmb, hMO, hKs, Gam.Own.nil _ _ _ _ _, by omega, by omega⟩
      ·
       skip
       clear hF
       clear hS hAma hAmb hMO hKs hkr hrowr
       rintro m2 a w2 ⟨j, v12, b12, hF, hS, hAma, hAmb, hMO, hKs, hO, hj, hm2⟩
       refine W_seq ?_
       obtain ⟨p0, c0, hk0, -⟩ := hAmb.row2 h0mb
       refine W_sr rfl (fun K hK => ?_)
       refine sv2 hF (v_move rfl) (v_move rfl) rfl rfl ?_; clear hF a; intro a hF
       refine sv hF (v_ixS sl27 rfl rfl (by decide) (by omega)) rfl ?_; clear hF a; intro a hF
       refine sv hF (v_load sc37 rfl hk0.c) rfl ?_; clear hF a; intro a hF
       refine sv hF (v_lenS rfl sl37 rfl) rfl ?_; clear hF a; intro a hF
       refine sv hF (v_lss rfl rfl) rfl ?_; clear hF a; intro a hF
       refine WL_nil (hK _ _ ?_)
       clear hK K
       replace hF := hF.sub _ (c_ 46 rfl (c_ 0 rfl (c_ 1 rfl (c_ 2 rfl (c_ 3 rfl (c_ 10 rfl (c_ 11 rfl (c_ 12 rfl (c_ 13 rfl (n_))))))))))
       refine W_if hF rfl (fun hc5 => ?_) (fun hc5 => ?_)
       ·
        skip
        try simp only [dcl] at hc5
        clear hk0
        refine W_skip ?_
        refine W_seq ?_
        refine W_block ?_
        refine W_sr rfl (fun K hK => ?_)
        refine sv hF (v_assign rfl) rfl ?_; clear hF a; intro a hF
        refine WL_nil (hK _ _ ?_)
        clear hK K
        replace hF := hF.sub _ (c_ 14 rfl (c_ 0 rfl (c_ 1 rfl (c_ 2 rfl (c_ 3 rfl (c_ 10 rfl (c_ 11 rfl (c_ 12 rfl (c_ 13 rfl (n_))))))))))
        refine W_seq ?_
        refine W_sr rfl (fun K hK => ?_)
        refine sv hF (v_assign rfl) rfl ?_; clear hF a; intro a hF
        refine WL_nil (hK _ _ ?_)
        clear hK K
        refine W_block ?_
        refine W_loop (fun m3 a w3 => ∃ (k : Nat), Fr 83 [(0, .int .i64 (wb : Int)), (1, .int .u32 (p : Int)), (2, .slice (some ⟨gma, oma, none⟩) ma.length cma), (3, .slice (some ⟨gmb, omb, none⟩) mb.length cmb), (10, v10), (11, .int .i64 (i : Int)), (12, v12), (13, .int .i64 (j : Int)), (14, .int .i64 (dotP (some (wb, p)) r (colAt mb j) k : Int)), (15, .int .i64 (k : Int))] a ∧ (St FDx B w w3) ∧ (Mat FDx B M w3 (some ⟨gma, oma, none⟩) cma ma) ∧ (Mat FDx B M w3 (some ⟨gmb, omb, none⟩) cmb mb) ∧ (MOwn FDx B w.heap.size 0 KM w3 37 v10 b10 ((ma.take i).map (mulRow (some (wb, p)) mb))) ∧ (KM ≤ w3.heap.size) ∧ (Gam.Own FDx B KM w3 FDx.E v12 b12 (zints ((mulRow (some (wb, p)) mb r).take j))) ∧ (k ≤ r.length) ∧ (m3 + k = r.length)) (r.length) ?_ ?_
        ·
         skip
         exact ⟨0, hF.sub _ (c_ 0 rfl (c_ 1 rfl (c_ 2 rfl (c_ 3 rfl (c_ 10 rfl (c_ 11 rfl (c_ 12 rfl (c_ 13 rfl (c_ 14 rfl (c_ 15 rfl (n_))))))))))), hS, hAma, hAmb, hMO, hKs, hO, by omega, by omega⟩
        ·
         skip
         clear hF
         clear hS hAma hAmb hMO hKs hO
         rintro m3 a w3 ⟨k, hF, hS, hAma, hAmb, hMO, hKs, hO, hk, hm3⟩
         refine W_seq ?_
         refine W_sr rfl (fun K hK => ?_)
         refine sv2 hF (v_move rfl) (v_move rfl) rfl rfl ?_; clear hF a; intro a hF
         refine sv hF (v_lenS rfl sl27 rfl) rfl ?_; clear hF a; intro a hF
         refine sv hF (v_lss rfl rfl) rfl ?_; clear hF a; intro a hF
         refine WL_nil (hK _ _ ?_)
         clear hK K
         replace hF := hF.sub _ (c_ 52 rfl (c_ 0 rfl (c_ 1 rfl (c_ 2 rfl (c_ 3 rfl (c_ 10 rfl (c_ 11 rfl (c_ 12 rfl (c_ 13 rfl (c_ 14 rfl (c_ 15 rfl (n_))))))))))))
         refine W_if hF rfl (fun hc6 => ?_) (fun hc6 => ?_)
         ·
          skip
          try simp only [dcl] at hc6
          obtain ⟨pr, cr, hkr, hrowr, -⟩ := hAma.row2 hr
          obtain ⟨s, hs⟩ : ∃ z, mb[k]? = some z := ⟨_, List.getElem?_eq_getElem (by omega)⟩
          obtain ⟨ps, cs, hks, hrows, -⟩ := hAmb.row2 hs
          have hsl := (hp2.2.2.2.2 s (List.mem_of_getElem? hs)).1
          obtain ⟨x, hx⟩ : ∃ z, r[k]? = some z := ⟨_, List.getElem?_eq_getElem (by omega)⟩
          obtain ⟨gxx, oxx, hgxx, hkx, -⟩ := hrowr.kat (zints_at hx)
          subst hgxx
          obtain ⟨y, hy⟩ : ∃ z, s[j]? = some z := ⟨_, List.getElem?_eq_getElem (by omega)⟩
          obtain ⟨gxy, oxy, hgxy, hky, -⟩ := hrows.kat (zints_at hy)
          subst hgxy
          have hst := dotP_step (o := (some (wb, p))) hx (colAt_at hs hy)
          have hdl := dotN_ltP hp (r.take k) ((colAt mb j).take k)
          refine W_skip ?_
          refine W_seq ?_
          refine W_block ?_
          refine W_draw (m := 20) rfl hmix hS.inv (fun K hK w1 hS' hh => ?_)
          replace hAma := hAma.st hS'
          replace hAmb := hAmb.st hS'
          replace hMO := hMO.st (by decide) hS'
          replace hKs := Nat.le_trans hKs hS'.ext.size
          replace hO := hO.st (by decide) hS'
          replace hkr := hkr.st hS'
          replace hks := hks.st hS'
          replace hkx := hkx.st hS'
          replace hky := hky.st hS'
          replace hS := hS.trans hS'
          clear hS'
          clear hh
          refine a_v (i := 0) rfl (by kernel_rfl) hF (fun w2 hx => v_move rfl) rfl ?_; clear hF a; intro a hF
          refine a_v (i := 1) rfl (by kernel_rfl) hF (fun w2 hx => v_move rfl) rfl ?_; clear hF a; intro a hF
          refine a_v (i := 2) rfl (by kernel_rfl) hF (fun w2 hx => v_move rfl) rfl ?_; clear hF a; intro a hF
          refine a_v (i := 3) rfl (by kernel_rfl) hF (fun w2 hx => v_move rfl) rfl ?_; clear hF a; intro a hF
          refine a_v (i := 4) rfl (by kernel_rfl) hF (fun w2 hx => v_move rfl) rfl ?_; clear hF a; intro a hF
          refine a_v (i := 5) rfl (by kernel_rfl) hF (fun w2 hx => v_ixS sl27 rfl rfl (by omega) (by omega)) rfl ?_; clear hF a; intro a hF
          refine a_v (i := 6) rfl (by kernel_rfl) hF (fun w2 hx => v_load sc37 rfl (by rw [toNat_c]; exact hkr.ld hx)) rfl ?_; clear hF a; intro a hF
          refine a_v (i := 7) rfl (by kernel_rfl) hF (fun w2 hx => v_move rfl) rfl ?_; clear hF a; intro a hF
          refine a_v (i := 8) rfl (by kernel_rfl) hF (fun w2 hx => v_ixS sl37 rfl rfl (by omega) (by omega)) rfl ?_; clear hF a; intro a hF
          refine a_v (i := 9) rfl (by kernel_rfl) hF (fun w2 hx => v_load sc3 rfl (by rw [toNat_c]; exact hkx.ld hx)) rfl ?_; clear hF a; intro a hF
          refine a_v (i := 10) rfl (by kernel_rfl) hF (fun w2 hx => v_move rfl) rfl ?_; clear hF a; intro a hF
          refine a_v (i := 11) rfl (by kernel_rfl) hF (fun w2 hx => v_move rfl) rfl ?_; clear hF a; intro a hF
          refine a_v (i := 12) rfl (by kernel_rfl) hF (fun w2 hx => v_ixS sl27 rfl rfl (by omega) (by omega)) rfl ?_; clear hF a; intro a hF
          refine a_v (i := 13) rfl (by kernel_rfl) hF (fun w2 hx => v_load sc37 rfl (by rw [toNat_c]; exact hks.ld hx)) rfl ?_; clear hF a; intro a hF
          refine a_v (i := 14) rfl (by kernel_rfl) hF (fun w2 hx => v_move rfl) rfl ?_; clear hF a; intro a hF
          refine a_v (i := 15) rfl (by kernel_rfl) hF (fun w2 hx => v_ixS sl37 rfl rfl (by omega) (by omega)) rfl ?_; clear hF a; intro a hF
          refine a_v (i := 16) rfl (by kernel_rfl) hF (fun w2 hx => v_load sc3 rfl (by rw [toNat_c]; exact hky.ld hx)) rfl ?_; clear hF a; intro a hF
          refine a_e (i := 17) rfl (by kernel_rfl) ?_
          refine sc hF rfl rfl rfl en82 rfl (rMul_gf B wb p x y _ hS.inv hp) ?_; clear hF a; intro v w' a hv hF
          obtain ⟨rfl, hS'⟩ := hv
          refine WL_nil ⟨hS'.ext, ?_⟩
          replace hAma := hAma.st hS'
          replace hAmb := hAmb.st hS'
          replace hMO := hMO.st (by decide) hS'
          replace hKs := Nat.le_trans hKs hS'.ext.size
          replace hO := hO.st (by decide) hS'
          replace hkr := hkr.st hS'
          replace hks := hks.st hS'
          replace hkx := hkx.st hS'
          replace hky := hky.st hS'
          replace hS := hS.trans hS'
          clear hS'
          obtain ⟨z, hz, hzl⟩ := gmul_nnP hp x y
          rw [hz, Int.toNat_natCast] at hst
          rw [hz] at hF
          refine a_v (i := 18) rfl (by kernel_rfl) hF (fun w2 hx => (v_xorN (m := dotP (some (wb, p)) r (colAt mb j) k) (n := z) rfl rfl (fits_i64 (Nat.lt_of_lt_of_le hdl (by decide))) (fits_i64 (by omega))).as (congrArg (fun (q : Nat) => Value.int .i64 (q : Int)) hst.symm)) rfl ?_; clear hF a; intro a hF
          refine a_v (i := 19) rfl (by kernel_rfl) hF (fun w2 hx => v_assign rfl) rfl ?_; clear hF a; intro a hF
          refine a_done (by kernel_rfl) (hK _ _ ?_)
          clear hK K
          replace hF := hF.sub _ (c_ 14 rfl (c_ 0 rfl (c_ 1 rfl (c_ 2 rfl (c_ 3 rfl (c_ 10 rfl (c_ 11 rfl (c_ 12 rfl (c_ 13 rfl (c_ 15 rfl (n_)))))))))))
          refine W_reg rfl (fun K hK => ?_)
          refine sv hF (v_move rfl) rfl ?_; clear hF a; intro a hF
          refine sv hF (v_addI rfl rfl (by omega)) rfl ?_; clear hF a; intro a hF
          refine sv hF (v_assign rfl) rfl ?_; clear hF a; intro a hF
          refine WL_nil (hK _ _ ?_)
          clear hK K
          exact ⟨m3 - 1, by omega, k + 1, hF.sub _ (c_ 0 rfl (c_ 1 rfl (c_ 2 rfl (c_ 3 rfl (c_ 10 rfl (c_ 11 rfl (c_ 12 rfl (c_ 13 rfl (c_ 14 rfl (c_ 15 rfl (n_))))))))))), hS, hAma, hAmb, hMO, hKs, hO, by omega, by omega⟩
         ·
          skip
          try simp only [dcl] at hc6
          obtain rfl : k = r.length := by omega
          refine W_exit rfl ?_
          have hul := mulRow_length (some (wb, p)) mb r
          refine W_reg rfl (fun K hK => ?_)
          refine sv2 hF (v_move rfl) (v_move rfl) rfl rfl ?_; clear hF a; intro a hF
          refine s_bs (D := FDx) (B := B) hF sl37 rfl rfl (by decide) (by simp [Value.cells]) (by decide) hS.inv rfl ?_; clear hF a; intro w' a hm hI' hL hF
          replace hAma := hAma.mb hm (fun _ h => by cases h)
          replace hAmb := hAmb.mb hm (fun _ h => by cases h)
          replace hMO := hMO.mb0 hm
          replace hKs := Nat.le_trans hKs hm.size
          replace hO := hO.mb hm (fun _ _ => by simp)
          replace hS := hS.mb0 hm
          clear hm hI'
          refine s_app (D := FDx) (B := B) hF rfl sl37 rfl rfl hO (hL.row (by decide)) (by simp [Value.oneCell']) (by simp; omega) (by simp [maxLen]; omega) (hKs) (by decide) hS.inv rfl ?_; clear hF a; intro v' b' w' a ho' hm hI' hb' hF
          replace hAma := hAma.mb hm (fun k h => Nat.le_trans (by omega) (hO.lt k h).1)
          replace hAmb := hAmb.mb hm (fun k h => Nat.le_trans (by omega) (hO.lt k h).1)
          replace hMO := hMO.mbo hm hO (by decide) (Nat.le_refl _) (Nat.zero_le _)
          replace hKs := Nat.le_trans hKs hm.size
          replace hS := hS.mb hm (fun k h => Nat.le_trans (hNK) (hO.lt k h).1)
          replace hO := ho'
          clear hm hI' ho'
          refine sv hF (v_assign rfl) rfl ?_; clear hF a; intro a hF
          refine WL_nil (hK _ _ ?_)
          clear hK K
          replace hF := hF.sub _ (c_ 12 rfl (c_ 77 rfl (c_ 76 rfl (c_ 75 rfl (c_ 74 rfl (c_ 0 rfl (c_ 1 rfl (c_ 2 rfl (c_ 3 rfl (c_ 10 rfl (c_ 11 rfl (c_ 13 rfl (c_ 14 rfl (c_ 15 rfl (n_)))))))))))))))
          refine W_reg rfl (fun K hK => ?_)
          refine sv hF (v_move rfl) rfl ?_; clear hF a; intro a hF
          refine sv hF (v_addI rfl rfl (by omega)) rfl ?_; clear hF a; intro a hF
          refine sv hF (v_assign rfl) rfl ?_; clear hF a; intro a hF
          refine WL_nil (hK _ _ ?_)
          clear hK K
          exact ⟨m2 - 1, by omega, j + 1, _, _, hF.sub _ (c_ 0 rfl (c_ 1 rfl (c_ 2 rfl (c_ 3 rfl (c_ 10 rfl (c_ 11 rfl (c_ 12 rfl (c_ 13 rfl (n_))))))))), hS, hAma, hAmb, hMO, hKs, hO.cast (by rw [mulRow_snoc' (by omega) (by rw [colAt_length]; omega)]; simp [zints]), by omega, by omega⟩
       ·
        skip
        try simp only [dcl] at hc5
        clear hk0
        refine W_exit rfl ?_
        obtain rfl : j = wid mb := by omega
        rw [List.take_of_length_le (by rw [mulRow_length]; omega)] at hO
        refine W_reg rfl (fun K hK => ?_)
        refine sv2 hF (v_move rfl) (v_move rfl) rfl rfl ?_; clear hF a; intro a hF
        obtain ⟨a_, c_r, rfl⟩ := hO.shape
        refine s_bs (D := FDx) (B := B) hF sl27 rfl rfl (by decide) (by simp [Value.cells]) (by decide) hS.inv rfl ?_; clear hF a; intro w' a hm hI' hL hF
        replace hAma := hAma.mb hm (fun _ h => by cases h)
        replace hAmb := hAmb.mb hm (fun _ h => by cases h)
        replace hMO := hMO.mb0 hm
        replace hKs := Nat.le_trans hKs hm.size
        replace hO := hO.mb hm (fun _ _ => by simp)
        replace hS := hS.mb0 hm
        clear hm hI'
        replace hMO := hMO.up hKs
        clear hKs
        refine s_appM (D := FDx) (B := B) hF rfl sl27 rfl rfl hMO hL (.of hO (Nat.zero_le _)) rfl rfl (by simp; omega) (hS.ext.size) (by decide) (by decide) hS.inv rfl ?_; clear hF a; intro v' b' w' a ho' hm hI' hF
        replace hAma := hAma.mb hm (fun k h => Nat.le_trans (by omega) (hMO.lt k h).1)
        replace hAmb := hAmb.mb hm (fun k h => Nat.le_trans (by omega) (hMO.lt k h).1)
        replace hS := hS.mb hm (fun k h => (hMO.lt k h).1)
        have hKm := hm.size
        replace hMO := ho'
        clear hm hI' ho' hL
        refine sv hF (v_assign rfl) rfl ?_; clear hF a; intro a hF
        refine WL_nil (hK _ _ ?_)
        clear hK K
        replace hF := hF.sub _ (c_ 10 rfl (c_ 81 rfl (c_ 80 rfl (c_ 79 rfl (c_ 78 rfl (c_ 0 rfl (c_ 1 rfl (c_ 2 rfl (c_ 3 rfl (c_ 11 rfl (c_ 12 rfl (c_ 13 rfl (n_)))))))))))))
        refine W_reg rfl (fun K hK => ?_)
        refine sv hF (v_move rfl) rfl ?_; clear hF a; intro a hF
        refine sv hF (v_addI rfl rfl (by omega)) rfl ?_; clear hF a; intro a hF
        refine sv hF (v_assign rfl) rfl ?_; clear hF a; intro a hF
        refine WL_nil (hK _ _ ?_)
        clear hK K
        exact ⟨m - 1, by omega, i + 1, _, _, hF.sub _ (c_ 0 rfl (c_ 1 rfl (c_ 2 rfl (c_ 3 rfl (c_ 10 rfl (c_ 11 rfl (n_))))))), hS, hAma, hAmb, (hMO.up hKm).cast (map_snoc hr).symm, by omega, by omega⟩
     ·
      skip
      try simp only [dcl] at hc4
      refine W_exit rfl ?_
      refine W_sr rfl (fun K hK => ?_)
      refine sv3 hF (v_move rfl) (v_assign rfl) (v_assign rfl) rfl rfl rfl ?_; clear hF a; intro a hF
      refine WL_nil (hK _ _ ?_)
      clear hK K
      replace hF := hF.sub _ (c_ 9 rfl (c_ 8 rfl (c_ 82 rfl (c_ 0 rfl (c_ 1 rfl (c_ 2 rfl (c_ 3 rfl (c_ 10 rfl (c_ 11 rfl (n_))))))))))
      refine W_ret ?_
      refine ⟨_, _, _, hF, rfl, rfl, ?_⟩
      obtain rfl : i = ma.length := by omega
      rw [List.take_length] at hMO
      rw [hyes]
      exact ⟨_, _, rfl, hMO.up hKs, hS⟩

end Go.Proofs.Ytaeljbdpjiciaaa

/- The walk of gambrelref04: Apply. -/
set_option linter.unusedVariables false
set_option linter.unusedSimpArgs false
namespace Go.Proofs.Ytaeljbdpjiciaaa
open Go Go.Gam


namespace FxFRef04d
end FxFRef04d
open FxFRef04d

end Go.Proofs.Ytaeljbdpjiciaaa
