/- Texts of the claim CauchySquares (part 9), put together in the order of their imports. -/
import Derived.Test.YtaeljbdpjiciaaaKCauchySquares8
/- The table of profiles. No program in sight. -/
set_option linter.unusedVariables false
set_option linter.unusedSimpArgs false
set_option linter.unusedSectionVars false
namespace Go.Gam

/-- A profile, cell by cell. -/
def prf (a b : UInt8) (bits poly : Int) (l : Int) (m : Int) : List Value := [.string ⟨#[a, b]⟩, .int .i64 bits, .int .u32 poly, .int .u8 l, .int .i64 m]
def prz : List Value := [.string ⟨#[]⟩, .int .i64 0, .int .u32 0, .int .u8 0, .int .i64 0]
def prN : Nat → List Value
  | 0 => prf 106 118 8 285 106 4
  | 1 => prf 106 99 16 69643 106 4
  | 2 => prf 105 114 8 285 105 3
  | 3 => prf 105 99 8 285 105 4
  | 4 => prf 98 98 8 285 98 4
  | _ => prf 107 112 8 285 112 4
def prAll : List Value := prN 0 ++ (prN 1 ++ (prN 2 ++ (prN 3 ++ (prN 4 ++ prN 5))))
def prOf (p : Int) : List Value := if 1 ≤ p ∧ p ≤ 6 then prN (p - 1).toNat else prz
def tagS : Nat → ByteArray
  | 0 => ⟨#[106, 118]⟩
  | 1 => ⟨#[106, 99]⟩
  | 2 => ⟨#[105, 114]⟩
  | 3 => ⟨#[105, 99]⟩
  | 4 => ⟨#[98, 98]⟩
  | _ => ⟨#[107, 112]⟩
/-- The first tag from i on that is s. -/
def tagR (s : ByteArray) : Nat → Nat → Int × Bool
  | _, 0 => (0, false)
  | i, d + 1 => if tagS i = s then (((i + 1 : Nat) : Int), true) else tagR s (i + 1) d
def maxM (p : Int) : Int := if p = 3 then 3 else 4
def mayP (p k m : Int) : Bool := decide (1 ≤ p ∧ p ≤ 6 ∧ 1 ≤ k ∧ k ≤ 8 ∧ 1 ≤ m ∧ m ≤ maxM p)
/-- A profile's field. -/
def pfl (p : Int) : Nat × Nat := if p = 2 then (16, 69643) else (8, 285)
section
variable {wb q : Nat} (hp : Prm wb q)
def behM (k m : Int) : Option Mtx := if fitB (some (wb, q)) k m = true then some (tab m.toNat k.toNat fun i j => sysT hp k.toNat (k.toNat + i) j) else none
end

/-! ### parity rows of a profile -/
theorem rnL_nodup (fr n : Nat) : (rnL fr n).Nodup := by
  unfold rnL
  rw [List.nodup_iff_pairwise_ne, List.pairwise_map]
  exact List.nodup_range.imp fun h e => h (by omega)
theorem rnL_mem {fr n : Nat} {z : Int} : z ∈ rnL fr n ↔ ∃ j, j < n ∧ z = ((fr + j : Nat) : Int) := by
  unfold rnL
  simp only [List.mem_map, List.mem_range]
  exact ⟨fun ⟨j, h, e⟩ => ⟨j, h, e.symm⟩, fun ⟨j, h, e⟩ => ⟨j, h, e.symm⟩⟩
theorem rn_ok {wb a n b m : Nat} (hw : wb = 8 ∨ wb = 16) (h1 : 1 ≤ n) (h2 : 1 ≤ m) (h3 : n + m ≤ 20) (hd : a + n = b ∧ a = 0 ∨ b + m = a ∧ b = 0) : ofB wb (rnL a n) (rnL b m) = true := by
  have hs : 2 ^ wb ≥ 256 := by rcases hw with h | h <;> rw [h] <;> decide
  refine ofB_ok (by rw [rnL_length, rnL_length]; omega) (List.nodup_append.2 ⟨rnL_nodup _ _, rnL_nodup _ _, fun x hx y hy e => ?_⟩) fun z hz => ?_
  · obtain ⟨i, hi, rfl⟩ := rnL_mem.1 hx
    obtain ⟨j, hj, rfl⟩ := rnL_mem.1 hy
    omega
  · rcases List.mem_append.1 hz with hz | hz <;> obtain ⟨i, hi, rfl⟩ := rnL_mem.1 hz <;> constructor <;> omega
section
variable {wb q : Nat} (hp : Prm wb q)
theorem cisaM_is {k m : Nat} (h1 : 1 ≤ k) (h2 : 1 ≤ m) (h3 : k + m ≤ 20) : cisaM hp (k : Int) (m : Int) = some (tab m k (ofT hp (rnL k m) (rnL 0 k))) := by
  unfold cisaM
  rw [if_pos (fitB_ok rfl h1 h2 h3), Int.toNat_natCast, Int.toNat_natCast, ofM_is hp (rn_ok hp.w (by omega) (by omega) (by omega) (by omega)), rnL_length, rnL_length]
end
def prT (p : Int) (k m : Nat) : Tb :=
  if p = 1 then parT prm_285 k m else if p = 2 then ofT prm_69643 (rnL 0 m) (rnL m k) else if p = 3 then isT (some (8, 285)) else if p = 4 then ofT prm_285 (rnL k m) (rnL 0 k) else fun i j => sysT prm_285 k (k + i) j
/-! ### plain laws of layer 9 -/
def fns (a b c d e f : FuncId) : List Value := [.func (.func a) #[] #[], .func (.func b) #[] #[], .func (.func c) #[] #[], .func (.func d) #[] #[], .func (.func e) #[] #[], .func (.func f) #[] #[]]
end Go.Gam

/- Plain laws of layer 8: which rows are safe. No program in sight. -/
set_option linter.unusedVariables false
set_option linter.unusedSimpArgs false
set_option linter.unusedSectionVars false
namespace Go.Gam
open Px

section
variable {wb p : Nat} (hp : Prm wb p)
theorem one_iv {f : Tb} (hb : hp.fld.Bd f) (h : f 0 0 ≠ 0) : ∃ g, hp.fld.iv 1 f = some g :=
  hp.fld.iv_ofR hb fun y hy h0 i hi => by
    obtain rfl : i = 0 := by omega
    have e := h0 0 (by omega)
    simp only [xsum, Nat.zero_xor] at e
    rcases hp.fld.nzd _ _ (hb 0 0) (hy 0) e with e | e
    · exact absurd e h
    · exact e
/-- Rows that are safe have no 0. -/
theorem safe_ne {n m i j : Nat} {f : Tb} (hb : hp.fld.Bd f) (h : safeB hp n m f = true) (hi : i < n) (hj : j < m) : f i j ≠ 0 := fun h0 => by
  have hok := (safeB_iff hp).1 h 0 (by omega) [i] (ch_mem.2 ⟨rfl, by simp, fun x hx => by simp at hx; omega⟩) [j] (ch_mem.2 ⟨rfl, by simp, fun x hx => by simp at hx; omega⟩)
  unfold okC at hok
  have hx : Mx wb 1 1 (tab 1 1 (mnr f [i] [j])) := mx_tab hp (hp.fld.mnr_bd hb _ _)
  obtain ⟨g, -, hI, -⟩ := inv_reg hp (hx.sq (by decide) (by decide)) hok
  have hr := hI.r 0 0 (by rw [tab_length]; omega) (by rw [tab_length]; omega)
  unfold Fld.mm at hr
  rw [tab_length] at hr
  simp only [xsum, Nat.zero_xor] at hr
  rw [en_tab (by omega) (by omega), show mnr f [i] [j] 0 0 = f i j from rfl, h0, hp.fld.zero_mul] at hr
  exact absurd hr (by decide)
theorem safe_sq {n : Nat} {f : Tb} (hb : hp.fld.Bd f) (hn : 1 ≤ n) (h : safeB hp n n f = true) : (invR hp (tab n n f)).1 = 0 := by
  have hm : List.range n ∈ ch n (n - 1 + 1) 0 := ch_mem.2 ⟨by rw [List.length_range]; omega, List.pairwise_lt_range, fun x hx => ⟨Nat.zero_le _, List.mem_range.1 hx⟩⟩
  have hok := (safeB_iff hp).1 h (n - 1) (by omega) _ hm _ hm
  unfold okC at hok
  rw [show n - 1 + 1 = n by omega] at hok
  rw [← hok]
  refine congrArg (fun t => (invR hp t).1) (tab_congr fun i j hi hj => ?_)
  unfold mnr
  rw [getD_of (show i < (List.range n).length by simpa using hi), getD_of (show j < (List.range n).length by simpa using hj), List.getElem_range, List.getElem_range]
end
theorem safeM_yes {wb p : Nat} (hp : Prm wb p) {mt : Mtx} (h0 : (safeM hp mt).2 = 0) (h1 : (safeM hp mt).1 = true) : mayM (some (wb, p)) mt = true ∧ mt.length ≤ 5 ∧ wid mt ≤ 8 ∧ safeB hp mt.length (wid mt) (en mt) = true := by
  unfold safeM at h0 h1
  split at h0
  · rename_i h
    rw [if_pos h] at h1
    exact ⟨h.1, h.2.1, h.2.2, h1⟩
  · exact absurd h0 (show ¬ ((1 : Int) = 0) by decide)
theorem safe_cell {wb p : Nat} (hp : Prm wb p) {mt : Mtx} {r : List Int} {i j : Nat} {z : Int} (h0 : (safeM hp mt).2 = 0) (h1 : (safeM hp mt).1 = true) (hr : mt[i]? = some r) (hz : r[j]? = some z) : r.length = wid mt ∧ z ≠ 0 := by
  obtain ⟨hm, -, -, hs⟩ := safeM_yes hp h0 h1
  have hx := (mayM_Mx hm).1
  have hi := (List.getElem?_eq_some_iff.1 hr).1
  have hrl := (hx.2 r (List.mem_of_getElem? hr)).1
  have hj := (List.getElem?_eq_some_iff.1 hz).1
  obtain ⟨r2, e1, -, e2, -⟩ := hx.num hi (show j < wid mt by omega)
  rw [hr] at e1
  obtain rfl := Option.some.inj e1
  rw [hz] at e2
  have hne := safe_ne hp (hx.bd hp) hs hi (show j < wid mt by omega)
  refine ⟨hrl, fun e => hne ?_⟩
  have := Option.some.inj e2
  omega
theorem safe_inv {wb p : Nat} (hp : Prm wb p) {mt : Mtx} (h0 : (safeM hp mt).2 = 0) (h1 : (safeM hp mt).1 = true) (hsq : mt.length = wid mt) : (invR hp mt).1 = 0 := by
  obtain ⟨hm, -, -, hs⟩ := safeM_yes hp h0 h1
  have hx := mayM_Mx hm
  rw [← hsq] at hs
  have := safe_sq hp (hx.1.bd hp) hx.2.1 hs
  have e := hx.1.eq_tab
  rw [← hsq] at e
  rw [← e] at this
  exact this
/-! ### the smallest ones -/
theorem inv_1 : prm_285.fld.inv 1 = 1 := prm_285.fld.one_pow _
theorem inv_2 : prm_285.fld.inv 2 = 142 := by
  have lt : ∀ x, x < 256 → x < 2 ^ prm_285.fld.w := fun x h => by rw [prm_285.fld_w]; exact h
  refine prm_285.fld.cancel (c := 2) (prm_285.fld.inv_lt _) (lt _ (by decide)) (lt _ (by decide)) (by decide) ?_
  rw [prm_285.fld.inv_mul (lt _ (by decide)) (by decide)]
  show 1 = Px.mulMod 142 2 285
  decide +kernel
theorem aw8_isal : cisaM prm_285 1 1 = some [[1]] := by
  have h := cisaM_is prm_285 (k := 1) (m := 1) (by decide) (by decide) (by decide)
  refine h.trans ?_
  show some [[((prm_285.fld.inv 1 : Nat) : Int)]] = _
  rw [inv_1]; rfl
theorem aw8_of : ofM prm_285 [0] [1, 2] = some [[1, 142]] := by
  rw [ofM_is prm_285 (by decide)]
  show some [[((prm_285.fld.inv 1 : Nat) : Int), ((prm_285.fld.inv 2 : Nat) : Int)]] = _
  rw [inv_1, inv_2]; rfl
theorem aw8_may {a b c d : Int} (h : ∀ x ∈ [a, b, c, d], inF (some (8, 285)) x = true) : mayM (some (8, 285)) [[a, b], [c, d]] = true := (Bool.and_eq_true_iff.1 (by have := aw5_sq h; unfold sqM at this; exact this)).1
theorem aw8_no : safeM prm_285 [[1, 1], [1, 1]] = (false, 0) := by
  rw [safeM_is prm_285 (aw8_may (by decide)) (by decide) (by decide)]
  congr 1
  refine safeB_no prm_285 (s := 1) (R := [0, 1]) (C := [0, 1]) (by decide) (by decide) (by decide) fun h => ?_
  unfold okC at h
  have e : tab 2 2 (mnr (en [[1, 1], [1, 1]]) [0, 1] [0, 1]) = [[1, 1], [1, 1]] := by decide
  rw [e, aw5_no] at h
  exact absurd h (by decide)
theorem aw8_yes : safeM prm_285 [[1, 1], [1, 2]] = (true, 0) := by
  have hmay := aw8_may (a := 1) (b := 1) (c := 1) (d := 2) (by decide)
  have hx := (mayM_Mx hmay).1
  rw [safeM_is prm_285 hmay (by decide) (by decide)]
  congr 1
  refine (safeB_iff prm_285).2 fun s hs R hR C hC => ?_
  have hs2 : s = 0 ∨ s = 1 := by
    have : min ([[1, 1], [1, 2]] : Mtx).length (wid [[1, 1], [1, 2]]) = 2 := by decide
    omega
  have hbd := hx.bd prm_285
  rcases hs2 with rfl | rfl
  · have e : ch 2 1 0 = [[0], [1]] := by decide
    have hR2 : R ∈ ch 2 1 0 := hR
    have hC2 : C ∈ ch 2 1 0 := hC
    rw [e] at hR2 hC2
    simp only [List.mem_cons, List.mem_nil_iff, or_false] at hR2 hC2
    rcases hR2 with rfl | rfl <;> rcases hC2 with rfl | rfl <;> unfold okC
    · have e : tab 1 1 (mnr (en [[1, 1], [1, 2]]) [0] [0]) = tab 1 1 (fun _ _ => 1) := by decide
      rw [Nat.zero_add, e]; exact inv0 prm_285 (fun i j => by rw [prm_285.fld_w]; decide) (by decide) (by decide) (one_iv prm_285 (fun i j => by rw [prm_285.fld_w]; decide) (by decide))
    · have e : tab 1 1 (mnr (en [[1, 1], [1, 2]]) [0] [1]) = tab 1 1 (fun _ _ => 1) := by decide
      rw [Nat.zero_add, e]; exact inv0 prm_285 (fun i j => by rw [prm_285.fld_w]; decide) (by decide) (by decide) (one_iv prm_285 (fun i j => by rw [prm_285.fld_w]; decide) (by decide))
    · have e : tab 1 1 (mnr (en [[1, 1], [1, 2]]) [1] [0]) = tab 1 1 (fun _ _ => 1) := by decide
      rw [Nat.zero_add, e]; exact inv0 prm_285 (fun i j => by rw [prm_285.fld_w]; decide) (by decide) (by decide) (one_iv prm_285 (fun i j => by rw [prm_285.fld_w]; decide) (by decide))
    · have e : tab 1 1 (mnr (en [[1, 1], [1, 2]]) [1] [1]) = tab 1 1 (fun _ _ => 2) := by decide
      rw [Nat.zero_add, e]; exact inv0 prm_285 (fun i j => by rw [prm_285.fld_w]; decide) (by decide) (by decide) (one_iv prm_285 (fun i j => by rw [prm_285.fld_w]; decide) (by decide))
  · have e : ch 2 2 0 = [[0, 1]] := by decide
    have hR2 : R ∈ ch 2 2 0 := hR
    have hC2 : C ∈ ch 2 2 0 := hC
    rw [e] at hR2 hC2
    simp only [List.mem_cons, List.mem_nil_iff, or_false] at hR2 hC2
    subst hR2; subst hC2
    unfold okC
    have e : tab 2 2 (mnr (en [[1, 1], [1, 2]]) [0, 1] [0, 1]) = [[1, 1], [1, 2]] := by decide
    obtain ⟨x, hx, -⟩ := aw5_inv
    show (invR prm_285 (tab 2 2 (mnr (en [[1, 1], [1, 2]]) [0, 1] [0, 1]))).1 = 0
    rw [e, hx]
end Go.Gam

/- What the statements of layer 8 call first. -/
set_option linter.unusedVariables false
set_option linter.unusedSimpArgs false
namespace Go.Proofs.Ytaeljbdpjiciaaa
open Go Go.Gam


namespace FxFAw08
theorem en21 : Ent Try.prog 21 := ent Try.func21 (by kernel_rfl) (by kernel_rfl)
theorem en23 : Ent Try.prog 23 := ent Try.func23 (by kernel_rfl) (by kernel_rfl)
theorem en24 : Ent Try.prog 24 := ent Try.func24 (by kernel_rfl) (by kernel_rfl)
theorem en26 : Ent Try.prog 26 := ent Try.func26 (by kernel_rfl) (by kernel_rfl)
theorem en35 : Ent Try.prog 35 := ent Try.func35 (by kernel_rfl) (by kernel_rfl)
theorem en41 : Ent Try.prog 41 := ent Try.func41 (by kernel_rfl) (by kernel_rfl)
theorem sl27 : Sl Try.prog 27 37 (.slice none 0 0) 24 := sl_of Try.underlying27 rfl (by kernel_rfl)
theorem sl28 : Sl Try.prog 28 37 (.slice none 0 0) 24 := sl_of Try.underlying28 rfl (by kernel_rfl)
theorem sl37 : Sl Try.prog 37 3 (.int .i64 0) 8 := sl_of Try.underlying37 rfl (by kernel_rfl)
end FxFAw08
open FxFAw08

theorem Same4_t (B M : Nat) (pma : Option Addr) (cma : Nat) (ma : Mtx) (pmb : Option Addr) (cmb : Nat) (mb : Mtx) (w : World) (hI : Inv FDx B w) (hAma : Mat FDx B M w pma cma ma) (hAmb : Mat FDx B M w pmb cmb mb) (hlma : ma.length ≤ 1000) (hbma : ∀ r ∈ ma, r.length ≤ 1000) (e : ma = mb) :
  Ret Try.prog 21 [.slice pma ma.length cma, .slice pmb mb.length cmb] w fun v w' => v = .bool true ∧ St FDx B w w' :=
 (Same04_ok B M pma cma ma pmb cmb mb w hI hAma hAmb hlma hbma).mono fun v w' h => by rw [decide_eq_true e] at h; exact h

set_option maxRecDepth 100000 in
set_option maxHeartbeats 1000000 in
theorem field8_ok (B : Nat) (lg : Bool) (w : World) (hI : Inv FDx B w) : Ret Try.prog 23 [.bool lg] w fun v w' => ∃ fv, v = .tuple #[fv, .int .i64 ((fq lg).1 : Int), .int .u32 ((fq lg).2 : Int)] ∧ Fo FDx B w' fv (some (fq lg)) ∧ St FDx B w w' := by
 refine enter3 8 [(0, .bool lg)] 2 3 4 Try.func23 rfl rfl rfl rfl rfl ?_; intro a hF
 have hS := St.refl hI
 refine W_sr rfl (fun K hK => ?_)
 refine sv3 hF (v_assign rfl) (v_assign rfl) (v_assign rfl) rfl rfl rfl ?_; clear hF a; intro a hF
 refine WL_nil (hK _ _ ?_)
 clear hK K
 refine W_seq ?_
 refine W_sr rfl (fun K hK => ?_)
 refine sv hF (v_move rfl) rfl ?_; clear hF a; intro a hF
 refine WL_nil (hK _ _ ?_)
 clear hK K
 replace hF := hF.sub _ (c_ 5 rfl (c_ 4 rfl (c_ 3 rfl (c_ 2 rfl (n_)))))
 refine W_if hF rfl (fun hc1 => ?_) (fun hc1 => ?_)
 ·
  skip
  try simp only [dcl] at hc1
  obtain rfl : lg = true := by assumption
  refine W_sr rfl (fun K hK => ?_)
  refine sc hF rfl rfl rfl en41 rfl (New_ok B 16 69643 _ hS.inv (by decide) (by decide)) ?_; clear hF a; intro v w' a hv hF
  obtain ⟨hf, hS'⟩ := hv
  obtain ⟨fv, rfl⟩ : ∃ x, x = v := ⟨_, rfl⟩
  rw [show newF 16 69643 = some (16, 69643) from newF_p prm_69643] at hf
  replace hS := hS.trans hS'
  clear hS'
  refine sv3 hF (v_assign rfl) (v_assign rfl) (v_assign rfl) rfl rfl rfl ?_; clear hF a; intro a hF
  refine WL_nil (hK _ _ ?_)
  clear hK K
  replace hF := hF.sub _ (c_ 4 rfl (c_ 3 rfl (c_ 2 rfl (n_))))
  refine W_ret ?_
  refine ⟨_, _, _, _, hF, rfl, rfl, rfl, ?_⟩
  exact ⟨fv, rfl, hf, hS⟩
 ·
  skip
  try simp only [dcl] at hc1
  obtain rfl : lg = false := by assumption
  refine W_skip ?_
  refine W_sr rfl (fun K hK => ?_)
  refine sc hF rfl rfl rfl en41 rfl (New_ok B 8 285 _ hS.inv (by decide) (by decide)) ?_; clear hF a; intro v w' a hv hF
  obtain ⟨hf, hS'⟩ := hv
  obtain ⟨fv, rfl⟩ : ∃ x, x = v := ⟨_, rfl⟩
  rw [show newF 8 285 = some (8, 285) from newF_p prm_285] at hf
  replace hS := hS.trans hS'
  clear hS'
  refine sv3 hF (v_assign rfl) (v_assign rfl) (v_assign rfl) rfl rfl rfl ?_; clear hF a; intro a hF
  refine WL_nil (hK _ _ ?_)
  clear hK K
  replace hF := hF.sub _ (c_ 4 rfl (c_ 3 rfl (c_ 2 rfl (n_))))
  refine W_ret ?_
  refine ⟨_, _, _, _, hF, rfl, rfl, rfl, ?_⟩
  exact ⟨fv, rfl, hf, hS⟩

set_option maxRecDepth 100000 in
set_option maxHeartbeats 1000000 in
theorem aw08_ok (B : Nat) (w : World) (hI : Inv FDx B w) : Ret Try.prog 22 [] w fun v w' => v = .bool true ∧ St FDx B w w' := by
 refine enter 78 [] 0 Try.func22 rfl rfl rfl rfl rfl ?_; intro a hF
 have hS := St.refl hI
 refine W_sr rfl (fun K hK => ?_)
 refine sv hF (v_assign rfl) rfl ?_; clear hF a; intro a hF
 refine WL_nil (hK _ _ ?_)
 clear hK K
 refine W_sr rfl (fun K hK => ?_)
 refine sc hF rfl rfl rfl en23 rfl (field8_ok B false _ hS.inv) ?_; clear hF a; intro v w' a hv hF
 obtain ⟨fv, rfl, hf, hS'⟩ := hv
 rw [show fq false = (8, 285) from rfl] at hf
 replace hS := hS.trans hS'
 clear hS'
 refine sv6 hF (v_move rfl) (v_ext rfl rfl) (v_ext rfl rfl) (v_ext rfl rfl) (v_assign rfl) (v_assign rfl) rfl rfl rfl rfl rfl rfl ?_; clear hF a; intro a hF
 refine sv hF (v_assign rfl) rfl ?_; clear hF a; intro a hF
 refine WL_nil (hK _ _ ?_)
 clear hK K
 replace hF := hF.sub _ (c_ 1 rfl (c_ 0 rfl (n_)))
 refine W_sr rfl (fun K hK => ?_)
 refine sv hF (v_move rfl) rfl ?_; clear hF a; intro a hF
 refine sc hF rfl rfl rfl en35 rfl (CIsal_ok B 8 285 prm_285 fv 1 1 _ hS.inv hf) ?_; clear hF a; intro v w' a hv hF
 obtain ⟨obX, uX, rfl, hoX, hS'⟩ := hv
 rw [aw8_isal] at hoX hF
 try simp only [Option.getD_some, Option.getD_none] at hoX
 obtain ⟨sX, cX, rfl, hX⟩ := hoX.mat (by decide) (Nat.zero_le _)
 clear hoX
 replace hf := hf.st hS'
 replace hS := hS.trans hS'
 clear hS'
 refine sv5 hF (v_move rfl) (v_ext rfl rfl) (v_ext rfl rfl) (v_assign rfl) (v_assign rfl) rfl rfl rfl rfl rfl ?_; clear hF a; intro a hF
 refine WL_nil (hK _ _ ?_)
 clear hK K
 replace hF := hF.sub _ (c_ 5 rfl (c_ 4 rfl (c_ 1 rfl (c_ 0 rfl (n_)))))
 refine W_sr rfl (fun K hK => ?_)
 refine sv hF (v_move rfl) rfl ?_; clear hF a; intro a hF
 refine s_bs (D := FDx) (B := B) hF sl37 rfl rfl (by decide) (by simp [Value.cells]) (by decide) hS.inv rfl ?_; clear hF a; intro w' a hm hI' h1 hF
 replace hf := hf.mb hm
 replace hX := (hX.mb hm (fun _ h => by cases h)).mono hm.size
 replace hS := hS.mb0 hm
 clear hm hI'
 refine s_bs (D := FDx) (B := B) hF sl37 rfl rfl (by decide) (by simp [Value.cells]) (by decide) hS.inv rfl ?_; clear hF a; intro w' a hm hI' h2 hF
 replace hf := hf.mb hm
 replace hX := (hX.mb hm (fun _ h => by cases h)).mono hm.size
 replace h1 := h1.mb hm (fun _ _ => by simp)
 replace hS := hS.mb0 hm
 clear hm hI'
 refine sc hF rfl rfl rfl en24 rfl (Of_ok B _ 8 285 prm_285 fv _ _ 1 2 [0] [1, 2] _ hS.inv (Nat.le_refl _) hf ((h1.cast (ys := zints [0]) rfl).row (by decide)) ((h2.cast (ys := zints [1, 2]) rfl).row (by decide)) (by decide)) ?_; clear hF a; intro v w' a hv hF
 obtain ⟨obY, uY, rfl, hoY, hS'⟩ := hv
 rw [aw8_of] at hoY hF
 try simp only [Option.getD_some, Option.getD_none] at hoY
 obtain ⟨sY, cY, rfl, hY⟩ := hoY.mat (by decide) (Nat.zero_le _)
 clear hoY
 replace hf := hf.st hS'
 replace hX := (hX.st hS').mono hS'.ext.size
 replace hS := hS.trans hS'
 clear hS'
 refine sv5 hF (v_move rfl) (v_ext rfl rfl) (v_ext rfl rfl) (v_assign rfl) (v_assign rfl) rfl rfl rfl rfl rfl ?_; clear hF a; intro a hF
 refine WL_nil (hK _ _ ?_)
 clear hK K
 replace hF := hF.sub _ (c_ 7 rfl (c_ 6 rfl (c_ 5 rfl (c_ 4 rfl (c_ 1 rfl (c_ 0 rfl (n_)))))))
 refine W_sr rfl (fun K hK => ?_)
 refine sv hF (v_move rfl) rfl ?_; clear hF a; intro a hF
 refine s_bs (D := FDx) (B := B) hF sl37 rfl rfl (by decide) (by simp [Value.cells]) (by decide) hS.inv rfl ?_; clear hF a; intro w' a hm hI' h1 hF
 replace hf := hf.mb hm
 replace hX := (hX.mb hm (fun _ h => by cases h)).mono hm.size
 replace hY := (hY.mb hm (fun _ h => by cases h)).mono hm.size
 replace hS := hS.mb0 hm
 clear hm hI'
 refine s_bs (D := FDx) (B := B) hF sl37 rfl rfl (by decide) (by simp [Value.cells]) (by decide) hS.inv rfl ?_; clear hF a; intro w' a hm hI' h2 hF
 replace hf := hf.mb hm
 replace hX := (hX.mb hm (fun _ h => by cases h)).mono hm.size
 replace hY := (hY.mb hm (fun _ h => by cases h)).mono hm.size
 replace h1 := h1.mb hm (fun _ _ => by simp)
 replace hS := hS.mb0 hm
 clear hm hI'
 refine s_bs (D := FDx) (B := B) hF sl28 rfl rfl (by decide) (by simp [Value.cells]) (by decide) hS.inv rfl ?_; clear hF a; intro w' a hm hI' h3 hF
 replace hf := hf.mb hm
 replace hX := (hX.mb hm (fun _ h => by cases h)).mono hm.size
 replace hY := (hY.mb hm (fun _ h => by cases h)).mono hm.size
 replace h1 := h1.mb hm (fun _ _ => by simp)
 replace h2 := h2.mb hm (fun _ _ => by simp)
 replace hS := hS.mb0 hm
 clear hm hI'
 refine sc hF rfl rfl rfl en26 rfl (Safe_ok B _ 8 285 prm_285 fv _ _ [[1, 1], [1, 1]] _ hS.inv (Nat.le_refl _) hf (Mat.two h3 (by decide) ((h1.cast (ys := zints [1, 1]) rfl).row (by decide)) ((h2.cast (ys := zints [1, 1]) rfl).row (by decide))) (aw5_len _ _ _ _).1 (aw5_len _ _ _ _).2) ?_; clear hF a; intro v w' a hv hF
 obtain ⟨rfl, hS'⟩ := hv
 rw [aw8_no] at hF
 dsimp only at hF
 replace hf := hf.st hS'
 replace hX := (hX.st hS').mono hS'.ext.size
 replace hY := (hY.st hS').mono hS'.ext.size
 replace hS := hS.trans hS'
 clear hS'
 refine sv hF (v_move rfl) rfl ?_; clear hF a; intro a hF
 refine sv hF ((v_ext rfl rfl).as (congrArg Value.bool (rfl))) rfl ?_; clear hF a; intro a hF
 refine sv3 hF (v_ext rfl rfl) (v_assign rfl) (v_assign rfl) rfl rfl rfl ?_; clear hF a; intro a hF
 refine WL_nil (hK _ _ ?_)
 clear hK K
 replace hF := hF.sub _ (c_ 9 rfl (c_ 8 rfl (c_ 7 rfl (c_ 6 rfl (c_ 5 rfl (c_ 4 rfl (c_ 1 rfl (c_ 0 rfl (n_)))))))))
 refine W_sr rfl (fun K hK => ?_)
 refine sv hF (v_move rfl) rfl ?_; clear hF a; intro a hF
 refine s_bs (D := FDx) (B := B) hF sl37 rfl rfl (by decide) (by simp [Value.cells]) (by decide) hS.inv rfl ?_; clear hF a; intro w' a hm hI' h1 hF
 replace hf := hf.mb hm
 replace hX := (hX.mb hm (fun _ h => by cases h)).mono hm.size
 replace hY := (hY.mb hm (fun _ h => by cases h)).mono hm.size
 replace hS := hS.mb0 hm
 clear hm hI'
 refine s_bs (D := FDx) (B := B) hF sl37 rfl rfl (by decide) (by simp [Value.cells]) (by decide) hS.inv rfl ?_; clear hF a; intro w' a hm hI' h2 hF
 replace hf := hf.mb hm
 replace hX := (hX.mb hm (fun _ h => by cases h)).mono hm.size
 replace hY := (hY.mb hm (fun _ h => by cases h)).mono hm.size
 replace h1 := h1.mb hm (fun _ _ => by simp)
 replace hS := hS.mb0 hm
 clear hm hI'
 refine s_bs (D := FDx) (B := B) hF sl28 rfl rfl (by decide) (by simp [Value.cells]) (by decide) hS.inv rfl ?_; clear hF a; intro w' a hm hI' h3 hF
 replace hf := hf.mb hm
 replace hX := (hX.mb hm (fun _ h => by cases h)).mono hm.size
 replace hY := (hY.mb hm (fun _ h => by cases h)).mono hm.size
 replace h1 := h1.mb hm (fun _ _ => by simp)
 replace h2 := h2.mb hm (fun _ _ => by simp)
 replace hS := hS.mb0 hm
 clear hm hI'
 refine sc hF rfl rfl rfl en26 rfl (Safe_ok B _ 8 285 prm_285 fv _ _ [[1, 1], [1, 2]] _ hS.inv (Nat.le_refl _) hf (Mat.two h3 (by decide) ((h1.cast (ys := zints [1, 1]) rfl).row (by decide)) ((h2.cast (ys := zints [1, 2]) rfl).row (by decide))) (aw5_len _ _ _ _).1 (aw5_len _ _ _ _).2) ?_; clear hF a; intro v w' a hv hF
 obtain ⟨rfl, hS'⟩ := hv
 rw [aw8_yes] at hF
 dsimp only at hF
 replace hX := (hX.st hS').mono hS'.ext.size
 replace hY := (hY.st hS').mono hS'.ext.size
 replace hS := hS.trans hS'
 clear hS'
 refine sv hF (v_move rfl) rfl ?_; clear hF a; intro a hF
 refine sv hF ((v_ext rfl rfl).as (congrArg Value.bool (rfl))) rfl ?_; clear hF a; intro a hF
 refine sv3 hF (v_ext rfl rfl) (v_assign rfl) (v_assign rfl) rfl rfl rfl ?_; clear hF a; intro a hF
 refine WL_nil (hK _ _ ?_)
 clear hK K
 replace hF := hF.sub _ (c_ 11 rfl (c_ 10 rfl (c_ 9 rfl (c_ 8 rfl (c_ 7 rfl (c_ 6 rfl (c_ 5 rfl (c_ 4 rfl (c_ 0 rfl (n_))))))))))
 refine W_sr rfl (fun K hK => ?_)
 refine sv hF (v_move rfl) rfl ?_; clear hF a; intro a hF
 refine sv hF ((v_eql rfl rfl).as (congrArg Value.bool (decide_eq_true (rfl)))) rfl ?_; clear hF a; intro a hF
 refine sv hF (v_move rfl) rfl ?_; clear hF a; intro a hF
 refine svg hF rfl ?_
 refine sv hF (v_move rfl) rfl ?_; clear hF a; intro a hF
 refine svg hF rfl ?_
 refine sv hF ((v_eql rfl rfl).as (congrArg Value.bool (decide_eq_true (rfl)))) rfl ?_; clear hF a; intro a hF
 refine sv2 hF (v_pickT rfl rfl) (v_move rfl) rfl rfl ?_; clear hF a; intro a hF
 refine svg hF rfl ?_
 refine sv hF (v_move rfl) rfl ?_; clear hF a; intro a hF
 refine svg hF rfl ?_
 refine s_bs (D := FDx) (B := B) hF sl37 rfl rfl (by decide) (by simp [Value.cells]) (by decide) hS.inv rfl ?_; clear hF a; intro w' a hm hI' h1 hF
 replace hX := (hX.mb hm (fun _ h => by cases h)).mono hm.size
 replace hY := (hY.mb hm (fun _ h => by cases h)).mono hm.size
 replace hS := hS.mb0 hm
 clear hm hI'
 refine svg hF rfl ?_
 refine s_bs (D := FDx) (B := B) hF sl27 rfl rfl (by decide) (by simp [Value.cells]) (by decide) hS.inv rfl ?_; clear hF a; intro w' a hm hI' h2 hF
 replace hX := (hX.mb hm (fun _ h => by cases h)).mono hm.size
 replace hY := (hY.mb hm (fun _ h => by cases h)).mono hm.size
 replace h1 := h1.mb hm (fun _ _ => by simp)
 replace hS := hS.mb0 hm
 clear hm hI'
 refine svg hF rfl ?_
 refine sc hF rfl rfl rfl en21 rfl (Same4_t B _ _ _ [[1]] _ _ [[1]] _ hS.inv hX (Mat.one h2 (by decide) ((h1.cast (ys := zints [1]) rfl).row (by decide))) (by decide) (by intro r hr; simp at hr; subst hr; decide) rfl) ?_; clear hF a; intro v w' a hv hF
 obtain ⟨rfl, hS'⟩ := hv
 replace hY := (hY.st hS').mono hS'.ext.size
 replace hS := hS.trans hS'
 clear hS'
 refine sv2 hF (v_pickT rfl rfl) (v_move rfl) rfl rfl ?_; clear hF a; intro a hF
 refine svg hF rfl ?_
 refine sv hF (v_move rfl) rfl ?_; clear hF a; intro a hF
 refine svg hF rfl ?_
 refine s_bs (D := FDx) (B := B) hF sl37 rfl rfl (by decide) (by simp [Value.cells]) (by decide) hS.inv rfl ?_; clear hF a; intro w' a hm hI' h1 hF
 replace hY := (hY.mb hm (fun _ h => by cases h)).mono hm.size
 replace hS := hS.mb0 hm
 clear hm hI'
 refine svg hF rfl ?_
 refine s_bs (D := FDx) (B := B) hF sl27 rfl rfl (by decide) (by simp [Value.cells]) (by decide) hS.inv rfl ?_; clear hF a; intro w' a hm hI' h2 hF
 replace hY := (hY.mb hm (fun _ h => by cases h)).mono hm.size
 replace h1 := h1.mb hm (fun _ _ => by simp)
 replace hS := hS.mb0 hm
 clear hm hI'
 refine svg hF rfl ?_
 refine sc hF rfl rfl rfl en21 rfl (Same4_t B _ _ _ [[1, 142]] _ _ [[1, 142]] _ hS.inv hY (Mat.one h2 (by decide) ((h1.cast (ys := zints [1, 142]) rfl).row (by decide))) (by decide) (by intro r hr; simp at hr; subst hr; decide) rfl) ?_; clear hF a; intro v w' a hv hF
 obtain ⟨rfl, hS'⟩ := hv
 replace hS := hS.trans hS'
 clear hS'
 refine sv2 hF (v_pickT rfl rfl) (v_move rfl) rfl rfl ?_; clear hF a; intro a hF
 refine svg hF rfl ?_
 refine sv hF (v_move rfl) rfl ?_; clear hF a; intro a hF
 refine svg hF rfl ?_
 refine sv hF (v_not rfl) rfl ?_; clear hF a; intro a hF
 refine sv2 hF (v_pickT rfl rfl) (v_move rfl) rfl rfl ?_; clear hF a; intro a hF
 refine svg hF rfl ?_
 refine sv hF (v_move rfl) rfl ?_; clear hF a; intro a hF
 refine svg hF rfl ?_
 refine sv hF ((v_eql rfl rfl).as (congrArg Value.bool (decide_eq_true (rfl)))) rfl ?_; clear hF a; intro a hF
 refine sv2 hF (v_pickT rfl rfl) (v_move rfl) rfl rfl ?_; clear hF a; intro a hF
 refine svg hF rfl ?_
 refine sv3 hF (v_move rfl) (v_pickT rfl rfl) (v_move rfl) rfl rfl rfl ?_; clear hF a; intro a hF
 refine svg hF rfl ?_
 refine sv hF (v_move rfl) rfl ?_; clear hF a; intro a hF
 refine svg hF rfl ?_
 refine sv hF ((v_eql rfl rfl).as (congrArg Value.bool (decide_eq_true (rfl)))) rfl ?_; clear hF a; intro a hF
 refine sv2 hF (v_pickT rfl rfl) (v_assign rfl) rfl rfl ?_; clear hF a; intro a hF
 refine WL_nil (hK _ _ ?_)
 clear hK K
 replace hF := hF.sub _ (c_ 0 rfl (n_))
 refine W_ret ?_
 refine ⟨_, _, hF, rfl, ?_⟩
 exact ⟨rfl, hS⟩

end Go.Proofs.Ytaeljbdpjiciaaa

/- The statement CauchySquares, walked: it returns true. -/
set_option linter.unusedVariables false
set_option linter.unusedSimpArgs false
namespace Go.Proofs.Ytaeljbdpjiciaaa
open Go Go.Gam


namespace FxFCauchySquares
theorem en22 : Ent Try.prog 22 := ent Try.func22 (by kernel_rfl) (by kernel_rfl)
theorem en23 : Ent Try.prog 23 := ent Try.func23 (by kernel_rfl) (by kernel_rfl)
theorem en26 : Ent Try.prog 26 := ent Try.func26 (by kernel_rfl) (by kernel_rfl)
theorem en27 : Ent Try.prog 27 := ent Try.func27 (by kernel_rfl) (by kernel_rfl)
theorem en28 : Ent Try.prog 28 := ent Try.func28 (by kernel_rfl) (by kernel_rfl)
theorem sc3 : Scalar Try.prog 3 := ⟨_, Try.underlying3, by simp, by simp⟩
theorem sc37 : Scalar Try.prog 37 := ⟨_, Try.underlying37, by simp, by simp⟩
theorem sl27 : Sl Try.prog 27 37 (.slice none 0 0) 24 := sl_of Try.underlying27 rfl (by kernel_rfl)
theorem sl37 : Sl Try.prog 37 3 (.int .i64 0) 8 := sl_of Try.underlying37 rfl (by kernel_rfl)
end FxFCauchySquares
open FxFCauchySquares

set_option maxRecDepth 100000 in
set_option maxHeartbeats 1000000 in
theorem CauchySquares_ok (B M : Nat) (lg : Bool) (pma : Option Addr) (cma : Nat) (ma : Mtx) (w : World) (hI : Inv FDx B w) (hM : M ≤ w.heap.size) (hAma : Mat FDx B M w pma cma ma) (hlma : ma.length ≤ maxLen) (hbma : ∀ r ∈ ma, r.length ≤ maxLen) : Ret Try.prog 7 [.bool lg, .slice pma ma.length cma] w fun v w' => v = .bool true ∧ St FDx B w w' := by
 refine enter 91 [(0, .bool lg), (1, .slice pma ma.length cma)] 4 Try.func7 rfl rfl rfl rfl rfl ?_; intro a hF
 have hS := St.refl hI
 have hl2 := hlma
 simp only [maxLen] at hl2
 refine W_sr rfl (fun K hK => ?_)
 refine sv hF (v_assign rfl) rfl ?_; clear hF a; intro a hF
 refine WL_nil (hK _ _ ?_)
 clear hK K
 refine W_sr rfl (fun K hK => ?_)
 refine sc hF rfl rfl rfl en22 rfl (aw08_ok B _ hS.inv) ?_; clear hF a; intro v w' a hv hF
 obtain ⟨rfl, hS'⟩ := hv
 replace hAma := hAma.st hS'
 replace hS := hS.trans hS'
 clear hS'
 refine sv hF (v_assign rfl) rfl ?_; clear hF a; intro a hF
 refine WL_nil (hK _ _ ?_)
 clear hK K
 replace hF := hF.sub _ (c_ 5 rfl (c_ 4 rfl (c_ 0 rfl (c_ 1 rfl (n_)))))
 refine W_seq ?_
 refine W_sr rfl (fun K hK => ?_)
 refine sv hF (v_move rfl) rfl ?_; clear hF a; intro a hF
 refine sc hF rfl rfl rfl en27 rfl (Few04_ok B _ _ _ ma _ hAma hlma hbma) ?_; clear hF a; intro v w' a hv hF
 obtain ⟨rfl, hw⟩ := hv
 obtain rfl := hw.symm
 have hS' := St.refl hS.inv
 replace hAma := hAma.st hS'
 replace hS := hS.trans hS'
 clear hS'
 refine sv hF (v_not rfl) rfl ?_; clear hF a; intro a hF
 refine WL_nil (hK _ _ ?_)
 clear hK K
 replace hF := hF.sub _ (c_ 18 rfl (c_ 5 rfl (c_ 4 rfl (c_ 0 rfl (c_ 1 rfl (n_))))))
 refine W_if hF rfl (fun hc1 => ?_) (fun hc1 => ?_)
 ·
  skip
  try simp only [dcl] at hc1
  refine W_sr rfl (fun K hK => ?_)
  refine sv2 hF (v_move rfl) (v_assign rfl) rfl rfl ?_; clear hF a; intro a hF
  refine WL_nil (hK _ _ ?_)
  clear hK K
  replace hF := hF.sub _ (c_ 4 rfl (c_ 5 rfl (c_ 0 rfl (c_ 1 rfl (n_)))))
  refine W_ret ?_
  refine ⟨_, _, hF, rfl, ?_⟩
  exact ⟨rfl, hS⟩
 ·
  skip
  try simp only [dcl] at hc1
  refine W_skip ?_
  refine W_sr rfl (fun K hK => ?_)
  refine sv hF (v_move rfl) rfl ?_; clear hF a; intro a hF
  refine sc hF rfl rfl rfl en23 rfl (field8_ok B lg _ hS.inv) ?_; clear hF a; intro v w' a hv hF
  obtain ⟨fv, rfl, hf, hS'⟩ := hv
  obtain ⟨⟨wb, p⟩, hq⟩ : ∃ q, fq lg = q := ⟨_, rfl⟩
  have hq1 : (fq lg).1 = wb := by rw [hq]
  have hq2 : (fq lg).2 = p := by rw [hq]
  rw [hq] at hf
  rw [hq1, hq2] at hF
  clear hq1 hq2
  have hp : Prm wb p := hf.1
  replace hAma := hAma.st hS'
  replace hS := hS.trans hS'
  clear hS'
  refine sv6 hF (v_move rfl) (v_ext rfl rfl) (v_ext rfl rfl) (v_ext rfl rfl) (v_assign rfl) (v_assign rfl) rfl rfl rfl rfl rfl rfl ?_; clear hF a; intro a hF
  refine sv hF (v_assign rfl) rfl ?_; clear hF a; intro a hF
  refine WL_nil (hK _ _ ?_)
  clear hK K
  replace hF := hF.sub _ (c_ 6 rfl (c_ 5 rfl (c_ 4 rfl (c_ 1 rfl (n_)))))
  refine W_sr rfl (fun K hK => ?_)
  refine sv2 hF (v_move rfl) (v_move rfl) rfl rfl ?_; clear hF a; intro a hF
  refine sc hF rfl rfl rfl en26 rfl (Safe_ok B _ wb p hp fv _ _ ma _ hS.inv (Nat.le_trans hM hS.ext.size) hf hAma hlma hbma) ?_; clear hF a; intro v w' a hv hF
  obtain ⟨rfl, hS'⟩ := hv
  replace hAma := hAma.st hS'
  replace hf := hf.st hS'
  replace hS := hS.trans hS'
  clear hS'
  refine sv5 hF (v_move rfl) (v_ext rfl rfl) (v_ext rfl rfl) (v_assign rfl) (v_assign rfl) rfl rfl rfl rfl rfl ?_; clear hF a; intro a hF
  refine WL_nil (hK _ _ ?_)
  clear hK K
  replace hF := hF.sub _ (c_ 10 rfl (c_ 9 rfl (c_ 6 rfl (c_ 5 rfl (c_ 4 rfl (c_ 1 rfl (n_)))))))
  refine W_seq ?_
  refine W_sr rfl (fun K hK => ?_)
  refine sv hF (v_move rfl) rfl ?_; clear hF a; intro a hF
  refine sb hF (v_neq rfl rfl) rfl ?_ ?_
  ·
   clear hF a; intro hc2 a hF
   try simp only [dcl] at hc2
   refine sv hF (v_move rfl) rfl ?_; clear hF a; intro a hF
   refine svn hF rfl rfl rfl ?_; clear hF a; intro a hF
   refine svn hF rfl rfl rfl ?_; clear hF a; intro a hF
   refine sv hF (v_pickT rfl rfl) rfl ?_; clear hF a; intro a hF
   refine WL_nil (hK _ _ ?_)
   clear hK K
   replace hF := hF.sub _ (c_ 37 rfl (c_ 6 rfl (c_ 5 rfl (c_ 4 rfl (c_ 1 rfl (n_))))))
   refine W_ifT hF rfl ?_
   refine W_sr rfl (fun K hK => ?_)
   refine sv2 hF (v_move rfl) (v_assign rfl) rfl rfl ?_; clear hF a; intro a hF
   refine WL_nil (hK _ _ ?_)
   clear hK K
   replace hF := hF.sub _ (c_ 4 rfl (c_ 6 rfl (c_ 5 rfl (c_ 1 rfl (n_)))))
   refine W_ret ?_
   refine ⟨_, _, hF, rfl, ?_⟩
   exact ⟨rfl, hS⟩
  ·
   clear hF a; intro hc2 a hF
   try simp only [dcl] at hc2
   refine sv hF (v_move rfl) rfl ?_; clear hF a; intro a hF
   refine svg hF rfl ?_
   refine sv hF (v_move rfl) rfl ?_; clear hF a; intro a hF
   refine svg hF rfl ?_
   refine sv hF (v_not rfl) rfl ?_; clear hF a; intro a hF
   refine sv hF (v_pickF rfl rfl) rfl ?_; clear hF a; intro a hF
   refine WL_nil (hK _ _ ?_)
   clear hK K
   replace hF := hF.sub _ (c_ 37 rfl (c_ 6 rfl (c_ 5 rfl (c_ 4 rfl (c_ 1 rfl (n_))))))
   refine W_if hF rfl (fun hc3 => ?_) (fun hc3 => ?_)
   ·
    skip
    try simp only [dcl] at hc3
    refine W_sr rfl (fun K hK => ?_)
    refine sv2 hF (v_move rfl) (v_assign rfl) rfl rfl ?_; clear hF a; intro a hF
    refine WL_nil (hK _ _ ?_)
    clear hK K
    replace hF := hF.sub _ (c_ 4 rfl (c_ 6 rfl (c_ 5 rfl (c_ 1 rfl (n_)))))
    refine W_ret ?_
    refine ⟨_, _, hF, rfl, ?_⟩
    exact ⟨rfl, hS⟩
   ·
    skip
    try simp only [dcl] at hc3
    refine W_skip ?_
    refine W_seq ?_
    have hsf0 : (safeM hp ma).2 = 0 := by first | exact Decidable.of_not_not (by assumption) | assumption
    have hsf1 : (safeM hp ma).1 = true := by first | assumption | simpa using (by assumption : ¬ (safeM hp ma).1 = false)
    obtain ⟨hmay, -, -, -⟩ := safeM_yes hp hsf0 hsf1
    have hMx := mayM_Mx hmay
    obtain ⟨gm, om, rfl⟩ := hAma.at1 (by omega)
    refine W_sr rfl (fun K hK => ?_)
    refine sv hF (v_assign rfl) rfl ?_; clear hF a; intro a hF
    refine WL_nil (hK _ _ ?_)
    clear hK K
    replace hF := hF.sub _ (c_ 11 rfl (c_ 6 rfl (c_ 5 rfl (c_ 4 rfl (c_ 1 rfl (n_))))))
    refine W_block ?_
    refine W_loop (fun q a w1 => ∃ (i : Nat), Fr 91 [(1, .slice (some ⟨gm, om, none⟩) ma.length cma), (5, .bool true), (6, fv), (11, .int .i64 (i : Int))] a ∧ (St FDx B w w1) ∧ (Fo FDx B w1 fv (some (wb, p))) ∧ (Mat FDx B M w1 (some ⟨gm, om, none⟩) cma ma) ∧ (i ≤ ma.length) ∧ (q + i = ma.length)) (ma.length) ?_ ?_
    ·
     skip
     exact ⟨0, hF.sub _ (c_ 1 rfl (c_ 5 rfl (c_ 6 rfl (c_ 11 rfl (n_))))), hS, hf, hAma, by omega, by omega⟩
    ·
     skip
     clear hF
     clear hS hf hAma
     rintro q a w1 ⟨i, hF, hS, hf, hAma, hi, hq⟩
     refine W_seq ?_
     refine W_sr rfl (fun K hK => ?_)
     refine sv2 hF (v_move rfl) (v_move rfl) rfl rfl ?_; clear hF a; intro a hF
     refine sv hF (v_lenS rfl sl27 rfl) rfl ?_; clear hF a; intro a hF
     refine sv hF (v_lss rfl rfl) rfl ?_; clear hF a; intro a hF
     refine WL_nil (hK _ _ ?_)
     clear hK K
     replace hF := hF.sub _ (c_ 42 rfl (c_ 1 rfl (c_ 5 rfl (c_ 6 rfl (c_ 11 rfl (n_))))))
     refine W_if hF rfl (fun hc4 => ?_) (fun hc4 => ?_)
     ·
      skip
      try simp only [dcl] at hc4
      have hlt : i < ma.length := by omega
      refine W_skip ?_
      refine W_seq ?_
      refine W_block ?_
      refine W_sr rfl (fun K hK => ?_)
      refine sv hF (v_assign rfl) rfl ?_; clear hF a; intro a hF
      refine WL_nil (hK _ _ ?_)
      clear hK K
      replace hF := hF.sub _ (c_ 12 rfl (c_ 1 rfl (c_ 5 rfl (c_ 6 rfl (c_ 11 rfl (n_))))))
      refine W_block ?_
      refine W_loop (fun q2 a w2 => ∃ (j : Nat), Fr 91 [(1, .slice (some ⟨gm, om, none⟩) ma.length cma), (5, .bool true), (6, fv), (11, .int .i64 (i : Int)), (12, .int .i64 (j : Int))] a ∧ (St FDx B w w2) ∧ (Fo FDx B w2 fv (some (wb, p))) ∧ (Mat FDx B M w2 (some ⟨gm, om, none⟩) cma ma) ∧ (j ≤ wid ma) ∧ (q2 + j = wid ma)) (wid ma) ?_ ?_
      ·
       skip
       exact ⟨0, hF.sub _ (c_ 1 rfl (c_ 5 rfl (c_ 6 rfl (c_ 11 rfl (c_ 12 rfl (n_)))))), hS, hf, hAma, by omega, by omega⟩
      ·
       skip
       clear hF
       clear hS hf hAma
       rintro q2 a w2 ⟨j, hF, hS, hf, hAma, hj, hq2⟩
       refine W_seq ?_
       obtain ⟨r, hr⟩ : ∃ z, ma[i]? = some z := ⟨_, List.getElem?_eq_getElem hlt⟩
       obtain ⟨pr, cr, hkr, hrow, -⟩ := hAma.row2 hr
       have hrl := (hMx.1.2 r (List.mem_of_getElem? hr)).1
       rw [hrl] at hkr
       refine W_sr rfl (fun K hK => ?_)
       refine sv3 hF (v_move rfl) (v_move rfl) (v_move rfl) rfl rfl rfl ?_; clear hF a; intro a hF
       refine sv hF (v_ixS sl27 rfl rfl (by omega) (by omega)) rfl ?_; clear hF a; intro a hF
       refine sv hF (v_load sc37 rfl (by rw [toNat_c]; exact hkr.c)) rfl ?_; clear hF a; intro a hF
       refine sv hF (v_lenS rfl sl37 rfl) rfl ?_; clear hF a; intro a hF
       refine sv hF (v_lss rfl rfl) rfl ?_; clear hF a; intro a hF
       refine WL_nil (hK _ _ ?_)
       clear hK K
       replace hF := hF.sub _ (c_ 51 rfl (c_ 1 rfl (c_ 5 rfl (c_ 6 rfl (c_ 11 rfl (c_ 12 rfl (n_)))))))
       refine W_if hF rfl (fun hc5 => ?_) (fun hc5 => ?_)
       ·
        skip
        try simp only [dcl] at hc5
        obtain ⟨z, hz⟩ : ∃ z, r[j]? = some z := ⟨_, List.getElem?_eq_getElem (by omega)⟩
        have hzc := (safe_cell hp hsf0 hsf1 hr hz).2
        obtain ⟨gz, oz, hgz, hkz, -⟩ := hrow.kat (zints_at hz)
        subst hgz
        refine W_skip ?_
        refine W_seq ?_
        refine W_block ?_
        refine W_sr rfl (fun K hK => ?_)
        refine sv2 hF (v_move rfl) (v_move rfl) rfl rfl ?_; clear hF a; intro a hF
        refine sv hF (v_ixS sl27 rfl rfl (by omega) (by omega)) rfl ?_; clear hF a; intro a hF
        refine sv hF (v_load sc37 rfl (by rw [toNat_c]; exact hkr.c)) rfl ?_; clear hF a; intro a hF
        refine sv hF (v_move rfl) rfl ?_; clear hF a; intro a hF
        refine sv hF (v_ixS sl37 rfl rfl (by omega) (by omega)) rfl ?_; clear hF a; intro a hF
        refine sv hF (v_load sc3 rfl (by rw [toNat_c]; exact hkz.c)) rfl ?_; clear hF a; intro a hF
        refine sv hF ((v_eql rfl rfl).as (congrArg Value.bool (decide_eq_false (hzc)))) rfl ?_; clear hF a; intro a hF
        refine WL_nil (hK _ _ ?_)
        clear hK K
        replace hF := hF.sub _ (c_ 61 rfl (c_ 1 rfl (c_ 5 rfl (c_ 6 rfl (c_ 11 rfl (c_ 12 rfl (n_)))))))
        refine W_ifF hF rfl ?_
        refine W_skip ?_
        refine W_reg rfl (fun K hK => ?_)
        refine sv hF (v_move rfl) rfl ?_; clear hF a; intro a hF
        refine sv hF (v_addI rfl rfl (by omega)) rfl ?_; clear hF a; intro a hF
        refine sv hF (v_assign rfl) rfl ?_; clear hF a; intro a hF
        refine WL_nil (hK _ _ ?_)
        clear hK K
        replace hF := hF.sub _ (c_ 12 rfl (c_ 53 rfl (c_ 52 rfl (c_ 1 rfl (c_ 5 rfl (c_ 6 rfl (c_ 11 rfl (n_))))))))
        exact ⟨q2 - 1, by omega, j + 1, hF.sub _ (c_ 1 rfl (c_ 5 rfl (c_ 6 rfl (c_ 11 rfl (c_ 12 rfl (n_)))))), hS, hf, hAma, by omega, by omega⟩
       ·
        skip
        try simp only [dcl] at hc5
        refine W_exit rfl ?_
        refine W_reg rfl (fun K hK => ?_)
        refine sv hF (v_move rfl) rfl ?_; clear hF a; intro a hF
        refine sv hF (v_addI rfl rfl (by omega)) rfl ?_; clear hF a; intro a hF
        refine sv hF (v_assign rfl) rfl ?_; clear hF a; intro a hF
        refine WL_nil (hK _ _ ?_)
        clear hK K
        replace hF := hF.sub _ (c_ 11 rfl (c_ 44 rfl (c_ 43 rfl (c_ 1 rfl (c_ 5 rfl (c_ 6 rfl (c_ 12 rfl (n_))))))))
        exact ⟨q - 1, by omega, i + 1, hF.sub _ (c_ 1 rfl (c_ 5 rfl (c_ 6 rfl (c_ 11 rfl (n_))))), hS, hf, hAma, by omega, by omega⟩
     ·
      skip
      try simp only [dcl] at hc4
      refine W_exit rfl ?_
      refine W_seq ?_
      obtain ⟨r0, h0⟩ : ∃ r, ma[0]? = some r := ⟨_, List.getElem?_eq_getElem (by omega)⟩
      obtain ⟨p0, c0, hk0, hrow0, -⟩ := hAma.row2 h0
      have hw0 := wid_at h0
      clear hrow0
      refine W_sr rfl (fun K hK => ?_)
      refine sv hF (v_move rfl) rfl ?_; clear hF a; intro a hF
      refine sv hF (v_lenS rfl sl27 rfl) rfl ?_; clear hF a; intro a hF
      refine sv hF ((v_eql rfl rfl).as (congrArg Value.bool (decide_eq_false (by omega)))) rfl ?_; clear hF a; intro a hF
      refine sv hF (v_move rfl) rfl ?_; clear hF a; intro a hF
      refine svg hF rfl ?_
      refine sv hF (v_move rfl) rfl ?_; clear hF a; intro a hF
      refine svg hF rfl ?_
      refine sv hF (v_lenS rfl sl27 rfl) rfl ?_; clear hF a; intro a hF
      refine svg hF rfl ?_
      refine sv hF (v_move rfl) rfl ?_; clear hF a; intro a hF
      refine svg hF rfl ?_
      refine sv hF (v_ixS sl27 rfl rfl (by decide) (by omega)) rfl ?_; clear hF a; intro a hF
      refine svg hF rfl ?_
      refine sv hF (v_load sc37 rfl hk0.c) rfl ?_; clear hF a; intro a hF
      refine svg hF rfl ?_
      refine sv hF (v_lenS rfl sl37 rfl) rfl ?_; clear hF a; intro a hF
      refine svg hF rfl ?_
      refine sv hF (v_neq rfl rfl) rfl ?_; clear hF a; intro a hF
      refine sv hF (v_pickF rfl rfl) rfl ?_; clear hF a; intro a hF
      refine WL_nil (hK _ _ ?_)
      clear hK K
      replace hF := hF.sub _ (c_ 73 rfl (c_ 72 rfl (c_ 71 rfl (c_ 70 rfl (c_ 69 rfl (c_ 68 rfl (c_ 67 rfl (c_ 66 rfl (c_ 65 rfl (c_ 64 rfl (c_ 63 rfl (c_ 62 rfl (c_ 1 rfl (c_ 5 rfl (c_ 6 rfl (c_ 11 rfl (n_)))))))))))))))))
      refine W_if hF rfl (fun hc6 => ?_) (fun hc6 => ?_)
      ·
       skip
       try simp only [dcl] at hc6
       refine W_sr rfl (fun K hK => ?_)
       refine sv2 hF (v_move rfl) (v_move rfl) rfl rfl ?_; clear hF a; intro a hF
       refine svg hF rfl ?_
       refine sv hF (v_move rfl) rfl ?_; clear hF a; intro a hF
       refine svg hF rfl ?_
       refine sv hF (v_lenS rfl sl27 rfl) rfl ?_; clear hF a; intro a hF
       refine svg hF rfl ?_
       refine sv hF ((v_gtr rfl rfl).as (congrArg Value.bool (decide_eq_true (by omega)))) rfl ?_; clear hF a; intro a hF
       refine sv2 hF (v_pickT rfl rfl) (v_assign rfl) rfl rfl ?_; clear hF a; intro a hF
       refine WL_nil (hK _ _ ?_)
       clear hK K
       refine W_ret ?_
       refine ⟨_, _, hF, rfl, ?_⟩
       exact ⟨rfl, hS⟩
      ·
       skip
       try simp only [dcl] at hc6
       refine W_skip ?_
       clear hk0
       have hinv := safe_inv hp hsf0 hsf1 (by omega)
       refine W_sr rfl (fun K hK => ?_)
       refine sv2 hF (v_move rfl) (v_move rfl) rfl rfl ?_; clear hF a; intro a hF
       refine sc hF rfl rfl rfl en28 rfl (Inverse_ok B _ wb p hp fv _ _ ma _ hS.inv (Nat.le_trans hM hS.ext.size) hf hAma hlma hbma) ?_; clear hF a; intro v w' a hv hF
       obtain ⟨obX, uX, rfl, hoX, hS'⟩ := hv
       obtain ⟨sX, cX, rfl, hX⟩ := hoX.mat (by decide) (Nat.zero_le _)
       clear hoX
       replace hf := hf.st hS'
       replace hAma := hAma.st hS'
       replace hS := hS.trans hS'
       clear hS'
       refine sv5 hF (v_move rfl) (v_ext rfl rfl) (v_ext rfl rfl) (v_assign rfl) (v_assign rfl) rfl rfl rfl rfl rfl ?_; clear hF a; intro a hF
       refine WL_nil (hK _ _ ?_)
       clear hK K
       replace hF := hF.sub _ (c_ 14 rfl (c_ 85 rfl (c_ 84 rfl (c_ 80 rfl (c_ 83 rfl (c_ 82 rfl (c_ 81 rfl (c_ 73 rfl (c_ 72 rfl (c_ 71 rfl (c_ 70 rfl (c_ 69 rfl (c_ 68 rfl (c_ 67 rfl (c_ 66 rfl (c_ 65 rfl (c_ 64 rfl (c_ 63 rfl (c_ 62 rfl (c_ 1 rfl (c_ 5 rfl (c_ 6 rfl (c_ 11 rfl (n_))))))))))))))))))))))))
       refine W_sr rfl (fun K hK => ?_)
       refine sv2 hF (v_move rfl) (v_move rfl) rfl rfl ?_; clear hF a; intro a hF
       refine svg hF rfl ?_
       refine sv hF (v_move rfl) rfl ?_; clear hF a; intro a hF
       refine svg hF rfl ?_
       refine sv hF ((v_eql rfl rfl).as (congrArg Value.bool (decide_eq_true (hinv)))) rfl ?_; clear hF a; intro a hF
       refine sv2 hF (v_pickT rfl rfl) (v_assign rfl) rfl rfl ?_; clear hF a; intro a hF
       refine WL_nil (hK _ _ ?_)
       clear hK K
       refine W_ret ?_
       refine ⟨_, _, hF, rfl, ?_⟩
       exact ⟨rfl, hS⟩

end Go.Proofs.Ytaeljbdpjiciaaa
