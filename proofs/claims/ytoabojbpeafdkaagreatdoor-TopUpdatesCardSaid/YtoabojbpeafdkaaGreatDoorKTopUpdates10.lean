/- Texts of the claim TopUpdates (part 10), put together in the order of their imports. -/
import Derived.Test.YtoabojbpeafdkaaGreatDoorKTopUpdates4
import Derived.Test.YtoabojbpeafdkaaGreatDoorKTopUpdates5
import Derived.Test.YtoabojbpeafdkaaGreatDoorKTopUpdates6
import Derived.Test.YtoabojbpeafdkaaGreatDoorKTopUpdates9
set_option linter.all false
set_option maxRecDepth 100000
set_option maxHeartbeats 1000000
/- The walks of package codec. -/
namespace Go.Proofs.YtoabojbpeafdkaaGreatDoor
open Go Go.Gam
namespace FxFCod
theorem en59 : Ent Tryz.prog 59 := ent Tryz.func59 (by kernel_rfl) (by kernel_rfl)
theorem en60 : Ent Tryz.prog 60 := ent Tryz.func60 (by kernel_rfl) (by kernel_rfl)
theorem en78 : Ent Tryz.prog 78 := ent Tryz.func78 (by kernel_rfl) (by kernel_rfl)
theorem en133 : Ent Tryz.prog 133 := ent Tryz.func133 (by kernel_rfl) (by kernel_rfl)
theorem fa30_0 : FieldFact Tryz.prog 30 0 0 := ff_of (sz := 0) Tryz.underlying30 (by kernel_rfl)
theorem fa30_1 : FieldFact Tryz.prog 30 1 1 := ff_of (sz := 0) Tryz.underlying30 (by kernel_rfl)
theorem on138 : Gam.One Tryz.prog 138 := by unfold Gam.One; kernel_rfl
theorem sc138 : Scalar Tryz.prog 138 := ⟨_, Tryz.underlying138, by simp, by simp⟩
theorem sc3 : Scalar Tryz.prog 3 := ⟨_, Tryz.underlying3, by simp, by simp⟩
theorem sc48 : Scalar Tryz.prog 48 := ⟨_, Tryz.underlying48, by simp, by simp⟩
theorem sc49 : Scalar Tryz.prog 49 := ⟨_, Tryz.underlying49, by simp, by simp⟩
theorem sl134 : Sl Tryz.prog 134 49 (.slice none 0 0) 24 := sl_of Tryz.underlying134 rfl (by kernel_rfl)
theorem sl48 : Sl Tryz.prog 48 23 (.slice none 0 0) 24 := sl_of Tryz.underlying48 rfl (by kernel_rfl)
theorem zv138 : Zv Tryz.prog 138 (.pointer none) := zv_of rfl (by kernel_rfl)
end FxFCod
open FxFCod
def ParC (PT : Nat → Nat → Nat → Mtx) : Prop := ∀ (B p k m : Nat) (w : World), Inv FDx B w → 9 ≤ B → 1 ≤ p ∧ p ≤ 6 → 1 ≤ k ∧ k ≤ 8 → 1 ≤ m ∧ m ≤ maxN p → Ret Tryz.prog 78 [.agg #[.int .i64 (p : Int), .int .i64 (k : Int), .int .i64 (m : Int)]] w fun v w' => ∃ sa cap, v = .tuple #[.slice sa m cap, .int .i64 0] ∧ Mat FDx B w'.heap.size w' sa cap (PT p k m) ∧ St FDx B w w'
def FldC : Prop := ∀ (B p : Nat) (w : World), Inv FDx B w → 9 ≤ B → 1 ≤ p ∧ p ≤ 6 → Ret Tryz.prog 60 [.int .i64 (p : Int)] w fun v w' => Fo FDx B w' v (some (fldN p)) ∧ St FDx B w w'
theorem Par1_ok (B M gf gd : Nat) (o : Fq) (fv : Value) (s1 s2 : Option Addr) (c1 c2 : Nat) (cs : List Int) (vals : List Value) (bss : List (List Nat)) (w : World) (hI : Inv FDx B w) (hf : Fo FDx B w fv o) (hkf : KC FDx B w ⟨gf, 0, none⟩ fv) (hkd : KC FDx B w ⟨gd, 0, none⟩ (.slice s2 vals.length c2)) (hC : Row FDx B M w (.slice s1 cs.length c1) (zints cs)) (hR : Row FDx B M w (.slice s2 vals.length c2) vals) (hR2 : Rows2 FDx B M w vals bss) (hM : M ≤ w.heap.size) (h8 : ∀ b ∈ bss, ∀ x ∈ b, x < 256) (hlen : bss.length ≤ 1000) (hlen2 : ∀ b ∈ bss, b.length ≤ 10000) : Ret Tryz.prog 133 [.slice s1 cs.length c1, .pointer (some ⟨gf, 0, none⟩), .pointer (some ⟨gd, 0, none⟩)] w fun v w' => ∃ sl ob, v = .tuple #[sl, .int .i64 (errV (rdot o cs bss))] ∧ Gam.Own FDx B w.heap.size w' 5 sl ob (byt ((rdot o cs bss).getD [])) ∧ St FDx B w w' := by
 refine enter2 12 [(0, .slice s1 cs.length c1), (1, .pointer (some ⟨gf, 0, none⟩)), (2, .pointer (some ⟨gd, 0, none⟩))] 4 5 Tryz.func133 rfl rfl rfl rfl rfl ?_; intro a hF
 have hS := St.refl hI
 refine W_sr rfl fun K hK => ?_
 refine sv2w hK hF (v_assign rfl) (v_assign rfl) rfl rfl ?_; clear hF a hK K; intro a hF
 refine W_sr rfl fun K hK => ?_
 refine sv3 hF (v_load sc138 rfl hkf.c) (v_move rfl) (v_load sc48 rfl hkd.c) rfl rfl rfl ?_; clear hF a; intro a hF
 refine sc hF rfl rfl rfl en59 rfl (Dot_reg B M o fv s1 s2 c1 c2 cs vals bss _ hf hS.inv hC hR hR2 hM h8 hlen hlen2) ?_; clear hF a; intro v w' a hv hF
 obtain ⟨sl, ob, rfl, hO, hS'⟩ := hv
 replace hO := hO.le hS.ext.size
 replace hS := hS.trans hS'
 clear hS'
 refine sv4w hK hF (v_ext rfl rfl) (v_ext rfl rfl) (v_assign rfl) (v_assign rfl) rfl rfl rfl rfl ?_; clear hF a hK K; intro a hF
 replace hF := hF.sub _ (c_ 5 rfl (c_ 4 rfl n_))
 refine W_ret ?_
 refine ⟨_, _, _, hF, rfl, rfl, ?_⟩
 exact ⟨_, _, rfl, hO, hS⟩
theorem CPar_ok (B M p k m : Nat) (PT : Nat → Nat → Nat → Mtx) (hPar : ParC PT) (hFld : FldC) (s2 : Option Addr) (c2 : Nat) (vals : List Value) (bss : List (List Nat)) (w : World) (hI : Inv FDx B w) (hB : 9 ≤ B) (hp : 1 ≤ p ∧ p ≤ 6) (hk : 1 ≤ k ∧ k ≤ 8) (hm : 1 ≤ m ∧ m ≤ maxN p) (hR : Row FDx B M w (.slice s2 vals.length c2) vals) (hR2 : Rows2 FDx B M w vals bss) (hM : M ≤ w.heap.size) (h8 : ∀ b ∈ bss, ∀ x ∈ b, x < 256) (hbl : bss.length = k) (hlen2 : ∀ b ∈ bss, b.length ≤ 10000) (hPl : (PT p k m).length = m) (hdot : ∀ r ∈ PT p k m, ∃ y, rdot (some (fldN p)) r bss = some y) : Ret Tryz.prog 76 [.agg #[.int .i64 (p : Int), .int .i64 (k : Int), .int .i64 (m : Int)], .slice s2 vals.length c2] w fun v w' => ∃ sl ob pv, v = .tuple #[sl, .int .i64 0] ∧ Gam.Own FDx B w.heap.size w' 23 sl ob pv ∧ Owns2 FDx B w.heap.size w' 5 pv ((PT p k m).map fun r => (rdot (some (fldN p)) r bss).getD []) ∧ St FDx B w w' := by
 refine enter2 53 [(0, .agg #[.int .i64 (p : Int), .int .i64 (k : Int), .int .i64 (m : Int)]), (1, .slice s2 vals.length c2)] 4 5 Tryz.func76 rfl rfl rfl rfl rfl ?_; intro a hF
 have hS := St.refl hI
 have hvl := hR2.1
 have hm4 : m ≤ 4 := by have := hm.2; unfold maxN at this; split at this <;> omega
 refine W_sr rfl fun K hK => ?_
 refine s_box (D := FDx) (B := B) hF rfl (by decide) hS.inv rfl ?_; clear hF a; intro w' a hm hbx hsz hF
 replace hR := hR.mb hm (fun _ h => by cases h)
 replace hR2 := hR2.mb hm (fun _ h => by cases h)
 replace hS := hS.mb0 hm
 clear hm
 have hlb := heap_lt hbx
 obtain ⟨g3, hg3⟩ : ∃ g, g = w'.heap.size := ⟨_, rfl⟩
 refine s_boxN (D := FDx) (B := B) hF rfl (rfl) (by decide) hS.inv rfl ?_; clear hF a; intro w' a hm hI' hb3 hsz hF
 replace hR := hR.mb hm (fun _ h => by cases h)
 replace hR2 := hR2.mb hm (fun _ h => by cases h)
 replace hbx := hbx.mb hm (by simp)
 replace hS := hS.mb0 hm
 clear hm hI' hsz
 rw [← hg3] at hb3 hF
 have hs3 := hS.ext.size
 have hl3 := heap_lt hb3.blk
 refine sv2w hK hF (v_assign rfl) (v_assign rfl) rfl rfl ?_; clear hF a hK K; intro a hF
 replace hF := hF.sub _ (c_ 5 rfl (c_ 4 rfl (c_ 3 rfl (c_ 2 rfl n_))))
 refine W_sr rfl fun K hK => ?_
 refine sv hF (v_loadN Tryz.underlying30 rfl (by kernel_rfl) rfl hbx) rfl ?_; clear hF a; intro a hF
 refine sc hF rfl rfl rfl en78 rfl (hPar B p k m _ hS.inv hB hp hk hm) ?_; clear hF a; intro v w' a hv hF
 obtain ⟨sa, cap, rfl, hA, hS'⟩ := hv
 obtain ⟨M2, hM2⟩ : ∃ q, q = w'.heap.size := ⟨_, rfl⟩
 rw [← hM2] at hA
 replace hR := hR.st hS'
 replace hR2 := hR2.st hS'
 replace hbx := hbx.st (by decide) hS'
 replace hb3 := hb3.st hS'
 replace hS := hS.trans hS'
 clear hS'
 have hKs : M2 ≤ w'.heap.size := by omega
 have hNK : w.heap.size ≤ M2 := by rw [hM2]; exact hS.ext.size
 clear hM2
 refine sv5w hK hF (v_move rfl) (v_ext rfl rfl) (v_ext rfl rfl) (v_assign rfl) (v_assign rfl) rfl rfl rfl rfl rfl ?_; clear hF a hK K; intro a hF
 replace hF := hF.sub _ (c_ 7 rfl (c_ 6 rfl (c_ 5 rfl (c_ 4 rfl (c_ 3 rfl (c_ 2 rfl n_))))))
 refine W_seq ?_
 refine W_sr rfl fun K hK => ?_
 refine sv3 hF (v_move rfl) ((v_neq rfl rfl).as (congrArg Value.bool (decide_eq_false (fun h => h rfl)))) (v_move rfl) rfl rfl rfl ?_; clear hF a; intro a hF
 refine svg hF rfl ?_
 refine sv hF (v_load sc48 rfl hb3.at) rfl ?_; clear hF a; intro a hF
 refine svg hF rfl ?_
 refine sv hF (v_lenS rfl sl48 rfl) rfl ?_; clear hF a; intro a hF
 refine svg hF rfl ?_
 refine sv hF (v_fieldAddr fa30_1 rfl) rfl ?_; clear hF a; intro a hF
 refine svg hF rfl ?_
 refine sv hF (v_load sc3 rfl (hbx.at 1 rfl)) rfl ?_; clear hF a; intro a hF
 refine svg hF rfl ?_
 refine sv2w hK hF ((v_neq rfl rfl).as (congrArg Value.bool (decide_eq_false (by omega)))) (v_pickF rfl rfl) rfl rfl ?_; clear hF a hK K; intro a hF
 replace hF := hF.sub _ (c_ 28 rfl (c_ 6 rfl (c_ 5 rfl (c_ 4 rfl (c_ 3 rfl (c_ 2 rfl n_))))))
 refine W_ifF hF rfl ?_
 refine W_skip ?_
 refine W_sr rfl fun K hK => ?_
 refine sv2 hF (v_fieldAddr fa30_0 rfl) (v_load sc3 rfl (hbx.at 0 rfl)) rfl rfl ?_; clear hF a; intro a hF
 refine sc hF rfl rfl rfl en60 rfl (hFld B p _ hS.inv hB hp) ?_; clear hF a; intro v w' a hv hF
 obtain ⟨fv, hfv⟩ : ∃ x, x = v := ⟨_, rfl⟩
 subst hfv
 obtain ⟨hf, hS'⟩ := hv
 replace hR := hR.st hS'
 replace hR2 := hR2.st hS'
 replace hbx := hbx.st (by decide) hS'
 replace hb3 := hb3.st hS'
 replace hA := hA.st hS'
 replace hKs := Nat.le_trans hKs hS'.ext.size
 replace hS := hS.trans hS'
 clear hS'
 have hl3b := heap_lt hb3.blk
 have hlbb := heap_lt hbx
 obtain ⟨g8, hg8⟩ : ∃ g, g = w'.heap.size := ⟨_, rfl⟩
 have hK8 : M2 ≤ g8 := by omega
 refine s_alloc (D := FDx) (B := B) hF zv138 (by decide) hS.inv rfl ?_; clear hF a; intro w' a hm hI' hb8 hsz hF
 replace hR := hR.mb hm (fun _ h => by cases h)
 replace hR2 := hR2.mb hm (fun _ h => by cases h)
 replace hbx := hbx.mb hm (by simp)
 replace hb3 := hb3.mb hm (by simp)
 replace hA := hA.mb hm (fun _ h => by cases h)
 replace hKs := Nat.le_trans hKs hm.size
 replace hf := hf.mb hm
 replace hS := hS.mb0 hm
 clear hm hI' hsz
 rw [← hg8] at hb8 hF
 have hs8 := hS.ext.size
 refine s_stb (D := FDx) (B := B) hF on138 rfl rfl (by obtain ⟨k0, rfl, -⟩ := hf.2; rfl) hb8 hS.inv ?_; intro w' hm hI' hbx'
 replace hR := hR.mb hm (fun k h => by cases h; exact Nat.le_trans (by omega) hb8.low)
 replace hR2 := hR2.mb hm (fun k h => by cases h; exact Nat.le_trans (by omega) hb8.low)
 replace hbx := hbx.mb hm (by simp; omega)
 replace hb3 := hb3.mb hm (by simp; omega)
 replace hA := hA.mb hm (fun k h => by cases h; exact Nat.le_trans (by omega) hb8.low)
 replace hKs := Nat.le_trans hKs hm.size
 replace hf := hf.mb hm
 replace hS := hS.mb hm (fun k h => by cases h; omega)
 replace hb8 := hbx'
 clear hm hI' hbx'
 refine wn hK ?_
 clear hK K
 replace hF := hF.sub _ (c_ 8 rfl (c_ 6 rfl (c_ 5 rfl (c_ 4 rfl (c_ 3 rfl n_)))))
 refine W_sr rfl fun K hK => ?_
 refine sv2w hK hF (v_mkf (cs := [.tmp 8, .tmp 3]) (vs := [.pointer (some ⟨g8, 0, none⟩), .pointer (some ⟨g3, 0, none⟩)]) rfl) (v_assign rfl) rfl rfl ?_; clear hF a hK K; intro a hF
 replace hF := hF.sub _ (c_ 9 rfl (c_ 6 rfl (c_ 5 rfl (c_ 4 rfl n_))))
 refine W_sr rfl fun K hK => ?_
 refine svw hK hF (v_assign rfl) rfl ?_; clear hF a hK K; intro a hF
 refine W_seq ?_
 refine W_sr rfl fun K hK => ?_
 refine sv3w hK hF (v_move rfl) (v_lenS rfl sl134 rfl) (v_move rfl) rfl rfl rfl ?_; clear hF a hK K; intro a hF
 replace hF := hF.sub _ (c_ 35 rfl (c_ 34 rfl (c_ 33 rfl (c_ 10 rfl (c_ 9 rfl (c_ 5 rfl (c_ 4 rfl n_)))))))
 refine W_block ?_
 refine W_loop (fun q a w1 => ∃ (i : Nat) (v10 : Value) (b10 : Option Nat) (vs : List Value), Fr 53 [(9, .func (.func 133) ([] : List Value).toArray ([.pointer (some ⟨g8, 0, none⟩), .pointer (some ⟨g3, 0, none⟩)] : List Value).toArray), (10, v10), (33, .slice sa m cap), (34, .int .i64 (m : Int)), (35, .int .i64 (i : Int))] a ∧ (St FDx B w w1) ∧ (Row FDx B M w1 (.slice s2 vals.length c2) vals) ∧ (Rows2 FDx B M w1 vals bss) ∧ (Mat FDx B M2 w1 sa cap (PT p k m)) ∧ (Fo FDx B w1 fv (some (fldN p))) ∧ (Box FDx B g3 w1 g3 48 (.slice s2 vals.length c2)) ∧ (Box FDx B g8 w1 g8 138 fv) ∧ (Gam.Own FDx B M2 w1 23 v10 b10 vs) ∧ (Owns2 FDx B M2 w1 5 vs (((PT p k m).take i).map fun r => (rdot (some (fldN p)) r bss).getD [])) ∧ (M2 ≤ w1.heap.size) ∧ (i ≤ m) ∧ (q + i = m)) (m) ?_ ?_
 · skip
   exact ⟨0, _, none, [], hF.sub _ (c_ 9 rfl (c_ 10 rfl (c_ 33 rfl (c_ 34 rfl (c_ 35 rfl n_))))), hS, hR, hR2, hA, hf, hb3, hb8, Gam.Own.nil _ _ _ _ _, Owns2.nil _ _ _ _ _, hKs, by omega, by omega⟩
 skip
 clear hF
 clear hS hR hR2 hA hf hb3 hb8 hKs
 rintro q a w1 ⟨i, v10, b10, vs, hF, hS, hR, hR2, hA, hf, hb3, hb8, hO, hQ, hKs, hi, hq⟩
 refine W_sr rfl fun K hK => ?_
 refine svw hK hF (v_lss rfl rfl) rfl ?_; clear hF a hK K; intro a hF
 refine W_seq ?_
 refine W_if hF rfl (fun hc1 => ?_) (fun hc1 => ?_)
 ·
  skip
  try simp only [dcl] at hc1
  have hlt : i < m := by omega
  obtain ⟨r, hr⟩ : ∃ z, (PT p k m)[i]? = some z := ⟨_, List.getElem?_eq_getElem (by omega)⟩
  obtain ⟨gx, ox, pr, cr, hgx, hkc, hrow, -⟩ := hA.row hr
  obtain ⟨y, hy⟩ := hdot r (List.mem_of_getElem? hr)
  have hvl2 := hQ.1
  subst hgx
  refine W_skip ?_
  refine W_seq ?_
  refine W_block ?_
  refine W_sr rfl fun K hK => ?_
  refine sv hF (v_ixS sl134 rfl rfl (by omega) (by omega)) rfl ?_; clear hF a; intro a hF
  refine sv hF (v_load sc49 rfl (by rw [toNat_c]; exact hkc.c)) rfl ?_; clear hF a; intro a hF
  refine svw hK hF (v_assign rfl) rfl ?_; clear hF a hK K; intro a hF
  replace hF := hF.sub _ (c_ 12 rfl (c_ 9 rfl (c_ 10 rfl (c_ 33 rfl (c_ 34 rfl (c_ 35 rfl n_))))))
  refine W_sr rfl fun K hK => ?_
  refine sv2 hF (v_move rfl) (v_move rfl) rfl rfl ?_; clear hF a; intro a hF
  refine sc hF rfl rfl rfl en133 rfl (Par1_ok B M2 g8 g3 (some (fldN p)) fv pr s2 cr c2 r vals bss _ hS.inv hf hb8.kc hb3.kc hrow (hR.mono (by omega)) (hR2.mono (by omega)) hKs h8 (by omega) hlen2) ?_; clear hF a; intro v w' a hv hF
  clear hrow hkc
  obtain ⟨sl, ob, rfl, hX, hS'⟩ := hv
  replace hX := hX.le hKs
  rw [hy] at hX hF
  replace hb3 := hb3.st hS'
  replace hb8 := hb8.st hS'
  replace hf := hf.st hS'
  replace hA := hA.st hS'
  replace hR := hR.st hS'
  replace hR2 := hR2.st hS'
  replace hO := hO.st (by decide) hS'
  replace hQ := hQ.st (by decide) hS'
  replace hKs := Nat.le_trans hKs hS'.ext.size
  replace hS := hS.trans hS'
  clear hS'
  refine sv5w hK hF (v_move rfl) (v_ext rfl rfl) (v_ext rfl rfl) (v_assign rfl) (v_assign rfl) rfl rfl rfl rfl rfl ?_; clear hF a hK K; intro a hF
  replace hF := hF.sub _ (c_ 14 rfl (c_ 13 rfl (c_ 9 rfl (c_ 10 rfl (c_ 33 rfl (c_ 34 rfl (c_ 35 rfl n_)))))))
  refine W_seq ?_
  refine W_sr rfl fun K hK => ?_
  refine sv2w hK hF (v_move rfl) ((v_neq rfl rfl).as (congrArg Value.bool (decide_eq_false (fun h => h rfl)))) rfl rfl ?_; clear hF a hK K; intro a hF
  replace hF := hF.sub _ (c_ 46 rfl (c_ 13 rfl (c_ 9 rfl (c_ 10 rfl (c_ 33 rfl (c_ 34 rfl (c_ 35 rfl n_)))))))
  refine W_ifF hF rfl ?_
  refine W_skip ?_
  obtain ⟨ax, cx, rfl⟩ := hX.shape
  refine W_reg rfl fun K hK => ?_
  refine sv2 hF (v_move rfl) (v_move rfl) rfl rfl ?_; clear hF a; intro a hF
  refine s_bs (D := FDx) (B := B) hF sl48 rfl rfl (by decide) (by simp [Value.cells]) (by decide) hS.inv rfl ?_; clear hF a; intro w' a hm hI' hL hF
  replace hb3 := hb3.mb hm (by simp)
  replace hb8 := hb8.mb hm (by simp)
  replace hf := hf.mb hm
  replace hA := hA.mb hm (fun _ h => by cases h)
  replace hR := hR.mb hm (fun _ h => by cases h)
  replace hR2 := hR2.mb hm (fun _ h => by cases h)
  replace hO := hO.mb hm (fun _ _ => by simp)
  replace hQ := hQ.mb0 hm
  replace hKs := Nat.le_trans hKs hm.size
  replace hX := hX.mb hm (fun _ _ => by simp)
  replace hS := hS.mb0 hm
  clear hm hI'
  refine s_app (D := FDx) (B := B) hF rfl sl48 rfl rfl hO (hL.row (by decide)) (by simp [Value.oneCell']) (by simp at hvl2 ⊢; omega) (by simp [maxLen] at hvl2 ⊢; omega) (hKs) (by decide) hS.inv rfl ?_; clear hF a; intro v' b' w' a ho' hm hI' hb' hF
  replace hb3 := hb3.mb hm (hb3.ne_own hO (by decide))
  replace hb8 := hb8.mb hm (hb8.ne_own hO (by decide))
  replace hf := hf.mb hm
  replace hA := hA.mb hm (fun k h => Nat.le_trans (Nat.le_refl _) (hO.lt k h).1)
  replace hR := hR.mb hm (fun k h => Nat.le_trans (by omega) (hO.lt k h).1)
  replace hR2 := hR2.mb hm (fun k h => Nat.le_trans (by omega) (hO.lt k h).1)
  replace hQ := hQ.mb hO (by decide) hm
  replace hKs := Nat.le_trans hKs hm.size
  replace hX := hX.mb hm (hX.ne_type hO (by decide))
  replace hS := hS.mb hm (fun k h => Nat.le_trans (hNK) (hO.lt k h).1)
  replace hO := ho'
  clear hm hI' ho'
  refine svw hK hF (v_assign rfl) rfl ?_; clear hF a hK K; intro a hF
  replace hF := hF.sub _ (c_ 10 rfl (c_ 9 rfl (c_ 33 rfl (c_ 34 rfl (c_ 35 rfl n_)))))
  refine W_reg rfl fun K hK => ?_
  refine sv2w hK hF (v_addI rfl rfl (by omega)) (v_move rfl) rfl rfl ?_; clear hF a hK K; intro a hF
  exact ⟨q - 1, by omega, i + 1, _, _, _, hF.sub _ (c_ 9 rfl (c_ 10 rfl (c_ 33 rfl (c_ 34 rfl (c_ 35 rfl n_))))), hS, hR, hR2, hA, hf, hb3, hb8, hO, by rw [List.take_add_one, hr, List.map_append]; simp only [Option.toList_some, List.map_cons, List.map_nil]; rw [hy]; exact hQ.snoc hX, hKs, by omega, by omega⟩
 skip
 try simp only [dcl] at hc1
 refine W_exit rfl ?_
 refine W_sr rfl fun K hK => ?_
 refine sv3w hK hF (v_move rfl) (v_assign rfl) (v_assign rfl) rfl rfl rfl ?_; clear hF a hK K; intro a hF
 replace hF := hF.sub _ (c_ 5 rfl (c_ 4 rfl (c_ 52 rfl (c_ 9 rfl (c_ 10 rfl (c_ 33 rfl (c_ 34 rfl (c_ 35 rfl n_))))))))
 refine W_ret ?_
 refine ⟨_, _, _, hF, rfl, rfl, ?_⟩
 obtain rfl : m = i := by omega
 rw [List.take_of_length_le (by omega)] at hQ
 exact ⟨_, _, _, rfl, hO.le hNK, hQ.le hNK, hS⟩
end Go.Proofs.YtoabojbpeafdkaaGreatDoor
/- Rows of inverses: any of them, of as many columns, have an inverse. Choices of numbers that rise; rows that are safe. No program in sight. -/
/- Plain laws of layer 8: which rows are safe. No program in sight. -/
/- Plain laws of layer 9: any rows of the identity, with a profile's parity rows behind it. No program in sight. -/
/- The table of profiles; params by three numbers. -/
namespace Go.Proofs.YtoabojbpeafdkaaGreatDoor
open Go Go.Gam
namespace FxFOf
theorem en37 : Ent Tryz.prog 37 := ent Tryz.func37 (by kernel_rfl) (by kernel_rfl)
theorem en106 : Ent Tryz.prog 106 := ent Tryz.func106 (by kernel_rfl) (by kernel_rfl)
theorem en128 : Ent Tryz.prog 128 := ent Tryz.func128 (by kernel_rfl) (by kernel_rfl)
theorem en173 : Ent Tryz.prog 173 := ent Tryz.func173 (by kernel_rfl) (by kernel_rfl)
theorem ar32 : ArrOf Tryz.prog 32 3 := ar_of Tryz.underlying32 (by kernel_rfl)
theorem fa180_1 : FieldFact Tryz.prog 180 1 1 := ff_of (sz := 0) Tryz.underlying180 (by kernel_rfl)
theorem fa180_2 : FieldFact Tryz.prog 180 2 2 := ff_of (sz := 0) Tryz.underlying180 (by kernel_rfl)
theorem fa30_0 : FieldFact Tryz.prog 30 0 0 := ff_of (sz := 0) Tryz.underlying30 (by kernel_rfl)
theorem fa30_2 : FieldFact Tryz.prog 30 2 2 := ff_of (sz := 0) Tryz.underlying30 (by kernel_rfl)
theorem fa95_4 : FieldFact Tryz.prog 95 4 4 := ff_of (sz := 0) Tryz.underlying95 (by kernel_rfl)
theorem on3 : Gam.One Tryz.prog 3 := by unfold Gam.One; kernel_rfl
theorem sc3 : Scalar Tryz.prog 3 := ⟨_, Tryz.underlying3, by simp, by simp⟩
theorem sc5 : Scalar Tryz.prog 5 := ⟨_, Tryz.underlying5, by simp, by simp⟩
theorem sc93 : Scalar Tryz.prog 93 := ⟨_, Tryz.underlying93, by simp, by simp⟩
end FxFOf
open FxFOf
theorem table_ok (B : Nat) (w : World) (hI : Inv FDx B w) : Ret Tryz.prog 173 [] w fun v w' => v = .agg prAll.toArray ∧ St FDx B w w' := by
 refine enterC 8 [] 0 243 Tryz.func173 rfl rfl rfl rfl rfl ?_; intro a hF
 have hS := St.refl hI
 refine W_sr rfl fun K hK => ?_
 refine s_allocN (D := FDx) (B := B) (z := .agg (prz ++ (prz ++ (prz ++ (prz ++ (prz ++ prz))))).toArray) hF (by kernel_rfl) (by decide) hS.inv rfl ?_; clear hF a; intro gT w' a hm hI' hT hF
 replace hS := hS.mb0 hm
 clear hm hI'
 refine wn hK ?_
 clear hK K
 refine W_sr rfl fun K hK => ?_
 refine sv hF (v_build (cs := (prN 0).toArray) rfl (by kernel_rfl)) rfl ?_; clear hF a; intro a hF
 refine sv hF (v_build (cs := (prN 1).toArray) rfl (by kernel_rfl)) rfl ?_; clear hF a; intro a hF
 refine sv hF (v_build (cs := (prN 2).toArray) rfl (by kernel_rfl)) rfl ?_; clear hF a; intro a hF
 refine sv hF (v_build (cs := (prN 3).toArray) rfl (by kernel_rfl)) rfl ?_; clear hF a; intro a hF
 refine sv hF (v_build (cs := (prN 4).toArray) rfl (by kernel_rfl)) rfl ?_; clear hF a; intro a hF
 refine sv hF (v_build (cs := (prN 5).toArray) rfl (by kernel_rfl)) rfl ?_; clear hF a; intro a hF
 refine sv hF (v_build (cs := (prAll).toArray) rfl (by kernel_rfl)) rfl ?_; clear hF a; intro a hF
 refine s_storeN (D := FDx) (B := B) hF (by kernel_rfl) rfl rfl (rfl) (by rfl) hT hS.inv ?_; intro w' hm hI' hrc'
 replace hS := hS.mb hm (fun k h => by cases h; exact hT.low)
 replace hT := hrc'
 clear hm hI' hrc'
 refine wn hK ?_
 clear hK K
 replace hF := hF.sub _ (c_ 0 rfl n_)
 refine W_ret ?_
 refine ⟨_, _, _, hF, rfl, (ld_rec Tryz.underlying243 rfl (by kernel_rfl) hT), ?_⟩
 exact ⟨rfl, hS⟩
theorem POf_ok (B : Nat) (p : Int) (w : World) (hI : Inv FDx B w) : Ret Tryz.prog 106 [.int .i64 p] w fun v w' => v = .tuple #[.agg (prOf p).toArray, .bool (decide (1 ≤ p ∧ p ≤ 6))] ∧ St FDx B w w' := by
 refine enterCT 15 [(0, .int .i64 p)] 2 180 3 Tryz.func106 rfl rfl rfl rfl rfl ?_; intro a hF
 have hS := St.refl hI
 refine W_sr rfl fun K hK => ?_
 refine s_allocN (D := FDx) (B := B) (z := .agg prz.toArray) hF (by kernel_rfl) (by decide) hS.inv rfl ?_; clear hF a; intro gR w' a hm hI' hR hF
 replace hS := hS.mb0 hm
 clear hm hI'
 refine svw hK hF (v_assign rfl) rfl ?_; clear hF a hK K; intro a hF
 refine W_seq ?_
 refine W_sr rfl fun K hK => ?_
 refine sv hF (v_move rfl) rfl ?_; clear hF a; intro a hF
 refine sb hF (v_lss rfl rfl) rfl ?_ ?_
 ·
  clear hF a; intro hc1 a hF
  try simp only [dcl] at hc1
  refine sv hF (v_move rfl) rfl ?_; clear hF a; intro a hF
  refine svn2 hF rfl rfl rfl rfl rfl rfl ?_; clear hF a; intro a hF
  refine svw hK hF (v_pickT rfl rfl) rfl ?_; clear hF a hK K; intro a hF
  replace hF := hF.sub _ (c_ 9 rfl (c_ 3 rfl (c_ 2 rfl (c_ 0 rfl n_))))
  refine W_ifT hF rfl ?_
  refine W_sr rfl fun K hK => ?_
  refine sv hF (v_build (cs := (prz).toArray) rfl (by kernel_rfl)) rfl ?_; clear hF a; intro a hF
  refine s_storeN (D := FDx) (B := B) hF (by kernel_rfl) rfl rfl (rfl) (by rfl) hR hS.inv ?_; intro w' hm hI' hrc'
  replace hS := hS.mb hm (fun k h => by cases h; exact hR.low)
  replace hR := hrc'
  clear hm hI' hrc'
  refine svw hK hF (v_assign rfl) rfl ?_; clear hF a hK K; intro a hF
  replace hF := hF.sub _ (c_ 3 rfl (c_ 2 rfl (c_ 0 rfl n_)))
  refine W_ret ?_
  refine ⟨_, _, _, _, hF, rfl, (ld_rec Tryz.underlying180 rfl (by first | (rw [List.toList_toArray, prOf_len]; kernel_rfl) | kernel_rfl) hR), rfl, ?_⟩
  exact ⟨by rw [prOf_no (by omega), decide_eq_false (by omega)], hS⟩
 clear hF a; intro hc1 a hF
 try simp only [dcl] at hc1
 refine sv hF (v_move rfl) rfl ?_; clear hF a; intro a hF
 refine svg hF rfl ?_
 refine sv hF (v_move rfl) rfl ?_; clear hF a; intro a hF
 refine svg hF rfl ?_
 refine sv2w hK hF (v_gtr rfl rfl) (v_pickF rfl rfl) rfl rfl ?_; clear hF a hK K; intro a hF
 replace hF := hF.sub _ (c_ 9 rfl (c_ 3 rfl (c_ 2 rfl (c_ 0 rfl n_))))
 refine W_if hF rfl (fun hc2 => ?_) (fun hc2 => ?_)
 ·
  skip
  try simp only [dcl] at hc2
  refine W_sr rfl fun K hK => ?_
  refine sv hF (v_build (cs := (prz).toArray) rfl (by kernel_rfl)) rfl ?_; clear hF a; intro a hF
  refine s_storeN (D := FDx) (B := B) hF (by kernel_rfl) rfl rfl (rfl) (by rfl) hR hS.inv ?_; intro w' hm hI' hrc'
  replace hS := hS.mb hm (fun k h => by cases h; exact hR.low)
  replace hR := hrc'
  clear hm hI' hrc'
  refine svw hK hF (v_assign rfl) rfl ?_; clear hF a hK K; intro a hF
  replace hF := hF.sub _ (c_ 3 rfl (c_ 2 rfl (c_ 0 rfl n_)))
  refine W_ret ?_
  refine ⟨_, _, _, _, hF, rfl, (ld_rec Tryz.underlying180 rfl (by first | (rw [List.toList_toArray, prOf_len]; kernel_rfl) | kernel_rfl) hR), rfl, ?_⟩
  exact ⟨by rw [prOf_no (by omega), decide_eq_false (by omega)], hS⟩
 skip
 try simp only [dcl] at hc2
 refine W_skip ?_
 refine W_sr rfl fun K hK => ?_
 refine sc hF rfl rfl rfl en173 rfl (table_ok B _ hS.inv) ?_; clear hF a; intro v w' a hv hF
 obtain ⟨rfl, hS'⟩ := hv
 replace hR := hR.st hS'
 replace hS := hS.trans hS'
 clear hS'
 refine sv2 hF (v_move rfl) (v_subI rfl rfl (by omega)) rfl rfl ?_; clear hF a; intro a hF
 refine sv hF ((v_indexR (s := 5) Tryz.underlying243 (by kernel_rfl) Tryz.underlying180 rfl rfl rfl (by omega) (by omega)).as (congrArg Value.agg (prOf_ext (p := p) (by omega) (by omega)))) rfl ?_; clear hF a; intro a hF
 refine s_storeN (D := FDx) (B := B) hF (by rw [List.size_toArray, prOf_len]; kernel_rfl) rfl rfl (prOf_one p) (by rw [List.size_toArray, prOf_len]; rfl) hR hS.inv ?_; intro w' hm hI' hrc'
 replace hS := hS.mb hm (fun k h => by cases h; exact hR.low)
 replace hR := hrc'
 clear hm hI' hrc'
 refine svw hK hF (v_assign rfl) rfl ?_; clear hF a hK K; intro a hF
 replace hF := hF.sub _ (c_ 3 rfl (c_ 2 rfl n_))
 refine W_ret ?_
 refine ⟨_, _, _, _, hF, rfl, (ld_rec Tryz.underlying180 rfl (by first | (rw [List.toList_toArray, prOf_len]; kernel_rfl) | kernel_rfl) hR), rfl, ?_⟩
 exact ⟨by rw [decide_eq_true (by omega)], hS⟩
theorem PField_in (B : Nat) (p : Int) (w : World) (hI : Inv FDx B w) (hpp : 1 ≤ p ∧ p ≤ 6) : Ret Tryz.prog 60 [.int .i64 p] w fun v w' => Fo FDx B w' v (some (pfl p)) ∧ St FDx B w w' := by
 refine enter 17 [(0, .int .i64 p)] 2 Tryz.func60 rfl rfl rfl rfl rfl ?_; intro a hF
 have hS := St.refl hI
 refine W_sr rfl fun K hK => ?_
 refine svw hK hF (v_assign rfl) rfl ?_; clear hF a hK K; intro a hF
 refine W_sr rfl fun K hK => ?_
 refine sv hF (v_move rfl) rfl ?_; clear hF a; intro a hF
 refine sc hF rfl rfl rfl en106 rfl (POf_ok B p _ hS.inv) ?_; clear hF a; intro v w' a hv hF
 obtain ⟨rfl, hS'⟩ := hv
 replace hS := hS.trans hS'
 clear hS'
 refine sv3 hF (v_move rfl) (v_ext rfl rfl) ((v_ext rfl rfl).as (congrArg Value.bool (decide_eq_true (hpp)))) rfl rfl rfl ?_; clear hF a; intro a hF
 have hs0 := hS.ext.size
 refine s_allocN (D := FDx) (B := B) (z := .agg prz.toArray) hF (by kernel_rfl) (by decide) hS.inv rfl ?_; clear hF a; intro gR w' a hm hI' hR hF
 replace hS := hS.mb0 hm
 clear hm hI'
 replace hR := hR.le hs0
 clear hs0
 refine s_storeN (D := FDx) (B := B) hF (by rw [List.size_toArray, prOf_len]; kernel_rfl) rfl rfl (prOf_one p) (by rw [List.size_toArray, prOf_len]; rfl) hR hS.inv ?_; intro w' hm hI' hrc'
 replace hS := hS.mb hm (fun k h => by cases h; exact hR.low)
 replace hR := hrc'
 clear hm hI' hrc'
 refine svw hK hF (v_assign rfl) rfl ?_; clear hF a hK K; intro a hF
 replace hF := hF.sub _ (c_ 4 rfl (c_ 3 rfl (c_ 2 rfl n_)))
 refine W_seq ?_
 refine W_sr rfl fun K hK => ?_
 refine sv2w hK hF (v_move rfl) (v_not rfl) rfl rfl ?_; clear hF a hK K; intro a hF
 replace hF := hF.sub _ (c_ 11 rfl (c_ 3 rfl (c_ 2 rfl n_)))
 refine W_ifF hF rfl ?_
 refine W_skip ?_
 refine W_sr rfl fun K hK => ?_
 refine sv4 hF (v_fieldAddr fa180_1 rfl) (v_load sc3 rfl ((hR.kc 1 (prOf_bits hpp.1 hpp.2)).c)) (v_fieldAddr fa180_2 rfl) (v_load sc93 rfl ((hR.kc 2 (prOf_poly hpp.1 hpp.2)).c)) rfl rfl rfl rfl ?_; clear hF a; intro a hF
 refine sc hF rfl rfl rfl en128 rfl (New_ok B ((pfl p).1 : Int) (pfl p).2 _ hS.inv (by have := (pfl_lt p).1; omega) (pfl_lt p).2) ?_; clear hF a; intro v w' a hv hF
 obtain ⟨hf, hS'⟩ := hv
 rw [pfl_new] at hf
 replace hR := hR.st hS'
 replace hS := hS.trans hS'
 clear hS'
 refine svw hK hF (v_assign rfl) rfl ?_; clear hF a hK K; intro a hF
 replace hF := hF.sub _ (c_ 2 rfl n_)
 refine W_ret ?_
 refine ⟨_, _, hF, rfl, ?_⟩
 exact ⟨hf, hS⟩
theorem rPOf_ok (B : Nat) (p : Int) (w : World) (hI : Inv FDx B w) : Ret Tryz.prog 37 [.int .i64 p] w fun v w' => v = .tuple #[.agg (prOf p).toArray, .bool (decide (1 ≤ p ∧ p ≤ 6))] ∧ St FDx B w w' := by
 refine enterCT 24 [(0, .int .i64 p)] 2 95 3 Tryz.func37 rfl rfl rfl rfl rfl ?_; intro a hF
 have hS := St.refl hI
 refine W_sr rfl fun K hK => ?_
 refine s_allocN (D := FDx) (B := B) (z := .agg prz.toArray) hF (by kernel_rfl) (by decide) hS.inv rfl ?_; clear hF a; intro gR w' a hm hI' hR hF
 replace hS := hS.mb0 hm
 clear hm hI'
 refine svw hK hF (v_assign rfl) rfl ?_; clear hF a hK K; intro a hF
 refine W_seq ?_
 refine W_sr rfl fun K hK => ?_
 refine svw hK hF (v_move rfl) rfl ?_; clear hF a hK K; intro a hF
 replace hF := hF.sub _ (c_ 4 rfl (c_ 3 rfl (c_ 2 rfl n_)))
 refine W_block ?_
 refine W_sr rfl fun K hK => ?_
 refine sv2w hK hF (v_eql rfl rfl) (v_assign rfl) rfl rfl ?_; clear hF a hK K; intro a hF
 replace hF := hF.sub _ (c_ 5 rfl (c_ 4 rfl (c_ 3 rfl (c_ 2 rfl n_))))
 refine W_if hF rfl (fun hc1 => ?_) (fun hc1 => ?_)
 ·
  skip
  try simp only [dcl] at hc1
  refine W_sr rfl fun K hK => ?_
  refine sv hF (v_build (cs := (prN 0).toArray) rfl (by kernel_rfl)) rfl ?_; clear hF a; intro a hF
  refine s_storeN (D := FDx) (B := B) hF (by kernel_rfl) rfl rfl (rfl) (by rfl) hR hS.inv ?_; intro w' hm hI' hrc'
  replace hS := hS.mb hm (fun k h => by cases h; exact hR.low)
  replace hR := hrc'
  clear hm hI' hrc'
  refine svw hK hF (v_assign rfl) rfl ?_; clear hF a hK K; intro a hF
  replace hF := hF.sub _ (c_ 3 rfl (c_ 2 rfl n_))
  refine W_ret ?_
  refine ⟨_, _, _, _, hF, rfl, (ld_rec Tryz.underlying95 rfl (by kernel_rfl) hR), rfl, ?_⟩
  obtain rfl : p = 1 := by assumption
  exact ⟨rfl, hS⟩
 skip
 try simp only [dcl] at hc1
 refine W_sr rfl fun K hK => ?_
 refine sv2w hK hF (v_eql rfl rfl) (v_assign rfl) rfl rfl ?_; clear hF a hK K; intro a hF
 replace hF := hF.sub _ (c_ 8 rfl (c_ 4 rfl (c_ 3 rfl (c_ 2 rfl n_))))
 refine W_if hF rfl (fun hc2 => ?_) (fun hc2 => ?_)
 ·
  skip
  try simp only [dcl] at hc2
  refine W_sr rfl fun K hK => ?_
  refine sv hF (v_build (cs := (prN 1).toArray) rfl (by kernel_rfl)) rfl ?_; clear hF a; intro a hF
  refine s_storeN (D := FDx) (B := B) hF (by kernel_rfl) rfl rfl (rfl) (by rfl) hR hS.inv ?_; intro w' hm hI' hrc'
  replace hS := hS.mb hm (fun k h => by cases h; exact hR.low)
  replace hR := hrc'
  clear hm hI' hrc'
  refine svw hK hF (v_assign rfl) rfl ?_; clear hF a hK K; intro a hF
  replace hF := hF.sub _ (c_ 3 rfl (c_ 2 rfl n_))
  refine W_ret ?_
  refine ⟨_, _, _, _, hF, rfl, (ld_rec Tryz.underlying95 rfl (by kernel_rfl) hR), rfl, ?_⟩
  obtain rfl : p = 2 := by assumption
  exact ⟨rfl, hS⟩
 skip
 try simp only [dcl] at hc2
 refine W_sr rfl fun K hK => ?_
 refine sv2w hK hF (v_eql rfl rfl) (v_assign rfl) rfl rfl ?_; clear hF a hK K; intro a hF
 replace hF := hF.sub _ (c_ 11 rfl (c_ 4 rfl (c_ 3 rfl (c_ 2 rfl n_))))
 refine W_if hF rfl (fun hc3 => ?_) (fun hc3 => ?_)
 ·
  skip
  try simp only [dcl] at hc3
  refine W_sr rfl fun K hK => ?_
  refine sv hF (v_build (cs := (prN 2).toArray) rfl (by kernel_rfl)) rfl ?_; clear hF a; intro a hF
  refine s_storeN (D := FDx) (B := B) hF (by kernel_rfl) rfl rfl (rfl) (by rfl) hR hS.inv ?_; intro w' hm hI' hrc'
  replace hS := hS.mb hm (fun k h => by cases h; exact hR.low)
  replace hR := hrc'
  clear hm hI' hrc'
  refine svw hK hF (v_assign rfl) rfl ?_; clear hF a hK K; intro a hF
  replace hF := hF.sub _ (c_ 3 rfl (c_ 2 rfl n_))
  refine W_ret ?_
  refine ⟨_, _, _, _, hF, rfl, (ld_rec Tryz.underlying95 rfl (by kernel_rfl) hR), rfl, ?_⟩
  obtain rfl : p = 3 := by assumption
  exact ⟨rfl, hS⟩
 skip
 try simp only [dcl] at hc3
 refine W_sr rfl fun K hK => ?_
 refine sv2w hK hF (v_eql rfl rfl) (v_assign rfl) rfl rfl ?_; clear hF a hK K; intro a hF
 replace hF := hF.sub _ (c_ 14 rfl (c_ 4 rfl (c_ 3 rfl (c_ 2 rfl n_))))
 refine W_if hF rfl (fun hc4 => ?_) (fun hc4 => ?_)
 ·
  skip
  try simp only [dcl] at hc4
  refine W_sr rfl fun K hK => ?_
  refine sv hF (v_build (cs := (prN 3).toArray) rfl (by kernel_rfl)) rfl ?_; clear hF a; intro a hF
  refine s_storeN (D := FDx) (B := B) hF (by kernel_rfl) rfl rfl (rfl) (by rfl) hR hS.inv ?_; intro w' hm hI' hrc'
  replace hS := hS.mb hm (fun k h => by cases h; exact hR.low)
  replace hR := hrc'
  clear hm hI' hrc'
  refine svw hK hF (v_assign rfl) rfl ?_; clear hF a hK K; intro a hF
  replace hF := hF.sub _ (c_ 3 rfl (c_ 2 rfl n_))
  refine W_ret ?_
  refine ⟨_, _, _, _, hF, rfl, (ld_rec Tryz.underlying95 rfl (by kernel_rfl) hR), rfl, ?_⟩
  obtain rfl : p = 4 := by assumption
  exact ⟨rfl, hS⟩
 skip
 try simp only [dcl] at hc4
 refine W_sr rfl fun K hK => ?_
 refine sv2w hK hF (v_eql rfl rfl) (v_assign rfl) rfl rfl ?_; clear hF a hK K; intro a hF
 replace hF := hF.sub _ (c_ 17 rfl (c_ 4 rfl (c_ 3 rfl (c_ 2 rfl n_))))
 refine W_if hF rfl (fun hc5 => ?_) (fun hc5 => ?_)
 ·
  skip
  try simp only [dcl] at hc5
  refine W_sr rfl fun K hK => ?_
  refine sv hF (v_build (cs := (prN 4).toArray) rfl (by kernel_rfl)) rfl ?_; clear hF a; intro a hF
  refine s_storeN (D := FDx) (B := B) hF (by kernel_rfl) rfl rfl (rfl) (by rfl) hR hS.inv ?_; intro w' hm hI' hrc'
  replace hS := hS.mb hm (fun k h => by cases h; exact hR.low)
  replace hR := hrc'
  clear hm hI' hrc'
  refine svw hK hF (v_assign rfl) rfl ?_; clear hF a hK K; intro a hF
  replace hF := hF.sub _ (c_ 3 rfl (c_ 2 rfl n_))
  refine W_ret ?_
  refine ⟨_, _, _, _, hF, rfl, (ld_rec Tryz.underlying95 rfl (by kernel_rfl) hR), rfl, ?_⟩
  obtain rfl : p = 5 := by assumption
  exact ⟨rfl, hS⟩
 skip
 try simp only [dcl] at hc5
 refine W_sr rfl fun K hK => ?_
 refine sv2w hK hF (v_eql rfl rfl) (v_assign rfl) rfl rfl ?_; clear hF a hK K; intro a hF
 replace hF := hF.sub _ (c_ 20 rfl (c_ 3 rfl (c_ 2 rfl n_)))
 refine W_if hF rfl (fun hc6 => ?_) (fun hc6 => ?_)
 ·
  skip
  try simp only [dcl] at hc6
  refine W_sr rfl fun K hK => ?_
  refine sv hF (v_build (cs := (prN 5).toArray) rfl (by kernel_rfl)) rfl ?_; clear hF a; intro a hF
  refine s_storeN (D := FDx) (B := B) hF (by kernel_rfl) rfl rfl (rfl) (by rfl) hR hS.inv ?_; intro w' hm hI' hrc'
  replace hS := hS.mb hm (fun k h => by cases h; exact hR.low)
  replace hR := hrc'
  clear hm hI' hrc'
  refine svw hK hF (v_assign rfl) rfl ?_; clear hF a hK K; intro a hF
  replace hF := hF.sub _ (c_ 3 rfl (c_ 2 rfl n_))
  refine W_ret ?_
  refine ⟨_, _, _, _, hF, rfl, (ld_rec Tryz.underlying95 rfl (by kernel_rfl) hR), rfl, ?_⟩
  obtain rfl : p = 6 := by assumption
  exact ⟨rfl, hS⟩
 skip
 try simp only [dcl] at hc6
 refine W_skip ?_
 refine W_sr rfl fun K hK => ?_
 refine sv hF (v_build (cs := (prz).toArray) rfl (by kernel_rfl)) rfl ?_; clear hF a; intro a hF
 refine s_storeN (D := FDx) (B := B) hF (by kernel_rfl) rfl rfl (rfl) (by rfl) hR hS.inv ?_; intro w' hm hI' hrc'
 replace hS := hS.mb hm (fun k h => by cases h; exact hR.low)
 replace hR := hrc'
 clear hm hI' hrc'
 refine svw hK hF (v_assign rfl) rfl ?_; clear hF a hK K; intro a hF
 replace hF := hF.sub _ (c_ 3 rfl (c_ 23 rfl (c_ 2 rfl n_)))
 refine W_ret ?_
 refine ⟨_, _, _, _, hF, rfl, (ld_rec Tryz.underlying95 rfl (by kernel_rfl) hR), rfl, ?_⟩
 exact ⟨by rw [prOf_no (by omega), decide_eq_false (by omega)], hS⟩
theorem Some_ok (B n0 n1 n2 : Nat) (w : World) (hI : Inv FDx B w) (h0 : n0 < 256) (h1 : n1 < 256) (h2 : n2 < 256) : Ret Tryz.prog 9 [.agg #[.int .u8 (n0 : Int), .int .u8 (n1 : Int), .int .u8 (n2 : Int)]] w fun v w' => v = .agg #[.int .i64 ((1 + n0 % 6 : Nat) : Int), .int .i64 ((1 + n1 % 8 : Nat) : Int), .int .i64 ((1 + n2 % (maxM ((1 + n0 % 6 : Nat) : Int)).toNat : Nat) : Int)] ∧ St FDx B w w' := by
 refine enterC 32 [(0, .agg #[.int .u8 (n0 : Int), .int .u8 (n1 : Int), .int .u8 (n2 : Int)])] 2 30 Tryz.func9 rfl rfl rfl rfl rfl ?_; intro a hF
 have hS := St.refl hI
 refine W_sr rfl fun K hK => ?_
 refine s_box (D := FDx) (B := B) hF rfl (by decide) hS.inv rfl ?_; clear hF a; intro w' a hm hbx hsz hF
 replace hS := hS.mb0 hm
 clear hm
 have hs0 := hS.ext.size
 have tb := heap_lt hbx
 refine s_allocN (D := FDx) (B := B) (z := .agg #[.int .i64 0, .int .i64 0, .int .i64 0]) hF (by kernel_rfl) (by decide) hS.inv rfl ?_; clear hF a; intro gx2 w' a hm hI' hx2 hF
 replace hbx := hbx.mb hm (by simp)
 replace hS := hS.mb0 hm
 clear hm hI'
 have hgx2 := hx2.low
 replace hx2 := hx2.le hs0
 clear hs0
 refine wn hK ?_
 clear hK K
 replace hF := hF.sub _ (c_ 2 rfl (c_ 1 rfl n_))
 refine W_sr rfl fun K hK => ?_
 refine sv3 hF (v_ixA ar32 rfl rfl (by omega) (by omega)) (v_load sc5 rfl (hbx.at 0 rfl)) (v_cv Tryz.underlying5 Tryz.underlying3 rfl (wrap_i64 _ (by omega))) rfl rfl rfl ?_; clear hF a; intro a hF
 refine sv hF ((v_remI rfl rfl (by omega) (by omega)).as (show Value.int .i64 ((n0 : Int) % 6) = .int .i64 ((n0 % 6 : Nat) : Int) by simp)) rfl ?_; clear hF a; intro a hF
 refine sv hF ((v_addI rfl rfl (by omega)).as (show Value.int .i64 (1 + ((n0 % 6 : Nat) : Int)) = .int .i64 ((1 + n0 % 6 : Nat) : Int) by simp)) rfl ?_; clear hF a; intro a hF
 refine sv3 hF (v_ixA ar32 rfl rfl (by omega) (by omega)) (v_load sc5 rfl (hbx.at 1 rfl)) (v_cv Tryz.underlying5 Tryz.underlying3 rfl (wrap_i64 _ (by omega))) rfl rfl rfl ?_; clear hF a; intro a hF
 refine sv hF ((v_remI rfl rfl (by omega) (by omega)).as (show Value.int .i64 ((n1 : Int) % 8) = .int .i64 ((n1 % 8 : Nat) : Int) by simp)) rfl ?_; clear hF a; intro a hF
 refine sv hF ((v_addI rfl rfl (by omega)).as (show Value.int .i64 (1 + ((n1 % 8 : Nat) : Int)) = .int .i64 ((1 + n1 % 8 : Nat) : Int) by simp)) rfl ?_; clear hF a; intro a hF
 refine sv hF (v_build (cs := #[.int .i64 ((1 + n0 % 6 : Nat) : Int), .int .i64 ((1 + n1 % 8 : Nat) : Int), .int .i64 0]) rfl (by kernel_rfl)) rfl ?_; clear hF a; intro a hF
 have hs0 := hS.ext.size
 have tx2 := heap_lt hx2.blk
 have tb2 := heap_lt hbx
 refine s_allocN (D := FDx) (B := B) (z := .agg #[.int .i64 0, .int .i64 0, .int .i64 0]) hF (by kernel_rfl) (by decide) hS.inv rfl ?_; clear hF a; intro gx w' a hm hI' hx hF
 replace hbx := hbx.mb hm (by simp)
 replace hx2 := hx2.mb hm (by simp)
 replace hS := hS.mb0 hm
 clear hm hI'
 have hgx := hx.low
 replace hx := hx.le hs0
 clear hs0
 refine s_storeN (D := FDx) (B := B) hF (by kernel_rfl) rfl rfl (rfl) (by rfl) hx hS.inv ?_; intro w' hm hI' hrc'
 replace hbx := hbx.mb hm (by simp; omega)
 replace hx2 := hx2.mb hm (by simp; omega)
 replace hS := hS.mb hm (fun k h => by cases h; exact hx.low)
 replace hx := hrc'
 clear hm hI' hrc'
 refine wn hK ?_
 clear hK K
 replace hF := hF.sub _ (c_ 3 rfl (c_ 2 rfl (c_ 1 rfl n_)))
 refine W_sr rfl fun K hK => ?_
 refine sv2 hF (v_fieldAddr fa30_0 rfl) (v_load sc3 rfl (hx.blk.at 0 rfl)) rfl rfl ?_; clear hF a; intro a hF
 refine sc hF rfl rfl rfl en37 rfl (rPOf_ok B ((1 + n0 % 6 : Nat) : Int) _ hS.inv) ?_; clear hF a; intro v w' a hv hF
 obtain ⟨rfl, hS'⟩ := hv
 replace hbx := hbx.st (by decide) hS'
 replace hx2 := hx2.st hS'
 replace hx := hx.st hS'
 replace hS := hS.trans hS'
 clear hS'
 refine sv3 hF (v_move rfl) (v_ext rfl rfl) (v_ext rfl rfl) rfl rfl rfl ?_; clear hF a; intro a hF
 have hs0 := hS.ext.size
 have tx3 := heap_lt hx2.blk
 have tb3 := heap_lt hbx
 have tx4 := heap_lt hx.blk
 refine s_allocN (D := FDx) (B := B) (z := .agg prz.toArray) hF (by kernel_rfl) (by decide) hS.inv rfl ?_; clear hF a; intro gR w' a hm hI' hR hF
 replace hbx := hbx.mb hm (by simp)
 replace hx2 := hx2.mb hm (by simp)
 replace hx := hx.mb hm (by simp)
 replace hS := hS.mb0 hm
 clear hm hI'
 have hgR := hR.low
 replace hR := hR.le hs0
 clear hs0
 refine s_storeN (D := FDx) (B := B) hF (by rw [List.size_toArray, prOf_len]; kernel_rfl) rfl rfl (prOf_one ((1 + n0 % 6 : Nat) : Int)) (by rw [List.size_toArray, prOf_len]; rfl) hR hS.inv ?_; intro w' hm hI' hrc'
 replace hbx := hbx.mb hm (by simp; omega)
 replace hx2 := hx2.mb hm (by simp; omega)
 replace hx := hx.mb hm (by simp; omega)
 replace hS := hS.mb hm (fun k h => by cases h; exact hR.low)
 replace hR := hrc'
 clear hm hI' hrc'
 refine svw hK hF (v_assign rfl) rfl ?_; clear hF a hK K; intro a hF
 replace hF := hF.sub _ (c_ 4 rfl (c_ 3 rfl (c_ 2 rfl (c_ 1 rfl n_))))
 have hmx : ∃ mx : Nat, maxM ((1 + n0 % 6 : Nat) : Int) = (mx : Int) ∧ 3 ≤ mx ∧ mx ≤ 4 := by
  unfold maxM; split
  · exact ⟨3, rfl, by omega⟩
  exact ⟨4, rfl, by omega⟩
 obtain ⟨mx, hmx, hmx2⟩ := hmx
 refine W_sr rfl fun K hK => ?_
 refine sv4 hF (v_ixA ar32 rfl rfl (by omega) (by omega)) (v_load sc5 rfl (hbx.at 2 rfl)) (v_cv Tryz.underlying5 Tryz.underlying3 rfl (wrap_i64 _ (by omega))) (v_fieldAddr fa95_4 rfl) rfl rfl rfl rfl ?_; clear hF a; intro a hF
 refine sv hF (v_load sc3 rfl (by have h := (hR.kc 4 (prOf_max (by omega) (by omega))).c; rw [hmx] at h; exact h)) rfl ?_; clear hF a; intro a hF
 refine sv hF ((v_remI rfl rfl (by omega) (by omega)).as (show Value.int .i64 ((n2 : Int) % (mx : Int)) = .int .i64 ((n2 % mx : Nat) : Int) by simp)) rfl ?_; clear hF a; intro a hF
 have hmod : n2 % mx < mx := Nat.mod_lt _ (by omega)
 refine sv hF ((v_addI rfl rfl (by omega)).as (show Value.int .i64 (1 + ((n2 % mx : Nat) : Int)) = .int .i64 ((1 + n2 % mx : Nat) : Int) by simp)) rfl ?_; clear hF a; intro a hF
 refine sv hF (v_fieldAddr fa30_2 rfl) rfl ?_; clear hF a; intro a hF
 refine s_storeF (D := FDx) (B := B) hF on3 rfl rfl (rfl) (i := 2) (by simp) hx hS.inv ?_; intro w' hm hI' hrc'
 replace hbx := hbx.mb hm (by simp; omega)
 replace hx2 := hx2.mb hm (by simp; omega)
 replace hR := hR.mb hm (by simp; omega)
 replace hS := hS.mb hm (fun k h => by cases h; exact hx.low)
 replace hx := hrc'
 clear hm hI' hrc'
 refine wn hK ?_
 clear hK K
 replace hF := hF.sub _ (c_ 3 rfl (c_ 2 rfl n_))
 refine W_sr rfl fun K hK => ?_
 refine sv hF (v_loadN Tryz.underlying30 rfl (by kernel_rfl) rfl hx.blk) rfl ?_; clear hF a; intro a hF
 refine s_storeN (D := FDx) (B := B) hF (by kernel_rfl) rfl rfl (rfl) (by rfl) hx2 hS.inv ?_; intro w' hm hI' hrc'
 replace hbx := hbx.mb hm (by simp; omega)
 replace hx := hx.mb hm (by simp; omega)
 replace hR := hR.mb hm (by simp; omega)
 replace hS := hS.mb hm (fun k h => by cases h; exact hx2.low)
 replace hx2 := hrc'
 clear hm hI' hrc'
 refine wn hK ?_
 clear hK K
 replace hF := hF.sub _ (c_ 2 rfl n_)
 refine W_ret ?_
 refine ⟨_, _, _, hF, rfl, (ld_rec Tryz.underlying30 rfl (by kernel_rfl) hx2), ?_⟩
 rw [hmx, Int.toNat_natCast]
 exact ⟨rfl, hS⟩
end Go.Proofs.YtoabojbpeafdkaaGreatDoor
/- One data shard is another one: what becomes of the parity shards. No program in sight. -/
namespace Go.Gam
open Px
theorem xorB_comm (a b : List Nat) : xorB a b = xorB b a := by unfold xorB; rw [List.zipWith_comm]; congr 1; funext x y; exact Nat.xor_comm y x
theorem xorB_assoc : ∀ (a b c : List Nat), xorB (xorB a b) c = xorB a (xorB b c)
 | [], _, _ => by simp [xorB]
 | _ :: _, [], _ => by simp [xorB]
 | _ :: _, _ :: _, [] => by simp [xorB]
 | x :: a, y :: b, z :: c => by
  show ((x ^^^ y) ^^^ z) :: xorB (xorB a b) c = (x ^^^ (y ^^^ z)) :: xorB a (xorB b c)
  rw [xorB_assoc a b c, Nat.xor_assoc]
theorem fold_out : ∀ (xs : List (List Nat)) (acc z : List Nat), xs.foldl xorB (xorB acc z) = xorB (xs.foldl xorB acc) z
 | [], acc, z => rfl
 | x :: xs, acc, z => by
  show xs.foldl xorB (xorB (xorB acc z) x) = _
  rw [xorB_assoc, xorB_comm z x, ← xorB_assoc, fold_out xs]
  rfl
theorem fold_set {L : Nat} : ∀ (xs : List (List Nat)) (acc : List Nat) (k : Nat) (x y : List Nat), xs[k]? = some x → x.length = L → y.length = L → (xs.set k y).foldl xorB acc = xorB (xs.foldl xorB acc) (xorB x y)
 | [], acc, k, x, y, h, _, _ => by simp at h
 | a :: xs, acc, 0, x, y, h, hx, hy => by
  obtain rfl : a = x := by simpa using h
  show xs.foldl xorB (xorB acc y) = xorB (xs.foldl xorB (xorB acc a)) (xorB a y)
  rw [fold_out, fold_out, xorB_assoc, ← xorB_assoc a a y, xorB_comm (xorB a a) y, ← xorB_assoc y a a, xorB_back y a (by omega)]
 | a :: xs, acc, k + 1, x, y, h, hx, hy => fold_set xs (xorB acc a) k x y (by simpa using h) hx hy
theorem fold_len {L : Nat} : ∀ (xs : List (List Nat)) (acc : List Nat), acc.length = L → (∀ x ∈ xs, x.length = L) → (xs.foldl xorB acc).length = L
 | [], acc, h, _ => h
 | x :: xs, acc, h, hx => fold_len xs (xorB acc x) (by rw [xorB_len (by rw [h, hx x (by simp)])]; exact h) (fun z hz => hx z (by simp [hz]))
def mulT (o : Fq) (c : Int) (b : List Nat) : List Nat := (rmul o c b).getD []
theorem rmuls_zip {o : Fq} : ∀ {cs : List Int} {bss : List (List Nat)}, (∀ c ∈ cs, ∀ b ∈ bss, (rmul o c b).isSome = true) → rmuls o cs bss = some (List.zipWith (mulT o) cs bss)
 | [], bss, _ => by cases bss <;> rfl
 | _ :: _, [], _ => rfl
 | c :: cs, b :: bss, h => by
  have h1 := h c (by simp) b (by simp)
  simp only [rmuls, List.zipWith_cons_cons]
  rw [rmuls_zip (cs := cs) (bss := bss) (fun c hc b hb => h c (by simp [hc]) b (by simp [hb]))]
  unfold mulT
  cases hr : rmul o c b with
  | none => rw [hr] at h1; cases h1
  | some x => rfl
section
variable {wb p L : Nat} (hp : Prm wb p)
include hp
theorem mul_fine {m : Nat} (hm : m < 2 ^ wb) {a : List Nat} (ha : a.length % (wb / 8) = 0) (ha8 : ∀ x ∈ a, x < 256) : ∃ P, rmul (some (wb, p)) (m : Int) a = some P ∧ P.length = a.length ∧ ∀ x ∈ P, x < 256 := by
 obtain ⟨x, rfl, hx⟩ := as_words hp ha ha8
 have h := rmul_bytes hp hm hx
 exact ⟨_, h, by rw [bytesN_length hp, bytesN_length hp]; simp, (rmul_props (show fsz (some (wb, p)) ≤ 65536 from hp.size.2) h).1⟩
def RowIn (wb : Nat) (r : List Int) : Prop := ∀ c ∈ r, ∃ q : Nat, q < 2 ^ wb ∧ c = (q : Int)
omit hp in
theorem zip_mem {o : Fq} {P : List Nat → Prop} : ∀ {cs : List Int} {bss : List (List Nat)}, (∀ c ∈ cs, ∀ b ∈ bss, P (mulT o c b)) → ∀ x ∈ List.zipWith (mulT o) cs bss, P x
 | [], bss, _, x, hx => by cases bss <;> simp at hx
 | _ :: _, [], _, x, hx => by simp at hx
 | c :: cs, b :: bss, h, x, hx => by
  rw [List.zipWith_cons_cons, List.mem_cons] at hx
  rcases hx with rfl | hx
  · exact h c (by simp) b (by simp)
  exact zip_mem (fun c hc b hb => h c (by simp [hc]) b (by simp [hb])) x hx
structure Dat (wb L : Nat) (D : List (List Nat)) : Prop where
 len : ∀ b ∈ D, b.length = L
 byte : ∀ b ∈ D, ∀ x ∈ b, x < 256
 even : L % (wb / 8) = 0
theorem mulT_len {r : List Int} {D : List (List Nat)} (hr : RowIn wb r) (hD : Dat wb L D) : ∀ c ∈ r, ∀ b ∈ D, (mulT (some (wb, p)) c b).length = L := by
 intro c hc b hb
 obtain ⟨q, hq, rfl⟩ := hr c hc
 have hbl := hD.len b hb
 obtain ⟨P, h1, h2, -⟩ := mul_fine hp hq (by rw [hbl]; exact hD.even) (hD.byte b hb)
 unfold mulT
 rw [h1, ← hbl]; exact h2
theorem rdot_zip {r : List Int} {D : List (List Nat)} (hr : RowIn wb r) (hD : Dat wb L D) (hl : r.length = D.length) (h0 : 1 ≤ r.length) :
  rdot (some (wb, p)) r D = some ((List.zipWith (mulT (some (wb, p))) r D).foldl xorB (List.replicate L 0)) := by
 have hs : rmuls (some (wb, p)) r D = some (List.zipWith (mulT (some (wb, p))) r D) := rmuls_zip fun c hc b hb => by
  obtain ⟨q, hq, rfl⟩ := hr c hc
  obtain ⟨P, h1, -⟩ := mul_fine hp hq (by rw [hD.len b hb]; exact hD.even) (hD.byte b hb)
  rw [h1]; rfl
 have hlen := zip_mem (P := fun x => x.length = L) (mulT_len hp hr hD)
 rw [rdot_some hl (by omega) hs]
 obtain ⟨x0, hx0⟩ : ∃ x, (List.zipWith (mulT (some (wb, p))) r D)[0]? = some x := ⟨_, List.getElem?_eq_getElem (by simp; omega)⟩
 have e0 := hlen x0 (List.mem_of_getElem? hx0)
 rw [rsum_t hx0 (fun b hb => by rw [hlen b hb, e0]), e0]
theorem rdot_fine {r : List Int} {D : List (List Nat)} (hr : RowIn wb r) (hD : Dat wb L D) (hl : r.length = D.length) (h0 : 1 ≤ r.length) : ∃ y, rdot (some (wb, p)) r D = some y ∧ y.length = L :=
 ⟨_, rdot_zip hp hr hD hl h0, fold_len _ _ (by simp) (zip_mem (P := fun x => x.length = L) (mulT_len hp hr hD))⟩
theorem upd_par {r : List Int} {D : List (List Nat)} {k : Nat} {a b : List Nat} {c : Int} (hr : RowIn wb r) (hD : Dat wb L D) (hl : r.length = D.length) (ha : D[k]? = some a) (hc : r[k]? = some c) (hb : b.length = L) (hb8 : ∀ x ∈ b, x < 256) :
  (rsum [(rdot (some (wb, p)) r D).getD [], (rmul (some (wb, p)) c (xorB a b)).getD []]).getD [] = (rdot (some (wb, p)) r (D.set k b)).getD [] := by
 have h0 : 1 ≤ r.length := by have := (List.getElem?_eq_some_iff.1 hc).1; omega
 have hD2 : Dat wb L (D.set k b) := ⟨fun z hz => (List.mem_or_eq_of_mem_set hz).elim (hD.len z) (fun e => by rw [e]; exact hb), fun z hz => (List.mem_or_eq_of_mem_set hz).elim (hD.byte z) (fun e => by rw [e]; exact hb8), hD.even⟩
 have hal := hD.len a (List.mem_of_getElem? ha)
 obtain ⟨q, hq, rfl⟩ := hr c (List.mem_of_getElem? hc)
 obtain ⟨P, Q, X, h1, h2, h3, h4, h5⟩ := spreads hp hq (show a.length = b.length by omega) (by rw [hal]; exact hD.even) (hD.byte a (List.mem_of_getElem? ha)) hb8
 obtain ⟨P', h6, h7, -⟩ := mul_fine hp hq (by rw [hal]; exact hD.even) (hD.byte a (List.mem_of_getElem? ha))
 rw [h1] at h6
 obtain rfl := Option.some.inj h6
 have hz : List.zipWith (mulT (some (wb, p))) r (D.set k b) = (List.zipWith (mulT (some (wb, p))) r D).set k Q := by
  apply List.ext_getElem?
  intro j
  rw [List.getElem?_zipWith, List.getElem?_set, List.getElem?_set]
  by_cases e : k = j
  ·
   subst e
   have hk := (List.getElem?_eq_some_iff.1 ha).1
   rw [if_pos rfl, if_pos rfl, if_pos hk, if_pos (by simp; omega), hc]
   show some (mulT _ _ b) = some Q
   unfold mulT; rw [h2]; rfl
  rw [if_neg e, if_neg e, List.getElem?_zipWith]
 have hk : (List.zipWith (mulT (some (wb, p))) r D)[k]? = some P := by
  rw [List.getElem?_zipWith, hc, ha]
  show some (mulT _ _ a) = some P
  unfold mulT; rw [h1]; rfl
 obtain ⟨y, hy, hyl⟩ := rdot_fine hp hr hD hl h0
 rw [rdot_zip hp hr hD2 (by simpa using hl) h0, hz, fold_set (L := L) _ _ k P Q hk (by omega) (by omega), h3, h5]
 have hy2 := rdot_zip hp hr hD hl h0
 rw [hy2] at hy
 obtain rfl := Option.some.inj hy
 rw [hy2]
 simp only [Option.getD_some]
 rw [rsum2, if_pos (by rw [hyl, xorB_len h4]; omega)]
 rfl
end
theorem hdr_lt (n : Nat) : ∀ x ∈ hdr n, x < 256 := by
 intro x hx
 simp only [hdr, List.mem_cons, List.not_mem_nil, or_false] at hx
 omega
theorem laidL_lt {a : Nat} {b : List Nat} (h : ∀ x ∈ b, x < 256) : ∀ x ∈ laidL a b, x < 256 := by
 intro x hx
 rcases List.mem_append.1 hx with hx | hx
 · exact hdr_lt _ x (List.mem_of_mem_drop hx)
 exact h x hx
theorem rowT_lt {L : List Nat} (h : ∀ x ∈ L, x < 256) (sz t i : Nat) : ∀ x ∈ rowT L sz t i, x < 256 := by
 intro x hx
 obtain ⟨j, hj, rfl⟩ := List.mem_map.1 hx
 rw [List.getD_eq_getElem?_getD]
 cases hg : (L.take t)[i * sz + j]? with
 | none => simp
 | some y => exact h y (List.mem_of_mem_take (List.mem_of_getElem? hg))
theorem size_even (p k n : Nat) : sizeN p k n % ((fldN p).1 / 8) = 0 := by
 unfold fldN
 split
 ·
  rename_i h
  subst h
  unfold sizeN
  show 8 * _ % 2 = 0
  omega
 exact Nat.mod_one _
theorem data_dat {p k : Nat} {b : List Nat} (h8 : ∀ x ∈ b, x < 256) : Dat (fldN p).1 (sizeN p k b.length) (dataL p k b) :=
 ⟨fun r hr => by obtain ⟨i, -, rfl⟩ := List.mem_map.1 hr; simp, fun r hr => by obtain ⟨i, -, rfl⟩ := List.mem_map.1 hr; exact rowT_lt (laidL_lt h8) _ _ _, size_even p k b.length⟩
@[simp] theorem data_len (p k : Nat) (b : List Nat) : (dataL p k b).length = k := by simp [dataL]
theorem data_at {p k i : Nat} {b : List Nat} (h : i < k) : (dataL p k b)[i]? = some (rowT (laidL (aheadN p) b) (sizeN p k b.length) (laidL (aheadN p) b).length i) := by simp [dataL, h]
theorem data_one (p k : Nat) (b : List Nat) (i v : Nat) : ∃ q, ∀ j, j < k → j ≠ q → (dataL p k b)[j]? = (dataL p k (b.set i v))[j]? := by
 have hl : (b.set i v).length = b.length := by simp
 obtain ⟨sz, hsz⟩ : ∃ s, s = sizeN p k b.length := ⟨_, rfl⟩
 obtain ⟨t, ht⟩ : ∃ t, t = ((hdr b.length).drop (4 - aheadN p)).length + i := ⟨_, rfl⟩
 have hL : laidL (aheadN p) (b.set i v) = (laidL (aheadN p) b).set t v := by
  unfold laidL
  rw [hl, ht, List.set_append_right _ _ (by omega)]
  congr 2; omega
 refine ⟨t / sz, fun j hj hne => ?_⟩
 rw [data_at hj, data_at hj, hl, ← hsz, hL, List.length_set]
 congr 1
 refine List.map_congr_left fun l hlm => ?_
 have hlt := List.mem_range.1 hlm
 rw [take_getD, take_getD]
 split
 ·
  rw [List.getD_eq_getElem?_getD, List.getD_eq_getElem?_getD, List.getElem?_set_ne]
  intro e
  refine hne ?_
  rw [e, Nat.mul_comm, Nat.mul_add_div (by omega), Nat.div_eq_of_lt hlt, Nat.add_zero]
 rfl
def PTok (PT : Nat → Nat → Nat → List (List Int)) : Prop := ∀ p k m, 1 ≤ p ∧ p ≤ 6 → 1 ≤ k ∧ k ≤ 8 → 1 ≤ m ∧ m ≤ 4 → (p = 3 → m ≤ 3) → (PT p k m).length = m ∧ ∀ r ∈ PT p k m, r.length = k ∧ RowIn (fldN p).1 r
def encL (PT : Nat → Nat → Nat → List (List Int)) (p k m : Nat) (b : List Nat) : List (List Nat) := dataL p k b ++ parL (some (fldN p)) (PT p k m) (dataL p k b)
section
variable {PT : Nat → Nat → Nat → List (List Int)} {p k m : Nat} (hPl : (PT p k m).length = m) (hPr : ∀ r ∈ PT p k m, r.length = k ∧ RowIn (fldN p).1 r) (hk : 1 ≤ k)
include hPl hPr hk
omit hPl in
theorem enc_dot {b : List Nat} (h8 : ∀ x ∈ b, x < 256) : ∀ r ∈ PT p k m, ∃ y, rdot (some (fldN p)) r (dataL p k b) = some y ∧ y.length = sizeN p k b.length := by
 intro r hr
 obtain ⟨h1, h2⟩ := hPr r hr
 exact rdot_fine (fldN_prm p) h2 (data_dat h8) (by rw [h1, data_len]) (by omega)
omit hPr hk in
theorem enc_len (b : List Nat) : (encL PT p k m b).length = k + m := by simp [encL, parL, hPl]
omit hPl in
theorem enc_rows {b : List Nat} (h8 : ∀ x ∈ b, x < 256) : ∀ s ∈ encL PT p k m b, s.length = sizeN p k b.length ∧ ∀ x ∈ s, x < 256 := by
 intro s hs
 rcases List.mem_append.1 hs with hs | hs
 · exact ⟨(data_dat h8).len s hs, (data_dat h8).byte s hs⟩
 obtain ⟨r, hr, rfl⟩ := List.mem_map.1 hs
 obtain ⟨y, h1, h2⟩ := enc_dot hPr hk h8 r hr
 refine ⟨by rw [h1]; exact h2, rdot_lt (fldN_prm p) r _⟩
omit hPl hPr hk in
theorem enc_lo {b : List Nat} {j : Nat} (h : j < k) : (encL PT p k m b)[j]? = (dataL p k b)[j]? := List.getElem?_append_left (by simpa using h)
omit hPl hPr hk in
theorem enc_hi {b : List Nat} {j : Nat} {r : List Int} (hr : (PT p k m)[j]? = some r) : (encL PT p k m b)[k + j]? = some ((rdot (some (fldN p)) r (dataL p k b)).getD []) := by
 unfold encL
 rw [List.getElem?_append_right (by simp), data_len, Nat.add_sub_cancel_left]
 simp [parL, hr]
omit hk in
theorem top_eq {b c : List Nat} (hbc : c.length = b.length) (h8 : ∀ x ∈ b, x < 256) (h8c : ∀ x ∈ c, x < 256) {i : Nat} {y : List Nat} (hi : i < k) (hy : (encL PT p k m c)[i]? = some y) (hs : ∀ j, j < k → j ≠ i → (encL PT p k m b)[j]? = (encL PT p k m c)[j]?) :
  (updG (some (fldN p)) (PT p k m) k i (xorB ((encL PT p k m b).getD i []) y) (encL PT p k m b) (k + m)).set i y = encL PT p k m c := by
 obtain ⟨a, ha⟩ : ∃ a, (dataL p k b)[i]? = some a := ⟨_, data_at hi⟩
 have hyd : (dataL p k c)[i]? = some y := by rw [← enc_lo hi]; exact hy
 have hD : dataL p k c = (dataL p k b).set i y := by
  apply List.ext_getElem?
  intro j
  by_cases hj : j < k
  ·
   rw [List.getElem?_set]
   by_cases e : i = j
   · subst e; rw [if_pos rfl, if_pos (by simpa using hj), hyd]
   rw [if_neg e, ← enc_lo (PT := PT) (m := m) hj, ← hs j hj (Ne.symm e), enc_lo hj]
  rw [List.getElem?_eq_none (by simp; omega), List.getElem?_eq_none (by simp; omega)]
 have hax : (encL PT p k m b).getD i [] = a := by rw [List.getD_eq_getElem?_getD, enc_lo hi, ha]; rfl
 have hyl : y.length = sizeN p k b.length := by rw [← hbc]; exact (data_dat h8c).len y (List.mem_of_getElem? hyd)
 have hy8 := (data_dat h8c).byte y (List.mem_of_getElem? hyd)
 rw [hax]
 apply List.ext_getElem?
 intro j
 by_cases hj : j < k + m
 ·
  rw [List.getElem?_set]
  by_cases e : i = j
  · subst e
    rw [if_pos rfl, if_pos (by simpa using hj), hy]
  rw [if_neg e]
  have hu : (updG (some (fldN p)) (PT p k m) k i (xorB a y) (encL PT p k m b) (k + m))[j]? = some (updR (some (fldN p)) (PT p k m) k i (xorB a y) j ((encL PT p k m b).getD j [])) := by simp [updG, hj]
  rw [hu]
  by_cases hjk : j < k
  · rw [updR_lo hjk, ← hs j hjk (Ne.symm e)]
    obtain ⟨s, hs2⟩ : ∃ s, (encL PT p k m b)[j]? = some s := ⟨_, List.getElem?_eq_getElem (by rw [enc_len hPl]; exact hj)⟩
    rw [List.getD_eq_getElem?_getD, hs2]; rfl
  obtain ⟨r, hr⟩ : ∃ r, (PT p k m)[j - k]? = some r := ⟨_, List.getElem?_eq_getElem (by omega)⟩
  obtain ⟨h1, h2⟩ := hPr r (List.mem_of_getElem? hr)
  obtain ⟨q, hq⟩ : ∃ q, r[i]? = some q := ⟨_, List.getElem?_eq_getElem (by omega)⟩
  have e1 := enc_hi (b := b) hr
  have e2 := enc_hi (b := c) hr
  rw [show k + (j - k) = j by omega] at e1 e2
  rw [updR_hi hjk hr hq, List.getD_eq_getElem?_getD, e1, e2, hD]
  simp only [Option.getD_some]
  congr 1
  exact upd_par (fldN_prm p) h2 (data_dat h8) (by rw [h1, data_len]) ha hq hyl hy8
 rw [List.getElem?_eq_none (by simp; omega), List.getElem?_eq_none (by rw [enc_len hPl]; omega)]
end
end Go.Gam
/- The walks of codec.Encode, and of what recon.Update asks ahead. -/
namespace Go.Proofs.YtoabojbpeafdkaaGreatDoor
open Go Go.Gam
namespace FxFEnc
theorem en66 : Ent Tryz.prog 66 := ent Tryz.func66 (by kernel_rfl) (by kernel_rfl)
theorem en76 : Ent Tryz.prog 76 := ent Tryz.func76 (by kernel_rfl) (by kernel_rfl)
theorem en77 : Ent Tryz.prog 77 := ent Tryz.func77 (by kernel_rfl) (by kernel_rfl)
theorem en106 : Ent Tryz.prog 106 := ent Tryz.func106 (by kernel_rfl) (by kernel_rfl)
theorem en129 : Ent Tryz.prog 129 := ent Tryz.func129 (by kernel_rfl) (by kernel_rfl)
theorem fa180_1 : FieldFact Tryz.prog 180 1 1 := ff_of (sz := 0) Tryz.underlying180 (by kernel_rfl)
theorem fa30_0 : FieldFact Tryz.prog 30 0 0 := ff_of (sz := 0) Tryz.underlying30 (by kernel_rfl)
theorem fa30_1 : FieldFact Tryz.prog 30 1 1 := ff_of (sz := 0) Tryz.underlying30 (by kernel_rfl)
theorem fa30_2 : FieldFact Tryz.prog 30 2 2 := ff_of (sz := 0) Tryz.underlying30 (by kernel_rfl)
theorem sc23 : Scalar Tryz.prog 23 := ⟨_, Tryz.underlying23, by simp, by simp⟩
theorem sc3 : Scalar Tryz.prog 3 := ⟨_, Tryz.underlying3, by simp, by simp⟩
theorem sl23 : Sl Tryz.prog 23 5 (.int .u8 0) 1 := sl_of Tryz.underlying23 rfl (by kernel_rfl)
theorem sl48 : Sl Tryz.prog 48 23 (.slice none 0 0) 24 := sl_of Tryz.underlying48 rfl (by kernel_rfl)
end FxFEnc
open FxFEnc
theorem fldC : FldC := fun B p w hI hB hp => (PField_in B (p : Int) w hI (by omega)).mono fun v w' h => ⟨by rw [prOf_bitsN hp] at h; exact h.1, h.2⟩
theorem Enc_ok (B M p k m : Nat) (PT : Nat → Nat → Nat → Mtx) (hPar : ParC PT) (px : Option Addr) (cx : Nat) (bs : List Nat) (w : World) (hI : Inv FDx B w) (hB : 9 ≤ B) (hp : 1 ≤ p ∧ p ≤ 6) (hk : 1 ≤ k ∧ k ≤ 8) (hm : 1 ≤ m ∧ m ≤ maxN p) (hx : Row FDx B M w (.slice px bs.length cx) (byt bs)) (hM : M ≤ w.heap.size) (hl : bs.length ≤ 4096) (h8 : ∀ b ∈ dataL p k bs, ∀ x ∈ b, x < 256) (hbl : (dataL p k bs).length = k) (hlen2 : ∀ b ∈ dataL p k bs, b.length ≤ 10000) (hPl : (PT p k m).length = m) (hdot : ∀ r ∈ PT p k m, ∃ y, rdot (some (fldN p)) r (dataL p k bs) = some y) : Ret Tryz.prog 23 [.agg #[.int .i64 (p : Int), .int .i64 (k : Int), .int .i64 (m : Int)], .slice px bs.length cx] w fun v w' => ∃ sl ob pv, v = .tuple #[sl, .int .i64 0] ∧ Gam.Own FDx B w.heap.size w' 23 sl ob pv ∧ Owns2 FDx B w.heap.size w' 5 pv (encL PT p k m bs) ∧ St FDx B w w' := by
 refine enter2 28 [(0, .agg #[.int .i64 (p : Int), .int .i64 (k : Int), .int .i64 (m : Int)]), (1, .slice px bs.length cx)] 4 5 Tryz.func23 rfl rfl rfl rfl rfl ?_; intro a hF
 have hS := St.refl hI
 have hm4 : m ≤ 4 := by have := hm.2; unfold maxN at this; split at this <;> omega
 refine W_sr rfl fun K hK => ?_
 refine s_box (D := FDx) (B := B) hF rfl (by decide) hS.inv rfl ?_; clear hF a; intro w' a hm hbx hsz hF
 replace hx := hx.mb hm (fun _ h => by cases h)
 replace hS := hS.mb0 hm
 clear hm
 refine sv2w hK hF (v_assign rfl) (v_assign rfl) rfl rfl ?_; clear hF a hK K; intro a hF
 replace hF := hF.sub _ (c_ 5 rfl (c_ 4 rfl (c_ 2 rfl (c_ 1 rfl n_))))
 refine W_sr rfl fun K hK => ?_
 refine sv hF (v_loadN Tryz.underlying30 rfl (by kernel_rfl) rfl hbx) rfl ?_; clear hF a; intro a hF
 refine sv hF (v_move rfl) rfl ?_; clear hF a; intro a hF
 refine sc hF rfl rfl rfl en66 rfl (Split_ok B M p k m px cx bs _ hS.inv hB hp hk hm hx (Nat.le_trans hM hS.ext.size) hl) ?_; clear hF a; intro v w' a hv hF
 obtain ⟨sl, ob, vals, rfl, hO, hQ, hS'⟩ := hv
 replace hO := hO.le hS.ext.size
 replace hQ := hQ.le hS.ext.size
 obtain ⟨a6, c6, rfl⟩ := hO.shape
 have hvl := hQ.1
 replace hx := hx.st hS'
 replace hbx := hbx.st (by decide) hS'
 replace hS := hS.trans hS'
 clear hS'
 refine sv5w hK hF (v_move rfl) (v_ext rfl rfl) (v_ext rfl rfl) (v_assign rfl) (v_assign rfl) rfl rfl rfl rfl rfl ?_; clear hF a hK K; intro a hF
 replace hF := hF.sub _ (c_ 7 rfl (c_ 6 rfl (c_ 5 rfl (c_ 4 rfl (c_ 2 rfl n_)))))
 refine W_seq ?_
 refine W_sr rfl fun K hK => ?_
 refine sv2w hK hF (v_move rfl) ((v_neq rfl rfl).as (congrArg Value.bool (decide_eq_false (fun h => h rfl)))) rfl rfl ?_; clear hF a hK K; intro a hF
 replace hF := hF.sub _ (c_ 16 rfl (c_ 7 rfl (c_ 6 rfl (c_ 5 rfl (c_ 4 rfl (c_ 2 rfl n_))))))
 refine W_ifF hF rfl ?_
 refine W_skip ?_
 refine W_sr rfl fun K hK => ?_
 refine sv hF (v_loadN Tryz.underlying30 rfl (by kernel_rfl) rfl hbx) rfl ?_; clear hF a; intro a hF
 refine sv hF (v_move rfl) rfl ?_; clear hF a; intro a hF
 refine sc hF rfl rfl rfl en76 rfl (CPar_ok B _ p k m PT hPar fldC a6 c6 vals (dataL p k bs) _ hS.inv hB hp hk hm (hO.row (by decide)) (hQ.rows (by decide)) (Nat.le_refl _) h8 hbl hlen2 hPl hdot) ?_; clear hF a; intro v w' a hv hF
 obtain ⟨sl, ob8, pv, rfl, hP, hQP, hS'⟩ := hv
 replace hP := hP.le hS.ext.size
 replace hQP := hQP.le hS.ext.size
 obtain ⟨a8, c8, rfl⟩ := hP.shape
 have hpl := hQP.1
 rw [List.length_map, hPl] at hpl
 replace hx := hx.st hS'
 replace hbx := hbx.st (by decide) hS'
 replace hO := hO.st (by decide) hS'
 replace hQ := hQ.st (by decide) hS'
 replace hS := hS.trans hS'
 clear hS'
 refine sv5w hK hF (v_move rfl) (v_ext rfl rfl) (v_ext rfl rfl) (v_assign rfl) (v_assign rfl) rfl rfl rfl rfl rfl ?_; clear hF a hK K; intro a hF
 replace hF := hF.sub _ (c_ 7 rfl (c_ 8 rfl (c_ 6 rfl (c_ 5 rfl (c_ 4 rfl n_)))))
 refine W_sr rfl fun K hK => ?_
 refine sv2 hF (v_move rfl) (v_move rfl) rfl rfl ?_; clear hF a; intro a hF
 refine s_app (D := FDx) (B := B) hF rfl sl48 rfl rfl hO (hP.row (by decide)) (by intro u hu; obtain ⟨j, hj⟩ := List.getElem?_of_mem hu; obtain ⟨y, hy⟩ : ∃ y, ((PT p k m).map fun r => (rdot (some (fldN p)) r (dataL p k bs)).getD [])[j]? = some y := ⟨_, List.getElem?_eq_getElem (by rw [← hQP.1]; exact (List.getElem?_eq_some_iff.1 hj).1)⟩; obtain ⟨_, ho9⟩ := hQP.2 j u y hj hy; obtain ⟨_, _, rfl⟩ := ho9.shape; rfl) (by omega) (by simp only [maxLen]; omega) (hS.ext.size) (by decide) hS.inv rfl ?_; clear hF a; intro v' b' w' a ho' hm hI' hb' hF
 replace hx := hx.mb hm (fun k h => Nat.le_trans (by omega) (hO.lt k h).1)
 replace hbx := hbx.mb hm (hbx.ne_own hO (by decide))
 replace hQ := hQ.mb hO (by decide) hm
 replace hQP := hQP.mb hO (by decide) hm
 replace hS := hS.mb hm (fun k h => Nat.le_trans (Nat.le_refl _) (hO.lt k h).1)
 replace hO := ho'
 clear hm hI' ho'
 refine sv3w hK hF (v_move rfl) (v_assign rfl) (v_assign rfl) rfl rfl rfl ?_; clear hF a hK K; intro a hF
 replace hF := hF.sub _ (c_ 5 rfl (c_ 4 rfl n_))
 refine W_ret ?_
 refine ⟨_, _, _, hF, rfl, rfl, ?_⟩
 exact ⟨_, _, _, rfl, hO, hQ.append hQP, hS⟩
theorem fine_ok (B p k m : Nat) (s2 : Option Addr) (c2 : Nat) (vals : List Value) (w : World) (hI : Inv FDx B w) (hB : 9 ≤ B) (hp : 1 ≤ p ∧ p ≤ 6) (hk : 1 ≤ k ∧ k ≤ 8) (hm : 1 ≤ m ∧ m ≤ maxN p) (hvl : vals.length = k + m) : Ret Tryz.prog 55 [.agg #[.int .i64 (p : Int), .int .i64 (k : Int), .int .i64 (m : Int)], .slice s2 vals.length c2] w fun v w' => v = .bool true ∧ St FDx B w w' := by
 refine enter 17 [(0, .agg #[.int .i64 (p : Int), .int .i64 (k : Int), .int .i64 (m : Int)]), (1, .slice s2 vals.length c2)] 4 Tryz.func55 rfl rfl rfl rfl rfl ?_; intro a hF
 have hS := St.refl hI
 have hm4 : m ≤ 4 := by have := hm.2; unfold maxN at this; split at this <;> omega
 refine W_sr rfl fun K hK => ?_
 refine s_box (D := FDx) (B := B) hF rfl (by decide) hS.inv rfl ?_; clear hF a; intro w' a hm hbx hsz hF
 replace hS := hS.mb0 hm
 clear hm
 refine svw hK hF (v_assign rfl) rfl ?_; clear hF a hK K; intro a hF
 replace hF := hF.sub _ (c_ 4 rfl (c_ 2 rfl (c_ 1 rfl n_)))
 refine W_sr rfl fun K hK => ?_
 refine sv hF (v_loadN Tryz.underlying30 rfl (by kernel_rfl) rfl hbx) rfl ?_; clear hF a; intro a hF
 refine sc hF rfl rfl rfl en38 rfl (PMay_ok B p k m _ hS.inv hB hp hk hm) ?_; clear hF a; intro v w' a hv hF
 obtain ⟨rfl, hS'⟩ := hv
 replace hbx := hbx.st (by decide) hS'
 replace hS := hS.trans hS'
 clear hS'
 refine sv hF (v_move rfl) rfl ?_; clear hF a; intro a hF
 refine svg hF rfl ?_
 refine sv hF (v_move rfl) rfl ?_; clear hF a; intro a hF
 refine svg hF rfl ?_
 refine sv hF (v_lenS rfl sl48 rfl) rfl ?_; clear hF a; intro a hF
 refine svg hF rfl ?_
 refine sv hF (v_fieldAddr fa30_1 rfl) rfl ?_; clear hF a; intro a hF
 refine svg hF rfl ?_
 refine sv hF (v_load sc3 rfl (hbx.at 1 rfl)) rfl ?_; clear hF a; intro a hF
 refine svg hF rfl ?_
 refine sv hF (v_fieldAddr fa30_2 rfl) rfl ?_; clear hF a; intro a hF
 refine svg hF rfl ?_
 refine sv hF (v_load sc3 rfl (hbx.at 2 rfl)) rfl ?_; clear hF a; intro a hF
 refine svg hF rfl ?_
 refine sv hF (v_addI rfl rfl (by omega)) rfl ?_; clear hF a; intro a hF
 refine svg hF rfl ?_
 refine sv3w hK hF ((v_eql rfl rfl).as (congrArg Value.bool (decide_eq_true (by omega)))) (v_pickT rfl rfl) (v_assign rfl) rfl rfl rfl ?_; clear hF a hK K; intro a hF
 replace hF := hF.sub _ (c_ 4 rfl n_)
 refine W_ret ?_
 refine ⟨_, _, hF, rfl, ?_⟩
 exact ⟨rfl, hS⟩
theorem even_ok (B p k m : Nat) (px : Option Addr) (cx : Nat) (bs : List Nat) (w : World) (hI : Inv FDx B w) (hp : 1 ≤ p ∧ p ≤ 6) (hev : p = 2 → bs.length % 2 = 0) : Ret Tryz.prog 57 [.agg #[.int .i64 (p : Int), .int .i64 (k : Int), .int .i64 (m : Int)], .slice px bs.length cx] w fun v w' => v = .bool true ∧ St FDx B w w' := by
 refine enter 22 [(0, .agg #[.int .i64 (p : Int), .int .i64 (k : Int), .int .i64 (m : Int)]), (1, .slice px bs.length cx)] 4 Tryz.func57 rfl rfl rfl rfl rfl ?_; intro a hF
 have hS := St.refl hI
 refine W_sr rfl fun K hK => ?_
 refine s_box (D := FDx) (B := B) hF rfl (by decide) hS.inv rfl ?_; clear hF a; intro w' a hm hbx hsz hF
 replace hS := hS.mb0 hm
 clear hm
 refine svw hK hF (v_assign rfl) rfl ?_; clear hF a hK K; intro a hF
 replace hF := hF.sub _ (c_ 4 rfl (c_ 2 rfl (c_ 1 rfl n_)))
 refine W_sr rfl fun K hK => ?_
 refine sv2 hF (v_fieldAddr fa30_0 rfl) (v_load sc3 rfl (hbx.at 0 rfl)) rfl rfl ?_; clear hF a; intro a hF
 refine sc hF rfl rfl rfl en106 rfl (POf_ok B (p : Int) _ hS.inv) ?_; clear hF a; intro v w' a hv hF
 obtain ⟨rfl, hS'⟩ := hv
 replace hbx := hbx.st (by decide) hS'
 replace hS := hS.trans hS'
 clear hS'
 refine sv3 hF (v_move rfl) (v_ext rfl rfl) (v_ext rfl rfl) rfl rfl rfl ?_; clear hF a; intro a hF
 have hs0 := hS.ext.size
 refine s_allocN (D := FDx) (B := B) (z := .agg prz.toArray) hF (by kernel_rfl) (by decide) hS.inv rfl ?_; clear hF a; intro gR w' a hm hI' hR hF
 replace hbx := hbx.mb hm (by simp)
 replace hS := hS.mb0 hm
 clear hm hI'
 replace hR := hR.le hs0
 clear hs0
 refine s_storeN (D := FDx) (B := B) hF (by rw [List.size_toArray, prOf_len]; kernel_rfl) rfl rfl (prOf_one (p : Int)) (by rw [List.size_toArray, prOf_len]; rfl) hR hS.inv ?_; intro w' hm hI' hrc'
 replace hbx := hbx.mb hm (by intro e; cases e; exact absurd hR.blk (by intro e2; have := hbx.symm.trans e2; cases this))
 replace hS := hS.mb hm (fun k h => by cases h; exact hR.low)
 replace hR := hrc'
 clear hm hI' hrc'
 refine svw hK hF (v_assign rfl) rfl ?_; clear hF a hK K; intro a hF
 replace hF := hF.sub _ (c_ 5 rfl (c_ 4 rfl (c_ 1 rfl n_)))
 have hbt : (pfl (p : Int)).1 = 16 → p = 2 := by unfold pfl; split <;> intro h <;> omega
 refine W_sr rfl fun K hK => ?_
 refine sv2 hF (v_fieldAddr fa180_1 rfl) (v_load sc3 rfl ((hR.kc 1 (prOf_bits (by omega) (by omega))).c)) rfl rfl ?_; clear hF a; intro a hF
 refine sb hF (v_neq rfl rfl) rfl ?_ ?_
 ·
  clear hF a; intro hc1 a hF
  try simp only [dcl] at hc1
  refine sv hF (v_move rfl) rfl ?_; clear hF a; intro a hF
  refine svn4 hF rfl rfl rfl rfl rfl rfl rfl rfl rfl rfl rfl rfl ?_; clear hF a; intro a hF
  refine sv2w hK hF (v_pickT rfl rfl) (v_assign rfl) rfl rfl ?_; clear hF a hK K; intro a hF
  replace hF := hF.sub _ (c_ 4 rfl n_)
  refine W_ret ?_
  refine ⟨_, _, hF, rfl, ?_⟩
  exact ⟨rfl, hS⟩
 clear hF a; intro hc1 a hF
 try simp only [dcl] at hc1
 refine sv hF (v_move rfl) rfl ?_; clear hF a; intro a hF
 refine svg hF rfl ?_
 refine sv hF (v_move rfl) rfl ?_; clear hF a; intro a hF
 refine svg hF rfl ?_
 refine sv hF (v_lenS rfl sl23 rfl) rfl ?_; clear hF a; intro a hF
 refine svg hF rfl ?_
 refine sv hF (v_remI rfl rfl (by omega) (by omega)) rfl ?_; clear hF a; intro a hF
 refine svg hF rfl ?_
 refine sv hF ((v_eql rfl rfl).as (congrArg Value.bool (decide_eq_true (by have := hev (hbt (by omega)); omega)))) rfl ?_; clear hF a; intro a hF
 refine sv2w hK hF (v_pickF rfl rfl) (v_assign rfl) rfl rfl ?_; clear hF a hK K; intro a hF
 replace hF := hF.sub _ (c_ 4 rfl n_)
 refine W_ret ?_
 refine ⟨_, _, hF, rfl, ?_⟩
 exact ⟨rfl, hS⟩
theorem Up1_ok (B g n ln : Nat) (px sb : Option Addr) (cx cb : Nat) (w : World) (hI : Inv FDx B w) (hk : KC FDx B w ⟨g, 0, none⟩ (.slice px n cx)) (hn : ln = n) : Ret Tryz.prog 77 [.slice sb ln cb, .pointer (some ⟨g, 0, none⟩)] w fun v w' => v = .bool false ∧ St FDx B w w' := by
 refine enter 9 [(0, .slice sb ln cb), (1, .pointer (some ⟨g, 0, none⟩))] 3 Tryz.func77 rfl rfl rfl rfl rfl ?_; intro a hF
 have hS := St.refl hI
 refine W_sr rfl fun K hK => ?_
 refine svw hK hF (v_assign rfl) rfl ?_; clear hF a hK K; intro a hF
 refine W_sr rfl fun K hK => ?_
 refine sv6w hK hF (v_move rfl) (v_lenS rfl sl23 rfl) (v_load sc23 rfl hk.c) (v_lenS rfl sl23 rfl) ((v_neq rfl rfl).as (congrArg Value.bool (decide_eq_false (by omega)))) (v_assign rfl) rfl rfl rfl rfl rfl rfl ?_; clear hF a hK K; intro a hF
 replace hF := hF.sub _ (c_ 3 rfl n_)
 refine W_ret ?_
 refine ⟨_, _, hF, rfl, ?_⟩
 exact ⟨rfl, hS⟩
theorem BIdx_ok (B M g n : Nat) (s2 px : Option Addr) (c2 cx : Nat) (vals : List Value) (bss : List (List Nat)) (w : World) (hI : Inv FDx B w) (hR : Row FDx B M w (.slice s2 vals.length c2) vals) (hR2 : Rows2 FDx B M w vals bss) (hk : KC FDx B w ⟨g, 0, none⟩ (.slice px n cx)) (hn : ∀ b ∈ bss, b.length = n) (hlen : bss.length ≤ 1000) : Ret Tryz.prog 129 [.slice s2 vals.length c2, .func (.func 77) ([] : List Value).toArray ([.pointer (some ⟨g, 0, none⟩)] : List Value).toArray] w fun v w' => v = .int .i64 (-1) ∧ St FDx B w w' := by
 refine enter 19 [(0, .slice s2 vals.length c2), (1, .func (.func 77) ([] : List Value).toArray ([.pointer (some ⟨g, 0, none⟩)] : List Value).toArray)] 4 Tryz.func129 rfl rfl rfl rfl rfl ?_; intro a hF
 have hS := St.refl hI
 have hvl := hR2.1
 refine W_sr rfl fun K hK => ?_
 refine svw hK hF (v_assign rfl) rfl ?_; clear hF a hK K; intro a hF
 refine W_seq ?_
 refine W_sr rfl fun K hK => ?_
 refine sv3w hK hF (v_move rfl) (v_lenS rfl sl48 rfl) (v_move rfl) rfl rfl rfl ?_; clear hF a hK K; intro a hF
 replace hF := hF.sub _ (c_ 8 rfl (c_ 7 rfl (c_ 4 rfl (c_ 0 rfl (c_ 1 rfl n_)))))
 refine W_block ?_
 refine W_loop (fun q a w1 => ∃ (i : Nat), Fr 19 [(0, .slice s2 vals.length c2), (1, .func (.func 77) ([] : List Value).toArray ([.pointer (some ⟨g, 0, none⟩)] : List Value).toArray), (7, .int .i64 (vals.length : Int)), (8, .int .i64 (i : Int))] a ∧ (St FDx B w w1) ∧ (Row FDx B M w1 (.slice s2 vals.length c2) vals) ∧ (Rows2 FDx B M w1 vals bss) ∧ (KC FDx B w1 ⟨g, 0, none⟩ (.slice px n cx)) ∧ (i ≤ bss.length) ∧ (q + i = bss.length)) (bss.length) ?_ ?_
 · skip
   exact ⟨0, hF.sub _ (c_ 0 rfl (c_ 1 rfl (c_ 7 rfl (c_ 8 rfl n_)))), hS, hR, hR2, hk, by omega, by omega⟩
 skip
 clear hF
 clear hS hR hR2 hk
 rintro q a w1 ⟨i, hF, hS, hR, hR2, hk, hi, hq⟩
 refine W_sr rfl fun K hK => ?_
 refine svw hK hF (v_lss rfl rfl) rfl ?_; clear hF a hK K; intro a hF
 refine W_seq ?_
 refine W_if hF rfl (fun hc1 => ?_) (fun hc1 => ?_)
 ·
  skip
  try simp only [dcl] at hc1
  have hlt : i < bss.length := by omega
  obtain ⟨r, hr⟩ : ∃ z, bss[i]? = some z := ⟨_, List.getElem?_eq_getElem hlt⟩
  obtain ⟨gx, ox, pr, cr, hgx, hkc, hrow, -, -⟩ := hR2.get hR hr
  have hrl := hn r (List.mem_of_getElem? hr)
  subst hgx
  refine W_skip ?_
  refine W_seq ?_
  refine W_block ?_
  refine W_sr rfl fun K hK => ?_
  refine sv2w hK hF (v_move rfl) (v_assign rfl) rfl rfl ?_; clear hF a hK K; intro a hF
  replace hF := hF.sub _ (c_ 5 rfl (c_ 0 rfl (c_ 1 rfl (c_ 7 rfl (c_ 8 rfl n_)))))
  refine W_sr rfl fun K hK => ?_
  refine sv4 hF (v_move rfl) (v_move rfl) (v_move rfl) (v_ixS sl48 rfl rfl (by omega) (by omega)) rfl rfl rfl rfl ?_; clear hF a; intro a hF
  refine sv hF (v_load sc23 rfl (by rw [toNat_c]; exact hkc.c)) rfl ?_; clear hF a; intro a hF
  refine sc hF rfl rfl rfl en77 rfl (Up1_ok B g n r.length px pr cx cr _ hS.inv hk hrl) ?_; clear hF a; intro v w' a hv hF
  obtain ⟨rfl, hS'⟩ := hv
  replace hR := hR.st hS'
  replace hR2 := hR2.st hS'
  replace hk := hk.st hS'
  replace hS := hS.trans hS'
  clear hS'
  refine wn hK ?_
  clear hK K
  replace hF := hF.sub _ (c_ 16 rfl (c_ 5 rfl (c_ 0 rfl (c_ 1 rfl (c_ 7 rfl (c_ 8 rfl n_))))))
  refine W_ifF hF rfl ?_
  refine W_skip ?_
  refine W_reg rfl fun K hK => ?_
  refine sv2w hK hF (v_addI rfl rfl (by omega)) (v_move rfl) rfl rfl ?_; clear hF a hK K; intro a hF
  replace hF := hF.sub _ (c_ 8 rfl (c_ 18 rfl (c_ 0 rfl (c_ 1 rfl (c_ 7 rfl n_)))))
  exact ⟨q - 1, by omega, i + 1, hF.sub _ (c_ 0 rfl (c_ 1 rfl (c_ 7 rfl (c_ 8 rfl n_)))), hS, hR, hR2, hk, by omega, by omega⟩
 skip
 try simp only [dcl] at hc1
 refine W_exit rfl ?_
 refine W_sr rfl fun K hK => ?_
 refine svw hK hF (v_assign rfl) rfl ?_; clear hF a hK K; intro a hF
 replace hF := hF.sub _ (c_ 4 rfl (c_ 0 rfl (c_ 1 rfl (c_ 7 rfl (c_ 8 rfl n_)))))
 refine W_ret ?_
 refine ⟨_, _, hF, rfl, ?_⟩
 exact ⟨rfl, hS⟩
theorem BCont_ok (B M g n : Nat) (s2 px : Option Addr) (c2 cx : Nat) (vals : List Value) (bss : List (List Nat)) (w : World) (hI : Inv FDx B w) (hR : Row FDx B M w (.slice s2 vals.length c2) vals) (hR2 : Rows2 FDx B M w vals bss) (hk : KC FDx B w ⟨g, 0, none⟩ (.slice px n cx)) (hn : ∀ b ∈ bss, b.length = n) (hlen : bss.length ≤ 1000) : Ret Tryz.prog 61 [.slice s2 vals.length c2, .func (.func 77) ([] : List Value).toArray ([.pointer (some ⟨g, 0, none⟩)] : List Value).toArray] w fun v w' => v = .bool false ∧ St FDx B w w' := by
 refine enter 9 [(0, .slice s2 vals.length c2), (1, .func (.func 77) ([] : List Value).toArray ([.pointer (some ⟨g, 0, none⟩)] : List Value).toArray)] 4 Tryz.func61 rfl rfl rfl rfl rfl ?_; intro a hF
 have hS := St.refl hI
 refine W_sr rfl fun K hK => ?_
 refine svw hK hF (v_assign rfl) rfl ?_; clear hF a hK K; intro a hF
 refine W_sr rfl fun K hK => ?_
 refine sv2 hF (v_move rfl) (v_move rfl) rfl rfl ?_; clear hF a; intro a hF
 refine sc hF rfl rfl rfl en129 rfl (BIdx_ok B M g n s2 px c2 cx vals bss _ hS.inv hR hR2 hk hn hlen) ?_; clear hF a; intro v w' a hv hF
 obtain ⟨rfl, hS'⟩ := hv
 replace hS := hS.trans hS'
 clear hS'
 refine sv2w hK hF ((v_geq rfl rfl).as (congrArg Value.bool (decide_eq_false (by decide)))) (v_assign rfl) rfl rfl ?_; clear hF a hK K; intro a hF
 replace hF := hF.sub _ (c_ 4 rfl n_)
 refine W_ret ?_
 refine ⟨_, _, hF, rfl, ?_⟩
 exact ⟨rfl, hS⟩
end Go.Proofs.YtoabojbpeafdkaaGreatDoor
/- The walks of recon.Update, gambrelref10.Same. -/
namespace Go.Proofs.YtoabojbpeafdkaaGreatDoor
open Go Go.Gam
namespace FxFUpd
theorem en55 : Ent Tryz.prog 55 := ent Tryz.func55 (by kernel_rfl) (by kernel_rfl)
theorem en57 : Ent Tryz.prog 57 := ent Tryz.func57 (by kernel_rfl) (by kernel_rfl)
theorem en60 : Ent Tryz.prog 60 := ent Tryz.func60 (by kernel_rfl) (by kernel_rfl)
theorem en61 : Ent Tryz.prog 61 := ent Tryz.func61 (by kernel_rfl) (by kernel_rfl)
theorem en69 : Ent Tryz.prog 69 := ent Tryz.func69 (by kernel_rfl) (by kernel_rfl)
theorem en78 : Ent Tryz.prog 78 := ent Tryz.func78 (by kernel_rfl) (by kernel_rfl)
theorem en79 : Ent Tryz.prog 79 := ent Tryz.func79 (by kernel_rfl) (by kernel_rfl)
theorem en80 : Ent Tryz.prog 80 := ent Tryz.func80 (by kernel_rfl) (by kernel_rfl)
theorem fa30_0 : FieldFact Tryz.prog 30 0 0 := ff_of (sz := 0) Tryz.underlying30 (by kernel_rfl)
theorem fa30_1 : FieldFact Tryz.prog 30 1 1 := ff_of (sz := 0) Tryz.underlying30 (by kernel_rfl)
theorem hmix : Tryz.prog.follows .mixedOrders = true := by kernel_rfl
theorem on23 : Gam.One Tryz.prog 23 := by unfold Gam.One; kernel_rfl
theorem sc23 : Scalar Tryz.prog 23 := ⟨_, Tryz.underlying23, by simp, by simp⟩
theorem sc3 : Scalar Tryz.prog 3 := ⟨_, Tryz.underlying3, by simp, by simp⟩
theorem sc49 : Scalar Tryz.prog 49 := ⟨_, Tryz.underlying49, by simp, by simp⟩
theorem sl134 : Sl Tryz.prog 134 49 (.slice none 0 0) 24 := sl_of Tryz.underlying134 rfl (by kernel_rfl)
theorem sl23 : Sl Tryz.prog 23 5 (.int .u8 0) 1 := sl_of Tryz.underlying23 rfl (by kernel_rfl)
theorem sl48 : Sl Tryz.prog 48 23 (.slice none 0 0) 24 := sl_of Tryz.underlying48 rfl (by kernel_rfl)
theorem sl49 : Sl Tryz.prog 49 3 (.int .i64 0) 8 := sl_of Tryz.underlying49 rfl (by kernel_rfl)
end FxFUpd
open FxFUpd
theorem Upd_ok (B M p k m i : Nat) (PT : Nat → Nat → Nat → Mtx) (hPar : ParC PT) (s2 px : Option Addr) (c2 cx : Nat) (vals : List Value) (bss : List (List Nat)) (bs : List Nat) (w : World) (hI : Inv FDx B w) (hB : 9 ≤ B) (hp : 1 ≤ p ∧ p ≤ 6) (hk : 1 ≤ k ∧ k ≤ 8) (hm : 1 ≤ m ∧ m ≤ maxN p) (hR : Row FDx B M w (.slice s2 vals.length c2) vals) (hR2 : Rows2 FDx B M w vals bss) (hM : M ≤ w.heap.size) (h8 : ∀ b ∈ bss, ∀ x ∈ b, x < 256) (hxb : Row FDx B M w (.slice px bs.length cx) (byt bs)) (hb8 : ∀ x ∈ bs, x < 256) (hl : bs.length ≤ 10000) (hn : ∀ b ∈ bss, b.length = bs.length) (hbl : bss.length = k + m) (hi : i < k) (hev : p = 2 → bs.length % 2 = 0) (hPl : (PT p k m).length = m) (hPk : ∀ r ∈ PT p k m, r.length = k) : Ret Tryz.prog 24 [.agg #[.int .i64 (p : Int), .int .i64 (k : Int), .int .i64 (m : Int)], .slice s2 vals.length c2, .int .i64 (i : Int), .slice px bs.length cx] w fun v w' => ∃ sl ob pv, v = .tuple #[sl, .int .i64 0] ∧ Gam.Own FDx B w.heap.size w' 23 sl ob pv ∧ Owns2 FDx B w.heap.size w' 5 pv ((updG (some (fldN p)) (PT p k m) k i (xorB (bss.getD i []) bs) bss (k + m)).set i bs) ∧ St FDx B w w' := by
 refine enter2 106 [(0, .agg #[.int .i64 (p : Int), .int .i64 (k : Int), .int .i64 (m : Int)]), (1, .slice s2 vals.length c2), (2, .int .i64 (i : Int)), (3, .slice px bs.length cx)] 8 9 Tryz.func24 rfl rfl rfl rfl rfl ?_; intro a hF
 have hS := St.refl hI
 have hvl := hR2.1
 have hm4 : m ≤ 4 := by have := hm.2; unfold maxN at this; split at this <;> omega
 obtain ⟨xo, hxo⟩ : ∃ x, bss[i]? = some x := ⟨_, List.getElem?_eq_getElem (by omega)⟩
 have hxl := hn xo (List.mem_of_getElem? hxo)
 have hx8 := h8 xo (List.mem_of_getElem? hxo)
 obtain ⟨d, hd⟩ : ∃ d, d = xorB xo bs := ⟨_, rfl⟩
 have hrs : rsum [xo, bs] = some d := by rw [rsum2, if_pos hxl, hd]
 have hdl : d.length = bs.length := by rw [hd, xorB_len hxl]; exact hxl
 have hd8 : ∀ x ∈ d, x < 256 := by rw [hd]; exact xorB_lt hx8 hb8
 have hxg : bss.getD i [] = xo := by rw [List.getD_eq_getElem?_getD, hxo]; rfl
 obtain ⟨g2, o2, -, -, hs2, -, -, -, -⟩ := hR2.get hR hxo
 subst hs2
 refine W_sr rfl fun K hK => ?_
 refine s_box (D := FDx) (B := B) hF rfl (by decide) hS.inv rfl ?_; clear hF a; intro w' a hm hbx hsz hF
 replace hR := hR.mb hm (fun _ h => by cases h)
 replace hR2 := hR2.mb hm (fun _ h => by cases h)
 replace hxb := hxb.mb hm (fun _ h => by cases h)
 replace hS := hS.mb0 hm
 clear hm
 have hlb := heap_lt hbx
 obtain ⟨g7, hg7⟩ : ∃ g, g = w'.heap.size := ⟨_, rfl⟩
 refine s_boxN (D := FDx) (B := B) hF rfl (rfl) (by decide) hS.inv rfl ?_; clear hF a; intro w' a hm hI' hb7 hsz hF
 replace hR := hR.mb hm (fun _ h => by cases h)
 replace hR2 := hR2.mb hm (fun _ h => by cases h)
 replace hxb := hxb.mb hm (fun _ h => by cases h)
 replace hbx := hbx.mb hm (by simp)
 replace hS := hS.mb0 hm
 clear hm hI' hsz
 rw [← hg7] at hb7 hF
 have hs7 := hS.ext.size
 refine sv2w hK hF (v_assign rfl) (v_assign rfl) rfl rfl ?_; clear hF a hK K; intro a hF
 replace hF := hF.sub _ (c_ 9 rfl (c_ 8 rfl (c_ 7 rfl (c_ 4 rfl (c_ 1 rfl (c_ 2 rfl n_))))))
 refine W_seq ?_
 refine W_sr rfl fun K hK => ?_
 refine sv hF (v_loadN Tryz.underlying30 rfl (by kernel_rfl) rfl hbx) rfl ?_; clear hF a; intro a hF
 refine sv hF (v_move rfl) rfl ?_; clear hF a; intro a hF
 refine sc hF rfl rfl rfl en55 rfl (fine_ok B p k m _ c2 vals _ hS.inv hB hp hk hm (by omega)) ?_; clear hF a; intro v w' a hv hF
 obtain ⟨rfl, hS'⟩ := hv
 replace hR := hR.st hS'
 replace hR2 := hR2.st hS'
 replace hxb := hxb.st hS'
 replace hbx := hbx.st (by decide) hS'
 replace hb7 := hb7.st hS'
 replace hS := hS.trans hS'
 clear hS'
 refine sv2 hF (v_not rfl) (v_move rfl) rfl rfl ?_; clear hF a; intro a hF
 refine svg hF rfl ?_
 refine sv hF (v_move rfl) rfl ?_; clear hF a; intro a hF
 refine svg hF rfl ?_
 refine sv3 hF ((v_lss rfl rfl).as (congrArg Value.bool (decide_eq_false (by omega)))) (v_pickF rfl rfl) (v_move rfl) rfl rfl rfl ?_; clear hF a; intro a hF
 refine svg hF rfl ?_
 refine sv hF (v_move rfl) rfl ?_; clear hF a; intro a hF
 refine svg hF rfl ?_
 refine sv hF (v_fieldAddr fa30_1 rfl) rfl ?_; clear hF a; intro a hF
 refine svg hF rfl ?_
 refine sv hF (v_load sc3 rfl (hbx.at 1 rfl)) rfl ?_; clear hF a; intro a hF
 refine svg hF rfl ?_
 refine sv3 hF ((v_geq rfl rfl).as (congrArg Value.bool (decide_eq_false (by omega)))) (v_pickF rfl rfl) (v_move rfl) rfl rfl rfl ?_; clear hF a; intro a hF
 refine svg hF rfl ?_
 refine sv hF (v_loadN Tryz.underlying30 rfl (by kernel_rfl) rfl hbx) rfl ?_; clear hF a; intro a hF
 refine svg hF rfl ?_
 refine sv hF (v_load sc23 rfl hb7.at) rfl ?_; clear hF a; intro a hF
 refine svg hF rfl ?_
 refine sc hF rfl rfl rfl en57 rfl (even_ok B p k m px cx bs _ hS.inv hp hev) ?_; clear hF a; intro v w' a hv hF
 obtain ⟨rfl, hS'⟩ := hv
 replace hR := hR.st hS'
 replace hR2 := hR2.st hS'
 replace hxb := hxb.st hS'
 replace hbx := hbx.st (by decide) hS'
 replace hb7 := hb7.st hS'
 replace hS := hS.trans hS'
 clear hS'
 refine svg hF rfl ?_
 refine sv2w hK hF (v_not rfl) (v_pickF rfl rfl) rfl rfl ?_; clear hF a hK K; intro a hF
 replace hF := hF.sub _ (c_ 39 rfl (c_ 9 rfl (c_ 8 rfl (c_ 7 rfl (c_ 4 rfl (c_ 1 rfl (c_ 2 rfl n_)))))))
 refine W_ifF hF rfl ?_
 refine W_skip ?_
 refine W_seq ?_
 refine W_sr rfl fun K hK => ?_
 refine sv2 hF (v_move rfl) (v_mkf (cs := [.tmp 7]) (vs := [.pointer (some ⟨g7, 0, none⟩)]) rfl) rfl rfl ?_; clear hF a; intro a hF
 refine sc hF rfl rfl rfl en61 rfl (BCont_ok B M g7 bs.length _ px c2 cx vals bss _ hS.inv hR hR2 hb7.kc hn (by omega)) ?_; clear hF a; intro v w' a hv hF
 obtain ⟨rfl, hS'⟩ := hv
 replace hR := hR.st hS'
 replace hR2 := hR2.st hS'
 replace hxb := hxb.st hS'
 replace hbx := hbx.st (by decide) hS'
 replace hb7 := hb7.st hS'
 replace hS := hS.trans hS'
 clear hS'
 refine wn hK ?_
 clear hK K
 replace hF := hF.sub _ (c_ 42 rfl (c_ 9 rfl (c_ 8 rfl (c_ 7 rfl (c_ 4 rfl (c_ 1 rfl (c_ 2 rfl n_)))))))
 refine W_ifF hF rfl ?_
 refine W_skip ?_
 refine W_sr rfl fun K hK => ?_
 refine sv2 hF (v_fieldAddr fa30_0 rfl) (v_load sc3 rfl (hbx.at 0 rfl)) rfl rfl ?_; clear hF a; intro a hF
 refine sc hF rfl rfl rfl en60 rfl (fldC B p _ hS.inv hB hp) ?_; clear hF a; intro v w' a hv hF
 obtain ⟨fv, hfv⟩ : ∃ x, x = v := ⟨_, rfl⟩
 subst hfv
 obtain ⟨hf, hS'⟩ := hv
 have hfz := fsz_le hf
 replace hR := hR.st hS'
 replace hR2 := hR2.st hS'
 replace hxb := hxb.st hS'
 replace hbx := hbx.st (by decide) hS'
 replace hb7 := hb7.st hS'
 replace hS := hS.trans hS'
 clear hS'
 refine svw hK hF (v_assign rfl) rfl ?_; clear hF a hK K; intro a hF
 replace hF := hF.sub _ (c_ 10 rfl (c_ 9 rfl (c_ 8 rfl (c_ 7 rfl (c_ 4 rfl (c_ 1 rfl (c_ 2 rfl n_)))))))
 refine W_sr rfl fun K hK => ?_
 refine sv hF (v_loadN Tryz.underlying30 rfl (by kernel_rfl) rfl hbx) rfl ?_; clear hF a; intro a hF
 refine sc hF rfl rfl rfl en78 rfl (hPar B p k m _ hS.inv hB hp hk hm) ?_; clear hF a; intro v w' a hv hF
 obtain ⟨sa, cap, rfl, hA, hS'⟩ := hv
 obtain ⟨M2, hM2⟩ : ∃ q, q = w'.heap.size := ⟨_, rfl⟩
 rw [← hM2] at hA
 replace hR := hR.st hS'
 replace hR2 := hR2.st hS'
 replace hxb := hxb.st hS'
 replace hbx := hbx.st (by decide) hS'
 replace hb7 := hb7.st hS'
 replace hf := hf.st hS'
 replace hS := hS.trans hS'
 clear hS'
 have hKs : M2 ≤ w'.heap.size := by omega
 have hNK : w.heap.size ≤ M2 := by rw [hM2]; exact hS.ext.size
 have hg7M : g7 < M2 := by rw [hM2]; exact heap_lt hb7.blk
 clear hM2
 refine sv5w hK hF (v_move rfl) (v_ext rfl rfl) (v_ext rfl rfl) (v_assign rfl) (v_assign rfl) rfl rfl rfl rfl rfl ?_; clear hF a hK K; intro a hF
 replace hF := hF.sub _ (c_ 11 rfl (c_ 10 rfl (c_ 9 rfl (c_ 8 rfl (c_ 7 rfl (c_ 4 rfl (c_ 1 rfl (c_ 2 rfl n_))))))))
 refine W_sd (m := 11) rfl hmix hS.inv (fun K hK w1 hS' hh => ?_)
 replace hR := hR.st hS'
 replace hR2 := hR2.st hS'
 replace hxb := hxb.st hS'
 replace hbx := hbx.st (by decide) hS'
 replace hb7 := hb7.st hS'
 replace hf := hf.st hS'
 replace hA := hA.st hS'
 replace hKs := Nat.le_trans hKs hS'.ext.size
 replace hS := hS.trans hS'
 clear hS'
 clear hh
 refine a_v (i := 0) rfl (by kernel_rfl) hF (fun w2 hx => v_move rfl) rfl ?_; clear hF a; intro a hF
 refine a_v (i := 1) rfl (by kernel_rfl) hF (fun w2 hx => v_move rfl) rfl ?_; clear hF a; intro a hF
 obtain ⟨gx, ox, pd, cd, hgx, hkc, hrow, -, -⟩ := hR2.get hR hxo
 cases hgx
 refine a_v (i := 2) rfl (by kernel_rfl) hF (fun w2 hx => v_ixS sl48 rfl rfl (by omega) (by omega)) rfl ?_; clear hF a; intro a hF
 refine a_v (i := 3) rfl (by kernel_rfl) hF (fun w2 hx => v_load sc23 rfl (by rw [toNat_c]; exact hkc.ld hx)) rfl ?_; clear hF a; intro a hF
 refine a_v (i := 4) rfl (by kernel_rfl) hF (fun w2 hx => v_load sc23 rfl (hb7.kc.ld hx)) rfl ?_; clear hF a; intro a hF
 refine a_e (i := 5) rfl (by kernel_rfl) ?_
 refine sc hF rfl rfl rfl en79 rfl (Add_reg B M pd px cd cx xo bs _ hS.inv hrow hxb (Nat.le_trans hM hS.ext.size) hx8 hb8 (by omega) (by omega)) ?_; clear hF a; intro v w' a hv hF
 clear hkc hrow
 obtain ⟨sl, obD, rfl, hD, hS'⟩ := hv
 rw [hrs] at hD hF
 simp only [Option.getD_some] at hD
 obtain ⟨sd, cd2, rfl⟩ := hD.shape
 rw [byt_length] at hD hF
 replace hD := hD.le hS.ext.size
 refine WL_nil ⟨hS'.ext, ?_⟩
 replace hR := hR.st hS'
 replace hR2 := hR2.st hS'
 replace hxb := hxb.st hS'
 replace hbx := hbx.st (by decide) hS'
 replace hb7 := hb7.st hS'
 replace hf := hf.st hS'
 replace hA := hA.st hS'
 replace hKs := Nat.le_trans hKs hS'.ext.size
 replace hS := hS.trans hS'
 clear hS'
 refine a_v (i := 6) rfl (by kernel_rfl) hF (fun w2 hx => v_move rfl) rfl ?_; clear hF a; intro a hF
 refine a_v (i := 7) rfl (by kernel_rfl) hF (fun w2 hx => v_ext rfl rfl) rfl ?_; clear hF a; intro a hF
 refine a_v (i := 8) rfl (by kernel_rfl) hF (fun w2 hx => v_ext rfl rfl) rfl ?_; clear hF a; intro a hF
 refine a_v (i := 9) rfl (by kernel_rfl) hF (fun w2 hx => v_assign rfl) rfl ?_; clear hF a; intro a hF
 refine a_v (i := 10) rfl (by kernel_rfl) hF (fun w2 hx => v_assign rfl) rfl ?_; clear hF a; intro a hF
 refine a_done (by kernel_rfl) (hK _ _ ?_)
 clear hK K
 replace hF := hF.sub _ (c_ 13 rfl (c_ 11 rfl (c_ 10 rfl (c_ 9 rfl (c_ 8 rfl (c_ 7 rfl (c_ 4 rfl (c_ 1 rfl (c_ 2 rfl n_)))))))))
 refine W_sr rfl fun K hK => ?_
 refine svw hK hF (v_assign rfl) rfl ?_; clear hF a hK K; intro a hF
 refine W_seq ?_
 refine W_sr rfl fun K hK => ?_
 refine sv3w hK hF (v_move rfl) (v_lenS rfl sl48 rfl) (v_move rfl) rfl rfl rfl ?_; clear hF a hK K; intro a hF
 replace hF := hF.sub _ (c_ 62 rfl (c_ 61 rfl (c_ 60 rfl (c_ 15 rfl (c_ 13 rfl (c_ 11 rfl (c_ 10 rfl (c_ 9 rfl (c_ 8 rfl (c_ 7 rfl (c_ 4 rfl (c_ 2 rfl n_))))))))))))
 refine W_block ?_
 refine W_loop (fun q a w1 => ∃ (j : Nat) (v15 : Value) (b15 : Option Nat) (vs : List Value), Fr 106 [(2, .int .i64 (i : Int)), (4, .pointer (some ⟨w.heap.size, 0, none⟩)), (7, .pointer (some ⟨g7, 0, none⟩)), (10, fv), (11, .slice sa m cap), (13, .slice sd d.length cd2), (15, v15), (60, .slice (some ⟨g2, o2, none⟩) vals.length c2), (61, .int .i64 (vals.length : Int)), (62, .int .i64 (j : Int))] a ∧ (St FDx B w w1) ∧ (Row FDx B M w1 (.slice (some ⟨g2, o2, none⟩) vals.length c2) vals) ∧ (Rows2 FDx B M w1 vals bss) ∧ (Row FDx B M w1 (.slice px bs.length cx) (byt bs)) ∧ (Blk w1 w.heap.size 30 [.int .i64 (p : Int), .int .i64 (k : Int), .int .i64 (m : Int)]) ∧ (Box FDx B g7 w1 g7 23 (.slice px bs.length cx)) ∧ (Mat FDx B M2 w1 sa cap (PT p k m)) ∧ (Fo FDx B w1 fv (some (fldN p))) ∧ (Gam.Own FDx B w.heap.size w1 5 (.slice sd d.length cd2) obD (byt d)) ∧ (Gam.Own FDx B M2 w1 23 v15 b15 vs) ∧ (Owns2 FDx B M2 w1 5 vs (updG (some (fldN p)) (PT p k m) k i d bss j)) ∧ (M2 ≤ w1.heap.size) ∧ (j ≤ k + m) ∧ (q + j = k + m)) (k + m) ?_ ?_
 · skip
   exact ⟨0, _, none, [], hF.sub _ (c_ 2 rfl (c_ 4 rfl (c_ 7 rfl (c_ 10 rfl (c_ 11 rfl (c_ 13 rfl (c_ 15 rfl (c_ 60 rfl (c_ 61 rfl (c_ 62 rfl n_)))))))))), hS, hR, hR2, hxb, hbx, hb7, hA, hf, hD, Gam.Own.nil _ _ _ _ _, Owns2.nil _ _ _ _ _, hKs, by omega, by omega⟩
 skip
 clear hF
 clear hS hR hR2 hxb hbx hb7 hA hf hD hKs
 rintro q a w1 ⟨j, v15, b15, vs, hF, hS, hR, hR2, hxb, hbx, hb7, hA, hf, hD, hO, hQ, hKs, hj, hq⟩
 refine W_sr rfl fun K hK => ?_
 refine svw hK hF (v_lss rfl rfl) rfl ?_; clear hF a hK K; intro a hF
 refine W_seq ?_
 refine W_if hF rfl (fun hc1 => ?_) (fun hc1 => ?_)
 ·
  skip
  try simp only [dcl] at hc1
  have hlt : j < bss.length := by omega
  obtain ⟨s, hs⟩ : ∃ z, bss[j]? = some z := ⟨_, List.getElem?_eq_getElem hlt⟩
  obtain ⟨gx, ox, ps, cs, hgx, hkc, hrow, -, -⟩ := hR2.get hR hs
  cases hgx
  have hsl := hn s (List.mem_of_getElem? hs)
  have hs8 := h8 s (List.mem_of_getElem? hs)
  have hvl2 := hQ.1
  rw [updG_len] at hvl2
  refine W_skip ?_
  refine W_seq ?_
  refine W_block ?_
  refine W_sr rfl fun K hK => ?_
  refine sv2 hF (v_move rfl) (v_ixS sl48 rfl rfl (by omega) (by omega)) rfl rfl ?_; clear hF a; intro a hF
  refine sv hF (v_load sc23 rfl (by rw [toNat_c]; exact hkc.c)) rfl ?_; clear hF a; intro a hF
  refine sv2w hK hF (v_assign rfl) (v_assign rfl) rfl rfl ?_; clear hF a hK K; intro a hF
  replace hF := hF.sub _ (c_ 17 rfl (c_ 16 rfl (c_ 2 rfl (c_ 4 rfl (c_ 7 rfl (c_ 10 rfl (c_ 11 rfl (c_ 13 rfl (c_ 15 rfl (c_ 60 rfl (c_ 61 rfl (c_ 62 rfl n_))))))))))))
  refine W_cut (fun a w2 => ∃ (sy : Option Addr) (cy : Nat) (ys : List Nat), Fr 106 [(2, .int .i64 (i : Int)), (4, .pointer (some ⟨w.heap.size, 0, none⟩)), (7, .pointer (some ⟨g7, 0, none⟩)), (10, fv), (11, .slice sa m cap), (13, .slice sd d.length cd2), (15, v15), (60, .slice (some ⟨g2, o2, none⟩) vals.length c2), (61, .int .i64 (vals.length : Int)), (62, .int .i64 (j : Int)), (17, .slice sy ys.length cy)] a ∧ St FDx B w w2 ∧ Row FDx B M w2 (.slice (some ⟨g2, o2, none⟩) vals.length c2) vals ∧ Rows2 FDx B M w2 vals bss ∧ Row FDx B M w2 (.slice px bs.length cx) (byt bs) ∧ Blk w2 w.heap.size 30 [.int .i64 (p : Int), .int .i64 (k : Int), .int .i64 (m : Int)] ∧ Box FDx B g7 w2 g7 23 (.slice px bs.length cx) ∧ Mat FDx B M2 w2 sa cap (PT p k m) ∧ Fo FDx B w2 fv (some (fldN p)) ∧ Gam.Own FDx B w.heap.size w2 5 (.slice sd d.length cd2) obD (byt d) ∧ Gam.Own FDx B M2 w2 23 v15 b15 vs ∧ Owns2 FDx B M2 w2 5 vs (updG (some (fldN p)) (PT p k m) k i d bss j) ∧ M2 ≤ w2.heap.size ∧ Row FDx B w2.heap.size w2 (.slice sy ys.length cy) (byt ys) ∧ ys = updR (some (fldN p)) (PT p k m) k i d j s ∧ ys.length ≤ 10000) ?_ ?_
  ·
   skip
   refine W_sr rfl fun K hK => ?_
   refine sv4w hK hF (v_move rfl) (v_fieldAddr fa30_1 rfl) (v_load sc3 rfl (hbx.at 1 rfl)) (v_geq rfl rfl) rfl rfl rfl rfl ?_; clear hF a hK K; intro a hF
   replace hF := hF.sub _ (c_ 70 rfl (c_ 17 rfl (c_ 16 rfl (c_ 2 rfl (c_ 4 rfl (c_ 7 rfl (c_ 10 rfl (c_ 11 rfl (c_ 13 rfl (c_ 15 rfl (c_ 60 rfl (c_ 61 rfl (c_ 62 rfl n_)))))))))))))
   refine W_if hF rfl (fun hc2 => ?_) (fun hc2 => ?_)
   ·
    skip
    try simp only [dcl] at hc2
    have hjk : ¬ j < k := by omega
    obtain ⟨r, hr⟩ : ∃ z, (PT p k m)[j - k]? = some z := ⟨_, List.getElem?_eq_getElem (by omega)⟩
    obtain ⟨ga, oa, pr, cr, hga, hka, hra, -⟩ := hA.row hr
    have hrl := hPk r (List.mem_of_getElem? hr)
    obtain ⟨c, hc⟩ : ∃ z, r[i]? = some z := ⟨_, List.getElem?_eq_getElem (by omega)⟩
    obtain ⟨gc, oc, hgc, hkc2, -⟩ := hra.kat (zints_at hc)
    subst hga hgc
    obtain ⟨y, hy⟩ : ∃ y, y = (rmul (some (fldN p)) c d).getD [] := ⟨_, rfl⟩
    have hyb := rmul_getD hfz c d
    rw [← hy] at hyb
    refine W_sr rfl fun K hK => ?_
    refine sv5 hF (v_move rfl) (v_move rfl) (v_move rfl) (v_fieldAddr fa30_1 rfl) (v_load sc3 rfl (hbx.at 1 rfl)) rfl rfl rfl rfl rfl ?_; clear hF a; intro a hF
    refine sv hF ((v_subI rfl rfl (by omega)).as (show Value.int .i64 ((j : Int) - (k : Int)) = .int .i64 ((j - k : Nat) : Int) by congr 1; omega)) rfl ?_; clear hF a; intro a hF
    refine sv hF (v_ixS sl134 rfl rfl (by omega) (by omega)) rfl ?_; clear hF a; intro a hF
    refine sv hF (v_load sc49 rfl (by rw [toNat_c]; exact hka.c)) rfl ?_; clear hF a; intro a hF
    refine sv2 hF (v_move rfl) (v_ixS sl49 rfl rfl (by omega) (by omega)) rfl rfl ?_; clear hF a; intro a hF
    refine sv hF (v_load sc3 rfl (by rw [toNat_c]; exact hkc2.c)) rfl ?_; clear hF a; intro a hF
    refine sv hF (v_move rfl) rfl ?_; clear hF a; intro a hF
    refine sc hF rfl rfl rfl en80 rfl (Mul_reg B _ (some (fldN p)) fv c sd cd2 d _ hf hS.inv (hD.row (by decide)) (Nat.le_refl _) hd8 (by omega)) ?_; clear hF a; intro v w' a hv hF
    obtain ⟨sl, obC, rfl, hC, hS'⟩ := hv
    rw [← hy] at hC
    obtain ⟨ac, cc, rfl⟩ := hC.shape
    rw [byt_length] at hF
    replace hR := hR.st hS'
    replace hR2 := hR2.st hS'
    replace hxb := hxb.st hS'
    replace hbx := hbx.st (by decide) hS'
    replace hb7 := hb7.st hS'
    replace hA := hA.st hS'
    replace hf := hf.st hS'
    replace hD := hD.st (by decide) hS'
    replace hO := hO.st (by decide) hS'
    replace hQ := hQ.st (by decide) hS'
    replace hKs := Nat.le_trans hKs hS'.ext.size
    replace hrow := hrow.st hS'
    replace hS := hS.trans hS'
    clear hS'
    refine sv5w hK hF (v_move rfl) (v_ext rfl rfl) (v_ext rfl rfl) (v_assign rfl) (v_assign rfl) rfl rfl rfl rfl rfl ?_; clear hF a hK K; intro a hF
    replace hF := hF.sub _ (c_ 18 rfl (c_ 17 rfl (c_ 2 rfl (c_ 4 rfl (c_ 7 rfl (c_ 10 rfl (c_ 11 rfl (c_ 13 rfl (c_ 15 rfl (c_ 60 rfl (c_ 61 rfl (c_ 62 rfl n_))))))))))))
    refine W_reg rfl fun K hK => ?_
    refine sv2 hF (v_move rfl) (v_move rfl) rfl rfl ?_; clear hF a; intro a hF
    refine sc hF rfl rfl rfl en79 rfl (Add_reg B _ ps ac cs cc s y _ hS.inv (hrow.mono (Nat.le_trans hM hS.ext.size)) (by have h := hC.row (by decide); rw [byt_length] at h; exact h) (Nat.le_refl _) hs8 hyb.2 (by omega) (by omega)) ?_; clear hF a; intro v w' a hv hF
    clear hC hrow
    obtain ⟨sl, obY, rfl, hY, hS'⟩ := hv
    obtain ⟨ay, cy, rfl⟩ := hY.shape
    rw [byt_length] at hF
    replace hR := hR.st hS'
    replace hR2 := hR2.st hS'
    replace hxb := hxb.st hS'
    replace hbx := hbx.st (by decide) hS'
    replace hb7 := hb7.st hS'
    replace hA := hA.st hS'
    replace hf := hf.st hS'
    replace hD := hD.st (by decide) hS'
    replace hO := hO.st (by decide) hS'
    replace hQ := hQ.st (by decide) hS'
    replace hKs := Nat.le_trans hKs hS'.ext.size
    replace hS := hS.trans hS'
    clear hS'
    refine sv4w hK hF (v_move rfl) (v_ext rfl rfl) (v_ext rfl rfl) (v_assign rfl) rfl rfl rfl rfl ?_; clear hF a hK K; intro a hF
    replace hF := hF.sub _ (c_ 17 rfl (c_ 2 rfl (c_ 4 rfl (c_ 7 rfl (c_ 10 rfl (c_ 11 rfl (c_ 13 rfl (c_ 15 rfl (c_ 60 rfl (c_ 61 rfl (c_ 62 rfl n_)))))))))))
    have hlen2 := rsum_len2 s y
    exact ⟨_, _, _, hF.sub _ (c_ 2 rfl (c_ 4 rfl (c_ 7 rfl (c_ 10 rfl (c_ 11 rfl (c_ 13 rfl (c_ 15 rfl (c_ 60 rfl (c_ 61 rfl (c_ 62 rfl (c_ 17 rfl n_))))))))))), hS, hR, hR2, hxb, hbx, hb7, hA, hf, hD, hO, hQ, hKs, by have h := hY.row (by decide); rw [byt_length] at h; exact h, by rw [updR_hi hjk hr hc, hy], by omega⟩
   skip
   try simp only [dcl] at hc2
   refine W_skip ?_
   exact ⟨ps, cs, s, hF.sub _ (c_ 2 rfl (c_ 4 rfl (c_ 7 rfl (c_ 10 rfl (c_ 11 rfl (c_ 13 rfl (c_ 15 rfl (c_ 60 rfl (c_ 61 rfl (c_ 62 rfl (c_ 17 rfl n_))))))))))), hS, hR, hR2, hxb, hbx, hb7, hA, hf, hD, hO, hQ, hKs, hrow.mono (Nat.le_trans hM hS.ext.size), (updR_lo (by omega)).symm, by omega⟩
  skip
  clear hF
  clear hS hR hR2 hxb hbx hb7 hA hf hD hO hQ hKs hrow hkc
  rintro a w2 ⟨sy, cy, ys, hF, hS, hR, hR2, hxb, hbx, hb7, hA, hf, hD, hO, hQ, hKs, hY, hys, hyl⟩
  refine W_reg rfl fun K hK => ?_
  refine sv2 hF (v_move rfl) (v_move rfl) rfl rfl ?_; clear hF a; intro a hF
  refine sc hF rfl rfl rfl en69 rfl (BClone_ok B _ sy cy ys _ hS.inv hY (Nat.le_refl _) (by omega)) ?_; clear hF a; intro v w' a hv hF
  clear hY
  obtain ⟨obC, hC, hS'⟩ := hv
  replace hC := hC.le hKs
  obtain ⟨ac, cc, rfl⟩ := hC.shape
  replace hR := hR.st hS'
  replace hR2 := hR2.st hS'
  replace hxb := hxb.st hS'
  replace hbx := hbx.st (by decide) hS'
  replace hb7 := hb7.st hS'
  replace hA := hA.st hS'
  replace hf := hf.st hS'
  replace hD := hD.st (by decide) hS'
  replace hO := hO.st (by decide) hS'
  replace hQ := hQ.st (by decide) hS'
  replace hKs := Nat.le_trans hKs hS'.ext.size
  replace hS := hS.trans hS'
  clear hS'
  refine s_bs (D := FDx) (B := B) hF sl48 rfl rfl (by decide) (by simp [Value.cells]) (by decide) hS.inv rfl ?_; clear hF a; intro w' a hm hI' hL hF
  replace hR := hR.mb hm (fun _ h => by cases h)
  replace hR2 := hR2.mb hm (fun _ h => by cases h)
  replace hxb := hxb.mb hm (fun _ h => by cases h)
  replace hbx := hbx.mb hm (by simp)
  replace hb7 := hb7.mb hm (by simp)
  replace hA := hA.mb hm (fun _ h => by cases h)
  replace hf := hf.mb hm
  replace hD := hD.mb hm (fun _ _ => by simp)
  replace hO := hO.mb hm (fun _ _ => by simp)
  replace hQ := hQ.mb0 hm
  replace hKs := Nat.le_trans hKs hm.size
  replace hC := hC.mb hm (fun _ _ => by simp)
  replace hS := hS.mb0 hm
  clear hm hI'
  refine s_app (D := FDx) (B := B) hF rfl sl48 rfl rfl hO (hL.row (by decide)) (by simp [Value.oneCell']) (by simp; omega) (by simp [maxLen]; omega) (hKs) (by decide) hS.inv rfl ?_; clear hF a; intro v' b' w' a ho' hm hI' hb' hF
  replace hR := hR.mb hm (fun k h => Nat.le_trans (by omega) (hO.lt k h).1)
  replace hR2 := hR2.mb hm (fun k h => Nat.le_trans (by omega) (hO.lt k h).1)
  replace hxb := hxb.mb hm (fun k h => Nat.le_trans (by omega) (hO.lt k h).1)
  replace hbx := hbx.mb hm (Blk.ne_own hbx hO (by decide))
  replace hb7 := hb7.mb hm (by intro e; have h1 := (hO.lt _ e).1; have h2 := hg7M; omega)
  replace hA := hA.mb hm (fun k h => Nat.le_trans (Nat.le_refl _) (hO.lt k h).1)
  replace hf := hf.mb hm
  replace hD := hD.mb hm (hD.ne_type hO (by decide))
  replace hQ := hQ.mb hO (by decide) hm
  replace hKs := Nat.le_trans hKs hm.size
  replace hC := hC.mb hm (hC.ne_type hO (by decide))
  replace hS := hS.mb hm (fun k h => Nat.le_trans (hNK) (hO.lt k h).1)
  replace hO := ho'
  clear hm hI' ho'
  refine svw hK hF (v_assign rfl) rfl ?_; clear hF a hK K; intro a hF
  replace hF := hF.sub _ (c_ 15 rfl (c_ 2 rfl (c_ 4 rfl (c_ 7 rfl (c_ 10 rfl (c_ 11 rfl (c_ 13 rfl (c_ 60 rfl (c_ 61 rfl (c_ 62 rfl n_))))))))))
  refine W_reg rfl fun K hK => ?_
  refine sv2w hK hF (v_addI rfl rfl (by omega)) (v_move rfl) rfl rfl ?_; clear hF a hK K; intro a hF
  exact ⟨q - 1, by omega, j + 1, _, _, _, hF.sub _ (c_ 2 rfl (c_ 4 rfl (c_ 7 rfl (c_ 10 rfl (c_ 11 rfl (c_ 13 rfl (c_ 15 rfl (c_ 60 rfl (c_ 61 rfl (c_ 62 rfl n_)))))))))), hS, hR, hR2, hxb, hbx, hb7, hA, hf, hD, hO, by rw [updG_snoc hs, ← hys]; exact hQ.snoc hC, hKs, by omega, by omega⟩
 skip
 try simp only [dcl] at hc1
 obtain rfl : j = k + m := by omega
 refine W_exit rfl ?_
 have hvl2 := hQ.1
 rw [updG_len] at hvl2
 obtain ⟨g15, c15, rfl, rfl⟩ := hO.ptr (by omega)
 refine W_sr rfl fun K hK => ?_
 refine sv2 hF (v_move rfl) (v_move rfl) rfl rfl ?_; clear hF a; intro a hF
 have hKo := hKs
 obtain ⟨T, hT⟩ : ∃ t, t = w1.heap.size := ⟨_, rfl⟩
 have hTS : w.heap.size ≤ T := by rw [hT]; exact hS.ext.size
 have hTs : T ≤ w1.heap.size := by omega
 replace hQ := hQ.bound (T := T) (by omega)
 refine s_bs (D := FDx) (B := B) hF sl23 rfl rfl (by decide) (by simp [Value.cells]) (by decide) hS.inv rfl ?_; clear hF a; intro w' a hm hI' hN hF
 replace hxb := hxb.mb hm (fun _ h => by cases h)
 replace hb7 := hb7.mb hm (by simp)
 replace hO := hO.mb hm (fun _ _ => by simp)
 replace hQ := hQ.mb hm (fun _ h => by cases h)
 replace hKs := Nat.le_trans hKs hm.size
 replace hTs := Nat.le_trans hTs hm.size
 replace hS := hS.mb0 hm
 clear hm hI'
 replace hN := hN.le (show T ≤ _ by omega)
 refine sv hF (v_load sc23 rfl hb7.at) rfl ?_; clear hF a; intro a hF
 refine s_app (D := FDx) (B := B) hF rfl sl23 rfl rfl hN (hxb) (by intro u hu; obtain ⟨_, _, rfl⟩ := List.mem_map.1 hu; rfl) (by simp; omega) (by simp [maxLen]; omega) (hTs) (by decide) hS.inv rfl ?_; clear hF a; intro v' b' w' a ho' hm hI' hb' hF
 replace hxb := hxb.mb hm (fun k h => Nat.le_trans (by omega) (hN.lt k h).1)
 replace hb7 := hb7.mb hm (hb7.ne_own hN (by decide))
 replace hO := hO.mb hm (hO.ne_type hN (by decide))
 replace hQ := hQ.mb hm (fun k h => Nat.le_trans (Nat.le_refl _) (hN.lt k h).1)
 replace hKs := Nat.le_trans hKs hm.size
 replace hTs := Nat.le_trans hTs hm.size
 replace hS := hS.mb hm (fun k h => Nat.le_trans (hTS) (hN.lt k h).1)
 replace hN := ho'
 clear hm hI' ho'
 obtain ⟨an, cn, rfl⟩ := hN.shape
 replace hQ := hQ.owns2
 have hMT : M2 ≤ T := by rw [hT]; exact hKo
 refine sv hF (v_ixS sl48 rfl rfl (by omega) (by omega)) rfl ?_; clear hF a; intro a hF
 refine s_set (D := FDx) (B := B) hF on23 rfl (by rw [toNat_c]; omega) rfl rfl hO (by decide) hS.inv ?_; intro w' hm hI' ho'
 replace hN := hN.mb hm (hN.ne_type hO (by decide))
 replace hQ := hQ.mb hO (by decide) hm
 replace hS := hS.mb hm (fun k h => Nat.le_trans (hNK) (hO.lt k h).1)
 replace hO := ho'
 clear hm hI' ho'
 rw [toNat_c, Nat.zero_add] at hO
 refine wn hK ?_
 clear hK K
 replace hF := hF.sub _ (c_ 104 rfl (c_ 103 rfl (c_ 102 rfl (c_ 101 rfl (c_ 100 rfl (c_ 99 rfl (c_ 2 rfl (c_ 4 rfl (c_ 7 rfl (c_ 10 rfl (c_ 11 rfl (c_ 13 rfl (c_ 15 rfl (c_ 60 rfl (c_ 61 rfl (c_ 62 rfl n_))))))))))))))))
 refine W_sr rfl fun K hK => ?_
 refine sv3w hK hF (v_move rfl) (v_assign rfl) (v_assign rfl) rfl rfl rfl ?_; clear hF a hK K; intro a hF
 refine W_ret ?_
 refine ⟨_, _, _, hF, rfl, rfl, ?_⟩
 rw [hxg, ← hd]
 exact ⟨_, _, _, rfl, hO.le hNK, (hQ.set ((hN.le hMT).cast (List.nil_append _))).le hNK, hS⟩
theorem LSame_ok (B M : Nat) (sa sb : Option Addr) (ca cb : Nat) (va vb : List Value) (xa xb : List (List Nat)) (w : World) (hI : Inv FDx B w) (hRa : Row FDx B M w (.slice sa va.length ca) va) (hR2a : Rows2 FDx B M w va xa) (hRb : Row FDx B M w (.slice sb vb.length cb) vb) (hR2b : Rows2 FDx B M w vb xb) (ha8 : ∀ b ∈ xa, ∀ x ∈ b, x < 256) (hb8 : ∀ b ∈ xb, ∀ x ∈ b, x < 256) (hla : xa.length ≤ 1000) (hlb : xb.length = xa.length) : Ret Tryz.prog 25 [.slice sa va.length ca, .slice sb vb.length cb] w fun v w' => v = .bool (decide (xa = xb)) ∧ St FDx B w w' := by
 refine enter 28 [(0, .slice sa va.length ca), (1, .slice sb vb.length cb)] 4 Tryz.func25 rfl rfl rfl rfl rfl ?_; intro a hF
 have hS := St.refl hI
 have hva := hR2a.1
 have hvb := hR2b.1
 refine W_sr rfl fun K hK => ?_
 refine svw hK hF (v_assign rfl) rfl ?_; clear hF a hK K; intro a hF
 refine W_seq ?_
 refine W_sr rfl fun K hK => ?_
 refine sv5w hK hF (v_move rfl) (v_lenS rfl sl48 rfl) (v_move rfl) (v_lenS rfl sl48 rfl) ((v_neq rfl rfl).as (congrArg Value.bool (decide_eq_false (by omega)))) rfl rfl rfl rfl rfl ?_; clear hF a hK K; intro a hF
 replace hF := hF.sub _ (c_ 10 rfl (c_ 4 rfl (c_ 0 rfl (c_ 1 rfl n_))))
 refine W_ifF hF rfl ?_
 refine W_skip ?_
 refine W_seq ?_
 refine W_sr rfl fun K hK => ?_
 refine svw hK hF (v_assign rfl) rfl ?_; clear hF a hK K; intro a hF
 replace hF := hF.sub _ (c_ 5 rfl (c_ 4 rfl (c_ 0 rfl (c_ 1 rfl n_))))
 refine W_block ?_
 refine W_loop (fun q a w1 => ∃ (i : Nat), Fr 28 [(0, .slice sa va.length ca), (1, .slice sb vb.length cb), (5, .int .i64 (i : Int))] a ∧ (St FDx B w w1) ∧ (Row FDx B M w1 (.slice sa va.length ca) va) ∧ (Rows2 FDx B M w1 va xa) ∧ (Row FDx B M w1 (.slice sb vb.length cb) vb) ∧ (Rows2 FDx B M w1 vb xb) ∧ (i ≤ xa.length) ∧ (xa.take i = xb.take i) ∧ (q + i = xa.length)) (xa.length) ?_ ?_
 · skip
   exact ⟨0, hF.sub _ (c_ 0 rfl (c_ 1 rfl (c_ 5 rfl n_))), hS, hRa, hR2a, hRb, hR2b, by omega, rfl, by omega⟩
 skip
 clear hF
 clear hS hRa hR2a hRb hR2b
 rintro q a w1 ⟨i, hF, hS, hRa, hR2a, hRb, hR2b, hi, he, hq⟩
 refine W_seq ?_
 refine W_sr rfl fun K hK => ?_
 refine sv4w hK hF (v_move rfl) (v_move rfl) (v_lenS rfl sl48 rfl) (v_lss rfl rfl) rfl rfl rfl rfl ?_; clear hF a hK K; intro a hF
 replace hF := hF.sub _ (c_ 14 rfl (c_ 0 rfl (c_ 1 rfl (c_ 5 rfl n_))))
 refine W_if hF rfl (fun hc1 => ?_) (fun hc1 => ?_)
 ·
  skip
  try simp only [dcl] at hc1
  have hlt : i < xa.length := by omega
  obtain ⟨u, hu⟩ : ∃ z, xa[i]? = some z := ⟨_, List.getElem?_eq_getElem hlt⟩
  obtain ⟨u2, hv2⟩ : ∃ z, xb[i]? = some z := ⟨_, List.getElem?_eq_getElem (by omega)⟩
  refine W_skip ?_
  refine W_seq ?_
  refine W_block ?_
  refine W_sd (m := 11) rfl hmix hS.inv (fun K hK w1 hS' hh => ?_)
  replace hRa := hRa.st hS'
  replace hR2a := hR2a.st hS'
  replace hRb := hRb.st hS'
  replace hR2b := hR2b.st hS'
  replace hS := hS.trans hS'
  clear hS'
  clear hh
  refine a_v (i := 0) rfl (by kernel_rfl) hF (fun w2 hx => v_move rfl) rfl ?_; clear hF a; intro a hF
  refine a_v (i := 1) rfl (by kernel_rfl) hF (fun w2 hx => v_move rfl) rfl ?_; clear hF a; intro a hF
  obtain ⟨g1, o1, p1, c1, hg1, hk1, hr1, -, -⟩ := hR2a.get hRa hu
  obtain ⟨g2, o2, p2, c2, hg2, hk2, hr2, -, -⟩ := hR2b.get hRb hv2
  subst hg1 hg2
  refine a_v (i := 2) rfl (by kernel_rfl) hF (fun w2 hx => v_ixS sl48 rfl rfl (by omega) (by omega)) rfl ?_; clear hF a; intro a hF
  refine a_v (i := 3) rfl (by kernel_rfl) hF (fun w2 hx => v_load sc23 rfl (by rw [toNat_c]; exact hk1.ld hx)) rfl ?_; clear hF a; intro a hF
  refine a_v (i := 4) rfl (by kernel_rfl) hF (fun w2 hx => v_bstr Tryz.underlying23 Tryz.underlying5 Tryz.underlying9 rfl (hr1.ext hx)) rfl ?_; clear hF a; intro a hF
  refine a_v (i := 5) rfl (by kernel_rfl) hF (fun w2 hx => v_move rfl) rfl ?_; clear hF a; intro a hF
  refine a_v (i := 6) rfl (by kernel_rfl) hF (fun w2 hx => v_move rfl) rfl ?_; clear hF a; intro a hF
  refine a_v (i := 7) rfl (by kernel_rfl) hF (fun w2 hx => v_ixS sl48 rfl rfl (by omega) (by omega)) rfl ?_; clear hF a; intro a hF
  refine a_v (i := 8) rfl (by kernel_rfl) hF (fun w2 hx => v_load sc23 rfl (by rw [toNat_c]; exact hk2.ld hx)) rfl ?_; clear hF a; intro a hF
  refine a_v (i := 9) rfl (by kernel_rfl) hF (fun w2 hx => v_bstr Tryz.underlying23 Tryz.underlying5 Tryz.underlying9 rfl (hr2.ext hx)) rfl ?_; clear hF a; intro a hF
  refine a_v (i := 10) rfl (by kernel_rfl) hF (fun w2 hx => (v_neqS rfl rfl).as (show Value.bool (!(bstr u == bstr u2)) = .bool (!decide (u = u2)) by rw [bstr_eq (ha8 u (List.mem_of_getElem? hu)) (hb8 u2 (List.mem_of_getElem? hv2))])) rfl ?_; clear hF a; intro a hF
  refine a_done (by kernel_rfl) (hK _ _ ?_)
  clear hK K
  replace hF := hF.sub _ (c_ 27 rfl (c_ 0 rfl (c_ 1 rfl (c_ 5 rfl n_))))
  refine W_if hF rfl (fun hc2 => ?_) (fun hc2 => ?_)
  ·
   skip
   try simp only [dcl] at hc2
   have hne : u ≠ u2 := by simpa using hc2
   refine W_sr rfl fun K hK => ?_
   refine svw hK hF (v_assign rfl) rfl ?_; clear hF a hK K; intro a hF
   replace hF := hF.sub _ (c_ 4 rfl (c_ 0 rfl (c_ 1 rfl (c_ 5 rfl n_))))
   refine W_ret ?_
   refine ⟨_, _, hF, rfl, ?_⟩
   have hno : xa ≠ xb := fun e => hne (Option.some.inj (by rw [← hu, ← hv2, e]))
   exact ⟨by rw [decide_eq_false hno], hS⟩
  skip
  try simp only [dcl] at hc2
  have heq : u = u2 := by simpa using hc2
  refine W_skip ?_
  refine W_reg rfl fun K hK => ?_
  refine sv3w hK hF (v_move rfl) (v_addI rfl rfl (by omega)) (v_assign rfl) rfl rfl rfl ?_; clear hF a hK K; intro a hF
  replace hF := hF.sub _ (c_ 5 rfl (c_ 16 rfl (c_ 15 rfl (c_ 0 rfl (c_ 1 rfl n_)))))
  exact ⟨q - 1, by omega, i + 1, hF.sub _ (c_ 0 rfl (c_ 1 rfl (c_ 5 rfl n_))), hS, hRa, hR2a, hRb, hR2b, by omega, by rw [List.take_add_one, List.take_add_one, hu, hv2, he, heq], by omega⟩
 skip
 try simp only [dcl] at hc1
 refine W_exit rfl ?_
 refine W_sr rfl fun K hK => ?_
 refine svw hK hF (v_assign rfl) rfl ?_; clear hF a hK K; intro a hF
 replace hF := hF.sub _ (c_ 4 rfl (c_ 0 rfl (c_ 1 rfl (c_ 5 rfl n_))))
 refine W_ret ?_
 refine ⟨_, _, hF, rfl, ?_⟩
 obtain rfl : i = xa.length := by omega
 rw [List.take_length, List.take_of_length_le (by omega)] at he
 exact ⟨by rw [decide_eq_true he], hS⟩
end Go.Proofs.YtoabojbpeafdkaaGreatDoor
