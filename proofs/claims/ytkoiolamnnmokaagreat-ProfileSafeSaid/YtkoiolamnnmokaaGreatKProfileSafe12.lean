/- Texts of the claim ProfileSafe (part 12), put together in the order of their imports. -/
import Derived.Test.YtkoiolamnnmokaaGreatKProfileSafe11
/- The walk of package cauchy: Safe. -/
set_option linter.unusedVariables false
set_option linter.unusedSimpArgs false
namespace Go.Proofs.YtkoiolamnnmokaaGreat
open Go Go.Gam


namespace FxFSafe2
theorem en37 : Ent Tryz.prog 37 := ent Tryz.func37 (by kernel_rfl) (by kernel_rfl)
theorem en45 : Ent Tryz.prog 45 := ent Tryz.func45 (by kernel_rfl) (by kernel_rfl)
theorem en46 : Ent Tryz.prog 46 := ent Tryz.func46 (by kernel_rfl) (by kernel_rfl)
theorem hmix : Tryz.prog.follows .mixedOrders = true := by kernel_rfl
theorem on3 : Gam.One Tryz.prog 3 := by unfold Gam.One; kernel_rfl
theorem on37 : Gam.One Tryz.prog 37 := by unfold Gam.One; kernel_rfl
theorem on4 : Gam.One Tryz.prog 4 := by unfold Gam.One; kernel_rfl
theorem on53 : Gam.One Tryz.prog 53 := by unfold Gam.One; kernel_rfl
theorem sc3 : Scalar Tryz.prog 3 := ⟨_, Tryz.underlying3, by simp, by simp⟩
theorem sc36 : Scalar Tryz.prog 36 := ⟨_, Tryz.underlying36, by simp, by simp⟩
theorem sc42 : Scalar Tryz.prog 42 := ⟨_, Tryz.underlying42, by simp, by simp⟩
theorem sc53 : Scalar Tryz.prog 53 := ⟨_, Tryz.underlying53, by simp, by simp⟩
theorem sl36 : Sl Tryz.prog 36 53 (.slice none 0 0) 24 := sl_of Tryz.underlying36 rfl (by kernel_rfl)
theorem sl53 : Sl Tryz.prog 53 3 (.int .i64 0) 8 := sl_of Tryz.underlying53 rfl (by kernel_rfl)
theorem zv3 : Zv Tryz.prog 3 (.int .i64 0) := zv_of rfl (by kernel_rfl)
theorem zv37 : Zv Tryz.prog 37 (.int .i64 0) := zv_of rfl (by kernel_rfl)
theorem zv4 : Zv Tryz.prog 4 (.bool false) := zv_of rfl (by kernel_rfl)
theorem zv53 : Zv Tryz.prog 53 (.slice none 0 0) := zv_of rfl (by kernel_rfl)
end FxFSafe2
open FxFSafe2

theorem scb : Scalar Tryz.prog 4 := ⟨_, Tryz.underlying4, by simp, by simp⟩
theorem sce : Scalar Tryz.prog 37 := ⟨_, Tryz.underlying37, by simp, by simp⟩

set_option maxRecDepth 100000 in
set_option maxHeartbeats 1000000 in
theorem Safe_ok (B M wb p : Nat) (hp : Prm wb p) (fv : Value) (pmt : Option Addr) (cmt : Nat) (mt : Mtx) (w : World) (hI : Inv FDx B w) (hM : M ≤ w.heap.size) (hf : Fo FDx B w fv (some (wb, p))) (hA : Mat FDx B M w pmt cmt mt) (hl : mt.length ≤ maxLen) (hbl : ∀ r ∈ mt, r.length ≤ maxLen) : Ret Tryz.prog 24 [fv, .slice pmt mt.length cmt] w fun v w' => v = .tuple #[.bool (safeM hp mt).1, .int .i64 (safeM hp mt).2] ∧ St FDx B w w' := by
 refine enterMCC (D := FDx) (B := B) w.heap.size 55 [(0, fv), (1, .slice pmt mt.length cmt)] 4 4 5 37 Tryz.func24 rfl rfl rfl rfl rfl ?_; intro a hF
 have hS := St.refl hI
 have hMk := Mk.nil w.heap.size w
 have hl2 := hl
 simp only [maxLen] at hl2
 refine W_sr rfl (fun K hK => ?_)
 obtain ⟨g2, hg2⟩ : ∃ g, g = w.heap.size := ⟨_, rfl⟩
 have sg2 := hS.ext.size
 rw [← hg2] at sg2 
 refine s_boxN (D := FDx) (B := B) hF rfl (hf.cells1) (by decide) hS.inv rfl ?_; clear hF a; intro w' a hm hI' hb2 hsz hF
 replace hf := hf.mb hm
 replace hA := hA.mb hm (fun _ h => by cases h)
 replace hMk := hMk.mb hm (fun k e => by cases e)
 replace hS := hS.mb0 hm
 clear hm hI' hsz
 rw [← hg2] at hb2 hF
 clear hg2
 obtain ⟨g3, hg3⟩ : ∃ g, g = w'.heap.size := ⟨_, rfl⟩
 have sg3 := hS.ext.size
 have tg3b2 := heap_lt hb2.blk
 rw [← hg3] at sg3 tg3b2
 refine s_boxN (D := FDx) (B := B) hF rfl (rfl) (by decide) hS.inv rfl ?_; clear hF a; intro w' a hm hI' hb3 hsz hF
 replace hf := hf.mb hm
 replace hA := hA.mb hm (fun _ h => by cases h)
 replace hMk := hMk.mb hm (fun k e => by cases e)
 replace hb2 := hb2.mb hm (by simp)
 replace hS := hS.mb0 hm
 clear hm hI' hsz
 rw [← hg3] at hb3 hF
 clear hg3
 obtain ⟨g4, hg4⟩ : ∃ g, g = w'.heap.size := ⟨_, rfl⟩
 have sg4 := hS.ext.size
 have tg4b2 := heap_lt hb2.blk
 have tg4b3 := heap_lt hb3.blk
 rw [← hg4] at sg4 tg4b2 tg4b3
 refine s_alloc (D := FDx) (B := B) hF zv4 (by decide) hS.inv rfl ?_; clear hF a; intro w' a hm hI' hb4 hsz hF
 replace hf := hf.mb hm
 replace hA := hA.mb hm (fun _ h => by cases h)
 replace hMk := hMk.mb hm (fun k e => by cases e)
 replace hb2 := hb2.mb hm (by simp)
 replace hb3 := hb3.mb hm (by simp)
 replace hS := hS.mb0 hm
 clear hm hI' hsz
 rw [← hg4] at hb4 hF
 clear hg4
 obtain ⟨g5, hg5⟩ : ∃ g, g = w'.heap.size := ⟨_, rfl⟩
 have sg5 := hS.ext.size
 have tg5b2 := heap_lt hb2.blk
 have tg5b3 := heap_lt hb3.blk
 have tg5b4 := heap_lt hb4.blk
 rw [← hg5] at sg5 tg5b2 tg5b3 tg5b4
 refine s_alloc (D := FDx) (B := B) hF zv37 (by decide) hS.inv rfl ?_; clear hF a; intro w' a hm hI' hb5 hsz hF
 replace hf := hf.mb hm
 replace hA := hA.mb hm (fun _ h => by cases h)
 replace hMk := hMk.mb hm (fun k e => by cases e)
 replace hb2 := hb2.mb hm (by simp)
 replace hb3 := hb3.mb hm (by simp)
 replace hb4 := hb4.mb hm (by simp)
 replace hS := hS.mb0 hm
 clear hm hI' hsz
 rw [← hg5] at hb5 hF
 clear hg5
 refine WL_nil (hK _ _ ?_)
 clear hK K
 replace hF := hF.sub _ (c_ 5 rfl (c_ 4 rfl (c_ 3 rfl (c_ 2 rfl (n_)))))
 refine W_seq ?_
 refine W_sr rfl (fun K hK => ?_)
 refine sv hF (v_load sc42 rfl hb2.at) rfl ?_; clear hF a; intro a hF
 refine sv hF (v_load sc36 rfl hb3.at) rfl ?_; clear hF a; intro a hF
 refine sc hF rfl rfl rfl en37 rfl (May_ok B M (some (wb, p)) fv pmt cmt mt _ hS.inv hf hA hl hbl) ?_; clear hF a; intro v w' a hv hF
 obtain ⟨rfl, hS'⟩ := hv
 replace hf := hf.st hS'
 replace hA := hA.st hS'
 replace hMk := hMk.st hS'
 replace hb2 := hb2.st hS'
 replace hb3 := hb3.st hS'
 replace hb4 := hb4.st hS'
 replace hb5 := hb5.st hS'
 replace hS := hS.trans hS'
 clear hS'
 refine sb hF (v_not rfl) rfl ?_ ?_
 ·
  clear hF a; intro hc1 a hF
  try simp only [dcl] at hc1
  refine sv hF (v_move rfl) rfl ?_; clear hF a; intro a hF
  refine svn hF rfl rfl rfl ?_; clear hF a; intro a hF
  refine svn hF rfl rfl rfl ?_; clear hF a; intro a hF
  refine svn hF rfl rfl rfl ?_; clear hF a; intro a hF
  refine sv2 hF (v_pickT rfl rfl) (v_move rfl) rfl rfl ?_; clear hF a; intro a hF
  refine svn hF rfl rfl rfl ?_; clear hF a; intro a hF
  refine svn hF rfl rfl rfl ?_; clear hF a; intro a hF
  refine svn hF rfl rfl rfl ?_; clear hF a; intro a hF
  refine svn hF rfl rfl rfl ?_; clear hF a; intro a hF
  refine svn hF rfl rfl rfl ?_; clear hF a; intro a hF
  refine sv hF (v_pickT rfl rfl) rfl ?_; clear hF a; intro a hF
  refine WL_nil (hK _ _ ?_)
  clear hK K
  replace hF := hF.sub _ (c_ 24 rfl (c_ 5 rfl (c_ 4 rfl (c_ 3 rfl (c_ 2 rfl (n_))))))
  refine W_ifT hF rfl ?_
  refine W_sr rfl (fun K hK => ?_)
  refine s_stb (D := FDx) (B := B) hF on4 rfl rfl (rfl) hb4 hS.inv ?_; intro w' hm hI' hbx'
  replace hf := hf.mb hm
  replace hA := hA.mb hm (fun k h => by cases h; exact Nat.le_trans (by omega) hb4.low)
  replace hMk := hMk.mb hm (fun k e => by cases e; exact ⟨_, _, _, hb4.blk⟩)
  replace hb2 := hb2.mb hm (by simp; omega)
  replace hb3 := hb3.mb hm (by simp; omega)
  replace hb5 := hb5.mb hm (by simp; omega)
  replace hS := hS.mb hm (fun k h => by cases h; omega)
  replace hb4 := hbx'
  clear hm hI' hbx'
  refine s_stb (D := FDx) (B := B) hF on37 rfl rfl (rfl) hb5 hS.inv ?_; intro w' hm hI' hbx'
  replace hf := hf.mb hm
  replace hA := hA.mb hm (fun k h => by cases h; exact Nat.le_trans (by omega) hb5.low)
  replace hMk := hMk.mb hm (fun k e => by cases e; exact ⟨_, _, _, hb5.blk⟩)
  replace hb2 := hb2.mb hm (by simp; omega)
  replace hb3 := hb3.mb hm (by simp; omega)
  replace hb4 := hb4.mb hm (by simp; omega)
  replace hS := hS.mb hm (fun k h => by cases h; omega)
  replace hb5 := hbx'
  clear hm hI' hbx'
  refine WL_nil (hK _ _ ?_)
  clear hK K
  replace hF := hF.sub _ (c_ 5 rfl (c_ 4 rfl (c_ 3 rfl (c_ 2 rfl (n_)))))
  refine W_ret ?_
  have hno : safeM hp mt = (false, 1) := safeM_no hp (by first | (left; simpa using hc1) | (right; left; omega) | (right; right; omega))
  exact ⟨_, _, _, _, _, _, hMk, hS.inv, hF, rfl, rfl, fun w2 hX => ⟨ld_one scb (Box.at (hb4.xt hX)), ld_one sce (Box.at (hb5.xt hX)), (by rw [hno]), hS.thenX hX (Nat.le_refl _)⟩⟩
 ·
  clear hF a; intro hc1 a hF
  try simp only [dcl] at hc1
  refine sv hF (v_move rfl) rfl ?_; clear hF a; intro a hF
  refine svg hF rfl ?_
  refine sv hF (v_load sc36 rfl hb3.at) rfl ?_; clear hF a; intro a hF
  refine svg hF rfl ?_
  refine sv hF (v_lenS rfl sl36 rfl) rfl ?_; clear hF a; intro a hF
  refine svg hF rfl ?_
  refine sb hF (v_gtr rfl rfl) rfl ?_ ?_
  ·
   clear hF a; intro hc2 a hF
   try simp only [dcl] at hc2
   refine sv2 hF (v_pickF rfl rfl) (v_move rfl) rfl rfl ?_; clear hF a; intro a hF
   refine svn hF rfl rfl rfl ?_; clear hF a; intro a hF
   refine svn hF rfl rfl rfl ?_; clear hF a; intro a hF
   refine svn hF rfl rfl rfl ?_; clear hF a; intro a hF
   refine svn hF rfl rfl rfl ?_; clear hF a; intro a hF
   refine svn hF rfl rfl rfl ?_; clear hF a; intro a hF
   refine sv hF (v_pickT rfl rfl) rfl ?_; clear hF a; intro a hF
   refine WL_nil (hK _ _ ?_)
   clear hK K
   replace hF := hF.sub _ (c_ 24 rfl (c_ 5 rfl (c_ 4 rfl (c_ 3 rfl (c_ 2 rfl (n_))))))
   refine W_ifT hF rfl ?_
   refine W_sr rfl (fun K hK => ?_)
   refine s_stb (D := FDx) (B := B) hF on4 rfl rfl (rfl) hb4 hS.inv ?_; intro w' hm hI' hbx'
   replace hf := hf.mb hm
   replace hA := hA.mb hm (fun k h => by cases h; exact Nat.le_trans (by omega) hb4.low)
   replace hMk := hMk.mb hm (fun k e => by cases e; exact ⟨_, _, _, hb4.blk⟩)
   replace hb2 := hb2.mb hm (by simp; omega)
   replace hb3 := hb3.mb hm (by simp; omega)
   replace hb5 := hb5.mb hm (by simp; omega)
   replace hS := hS.mb hm (fun k h => by cases h; omega)
   replace hb4 := hbx'
   clear hm hI' hbx'
   refine s_stb (D := FDx) (B := B) hF on37 rfl rfl (rfl) hb5 hS.inv ?_; intro w' hm hI' hbx'
   replace hf := hf.mb hm
   replace hA := hA.mb hm (fun k h => by cases h; exact Nat.le_trans (by omega) hb5.low)
   replace hMk := hMk.mb hm (fun k e => by cases e; exact ⟨_, _, _, hb5.blk⟩)
   replace hb2 := hb2.mb hm (by simp; omega)
   replace hb3 := hb3.mb hm (by simp; omega)
   replace hb4 := hb4.mb hm (by simp; omega)
   replace hS := hS.mb hm (fun k h => by cases h; omega)
   replace hb5 := hbx'
   clear hm hI' hbx'
   refine WL_nil (hK _ _ ?_)
   clear hK K
   replace hF := hF.sub _ (c_ 5 rfl (c_ 4 rfl (c_ 3 rfl (c_ 2 rfl (n_)))))
   refine W_ret ?_
   have hno : safeM hp mt = (false, 1) := safeM_no hp (by first | (left; simpa using hc1) | (right; left; omega) | (right; right; omega))
   exact ⟨_, _, _, _, _, _, hMk, hS.inv, hF, rfl, rfl, fun w2 hX => ⟨ld_one scb (Box.at (hb4.xt hX)), ld_one sce (Box.at (hb5.xt hX)), (by rw [hno]), hS.thenX hX (Nat.le_refl _)⟩⟩
  ·
   clear hF a; intro hc2 a hF
   try simp only [dcl] at hc2
   refine sv2 hF (v_pickF rfl rfl) (v_move rfl) rfl rfl ?_; clear hF a; intro a hF
   refine svg hF rfl ?_
   have hmay : mayM (some (wb, p)) mt = true := by simpa using hc1
   have hMx := mayM_Mx hmay
   obtain ⟨gp, op, rfl⟩ := hA.at1 (by omega)
   obtain ⟨r0, h0⟩ : ∃ r, mt[0]? = some r := ⟨_, List.getElem?_eq_getElem (by omega)⟩
   obtain ⟨p0, c0, hk0, hrow0, -⟩ := hA.row2 h0
   have hw0 := wid_at h0
   refine sv hF (v_load sc36 rfl hb3.at) rfl ?_; clear hF a; intro a hF
   refine svg hF rfl ?_
   refine sv hF (v_ixS sl36 rfl rfl (by decide) (by omega)) rfl ?_; clear hF a; intro a hF
   refine svg hF rfl ?_
   refine sv hF (v_load sc53 rfl hk0.c) rfl ?_; clear hF a; intro a hF
   refine svg hF rfl ?_
   refine sv hF (v_lenS rfl sl53 rfl) rfl ?_; clear hF a; intro a hF
   refine svg hF rfl ?_
   refine sv hF (v_gtr rfl rfl) rfl ?_; clear hF a; intro a hF
   refine sv hF (v_pickF rfl rfl) rfl ?_; clear hF a; intro a hF
   refine WL_nil (hK _ _ ?_)
   clear hK K
   replace hF := hF.sub _ (c_ 24 rfl (c_ 5 rfl (c_ 4 rfl (c_ 3 rfl (c_ 2 rfl (n_))))))
   refine W_if hF rfl (fun hc3 => ?_) (fun hc3 => ?_)
   ·
    skip
    try simp only [dcl] at hc3
    refine W_sr rfl (fun K hK => ?_)
    refine s_stb (D := FDx) (B := B) hF on4 rfl rfl (rfl) hb4 hS.inv ?_; intro w' hm hI' hbx'
    replace hf := hf.mb hm
    replace hA := hA.mb hm (fun k h => by cases h; exact Nat.le_trans (by omega) hb4.low)
    replace hMk := hMk.mb hm (fun k e => by cases e; exact ⟨_, _, _, hb4.blk⟩)
    replace hb2 := hb2.mb hm (by simp; omega)
    replace hb3 := hb3.mb hm (by simp; omega)
    replace hb5 := hb5.mb hm (by simp; omega)
    replace hS := hS.mb hm (fun k h => by cases h; omega)
    replace hb4 := hbx'
    clear hm hI' hbx'
    refine s_stb (D := FDx) (B := B) hF on37 rfl rfl (rfl) hb5 hS.inv ?_; intro w' hm hI' hbx'
    replace hf := hf.mb hm
    replace hA := hA.mb hm (fun k h => by cases h; exact Nat.le_trans (by omega) hb5.low)
    replace hMk := hMk.mb hm (fun k e => by cases e; exact ⟨_, _, _, hb5.blk⟩)
    replace hb2 := hb2.mb hm (by simp; omega)
    replace hb3 := hb3.mb hm (by simp; omega)
    replace hb4 := hb4.mb hm (by simp; omega)
    replace hS := hS.mb hm (fun k h => by cases h; omega)
    replace hb5 := hbx'
    clear hm hI' hbx'
    refine WL_nil (hK _ _ ?_)
    clear hK K
    replace hF := hF.sub _ (c_ 5 rfl (c_ 4 rfl (c_ 3 rfl (c_ 2 rfl (n_)))))
    refine W_ret ?_
    have hno : safeM hp mt = (false, 1) := safeM_no hp (by first | (left; simpa using hc1) | (right; left; omega) | (right; right; omega))
    exact ⟨_, _, _, _, _, _, hMk, hS.inv, hF, rfl, rfl, fun w2 hX => ⟨ld_one scb (Box.at (hb4.xt hX)), ld_one sce (Box.at (hb5.xt hX)), (by rw [hno]), hS.thenX hX (Nat.le_refl _)⟩⟩
   ·
    skip
    try simp only [dcl] at hc3
    refine W_skip ?_
    refine W_seq ?_
    have hsafe := safeM_is hp hmay (by omega) (by rw [hw0]; omega)
    obtain ⟨n, hn⟩ : ∃ n, mt.length = n := ⟨_, rfl⟩
    obtain ⟨m, hm⟩ : ∃ n, wid mt = n := ⟨_, rfl⟩
    obtain ⟨f, hfe⟩ : ∃ f, en mt = f := ⟨_, rfl⟩
    rw [hn, hm, hfe] at hsafe
    have htab := hMx.1.eq_tab
    rw [hn, hm, hfe] at htab
    have hnm : 1 ≤ n ∧ n ≤ 5 ∧ 1 ≤ m ∧ m ≤ 8 := by rw [← hn, ← hm]; exact ⟨by omega, by omega, by omega, by rw [hw0]; omega⟩
    rw [htab] at hA
    rw [hn] at hb3
    clear hk0 hrow0
    refine W_sr rfl (fun K hK => ?_)
    obtain ⟨g6, hg6⟩ : ∃ g, g = w'.heap.size := ⟨_, rfl⟩
    have sg6 := hS.ext.size
    have tg6b2 := heap_lt hb2.blk
    have tg6b3 := heap_lt hb3.blk
    have tg6b4 := heap_lt hb4.blk
    have tg6b5 := heap_lt hb5.blk
    rw [← hg6] at sg6 tg6b2 tg6b3 tg6b4 tg6b5
    refine s_alloc (D := FDx) (B := B) hF zv3 (by decide) hS.inv rfl ?_; clear hF a; intro w' a hm hI' hb6 hsz hF
    replace hf := hf.mb hm
    replace hA := hA.mb hm (fun _ h => by cases h)
    replace hMk := hMk.mb hm (fun k e => by cases e)
    replace hb2 := hb2.mb hm (by simp)
    replace hb3 := hb3.mb hm (by simp)
    replace hb4 := hb4.mb hm (by simp)
    replace hb5 := hb5.mb hm (by simp)
    replace hS := hS.mb0 hm
    clear hm hI' hsz
    rw [← hg6] at hb6 hF
    clear hg6
    refine s_stb (D := FDx) (B := B) hF on3 rfl rfl (rfl) hb6 hS.inv ?_; intro w' hm hI' hbx'
    replace hf := hf.mb hm
    replace hA := hA.mb hm (fun k h => by cases h; exact Nat.le_trans (by omega) hb6.low)
    replace hMk := hMk.mb hm (fun k e => by cases e; exact ⟨_, _, _, hb6.blk⟩)
    replace hb2 := hb2.mb hm (by simp; omega)
    replace hb3 := hb3.mb hm (by simp; omega)
    replace hb4 := hb4.mb hm (by simp; omega)
    replace hb5 := hb5.mb hm (by simp; omega)
    replace hS := hS.mb hm (fun k h => by cases h; omega)
    replace hb6 := hbx'
    clear hm hI' hbx'
    refine WL_nil (hK _ _ ?_)
    clear hK K
    replace hF := hF.sub _ (c_ 6 rfl (c_ 5 rfl (c_ 4 rfl (c_ 3 rfl (c_ 2 rfl (n_))))))
    refine W_block ?_
    refine W_loop (fun q a w1 => ∃ (s g6 : Nat) (ds : List Nat), Fr ⟨55, ds⟩ [(2, .pointer (some ⟨g2, 0, none⟩)), (3, .pointer (some ⟨g3, 0, none⟩)), (4, .pointer (some ⟨g4, 0, none⟩)), (5, .pointer (some ⟨g5, 0, none⟩)), (6, .pointer (some ⟨g6, 0, none⟩))] a ∧ (St FDx B w w1) ∧ (Mk w.heap.size ds w1) ∧ (Fo FDx B w1 fv (some (wb, p))) ∧ (Mat FDx B M w1 (some ⟨gp, op, none⟩) cmt (tab n m f)) ∧ (Box FDx B g2 w1 g2 42 (fv)) ∧ (Box FDx B g3 w1 g3 36 (.slice (some ⟨gp, op, none⟩) n cmt)) ∧ (Box FDx B g4 w1 g4 4 (.bool false)) ∧ (Box FDx B g5 w1 g5 37 (.int .i64 0)) ∧ (Box FDx B g6 w1 g6 FDx.E (.int .i64 ((s + 1 : Nat) : Int))) ∧ (g5 < g6) ∧ (∀ t, t < s → ∀ R ∈ ch n (t + 1) 0, okR hp f m t R) ∧ (s ≤ min n m) ∧ (q + s = min n m)) (min n m) ?_ ?_
    ·
     skip
     exact ⟨0, _, _, hF.sub _ (c_ 2 rfl (c_ 3 rfl (c_ 4 rfl (c_ 5 rfl (c_ 6 rfl (n_)))))), hS, hMk, hf, hA, hb2, hb3, hb4, hb5, hb6, by omega, (fun t ht => by omega), by omega, by omega⟩
    ·
     skip
     clear hF
     clear hS hMk hf hA hb2 hb3 hb4 hb5 hb6
     rintro q a w1 ⟨s, g6, ds, hF, hS, hMk, hf, hA, hb2, hb3, hb4, hb5, hb6, hg6, hall, hs, hq⟩
     refine W_seq ?_
     obtain ⟨pr0, cr0, hk0, hrow0, -⟩ := hA.row2 (show (tab n m f)[0]? = some (trow m f 0) from tab_at (by omega))
     rw [trow_length] at hk0
     refine W_sd (m := 9) rfl hmix hS.inv (fun K hK w1 hS' hh => ?_)
     replace hf := hf.st hS'
     replace hA := hA.st hS'
     replace hMk := hMk.st hS'
     replace hb2 := hb2.st hS'
     replace hb3 := hb3.st hS'
     replace hb4 := hb4.st hS'
     replace hb5 := hb5.st hS'
     replace hb6 := hb6.st hS'
     replace hk0 := hk0.st hS'
     replace hS := hS.trans hS'
     clear hS'
     clear hh
     refine a_v (i := 0) rfl (by kernel_rfl) hF (fun w2 hx => v_load sc3 rfl (by first | exact KC.ld (by assumption) hx | exact KC.ld (Box.kc (by assumption)) hx | (rw [toNat_c]; exact KC.ld (by assumption) hx))) rfl ?_; clear hF a; intro a hF
     refine a_v (i := 1) rfl (by kernel_rfl) hF (fun w2 hx => v_load sc36 rfl (by first | exact KC.ld (by assumption) hx | exact KC.ld (Box.kc (by assumption)) hx | (rw [toNat_c]; exact KC.ld (by assumption) hx))) rfl ?_; clear hF a; intro a hF
     refine a_v (i := 2) rfl (by kernel_rfl) hF (fun w2 hx => v_lenS rfl sl36 rfl) rfl ?_; clear hF a; intro a hF
     refine a_v (i := 3) rfl (by kernel_rfl) hF (fun w2 hx => v_load sc36 rfl (by first | exact KC.ld (by assumption) hx | exact KC.ld (Box.kc (by assumption)) hx | (rw [toNat_c]; exact KC.ld (by assumption) hx))) rfl ?_; clear hF a; intro a hF
     refine a_v (i := 4) rfl (by kernel_rfl) hF (fun w2 hx => v_ixS sl36 rfl rfl (by decide) (by omega)) rfl ?_; clear hF a; intro a hF
     refine a_v (i := 5) rfl (by kernel_rfl) hF (fun w2 hx => v_load sc53 rfl (hk0.ld hx)) rfl ?_; clear hF a; intro a hF
     refine a_v (i := 6) rfl (by kernel_rfl) hF (fun w2 hx => v_lenS rfl sl53 rfl) rfl ?_; clear hF a; intro a hF
     refine a_v (i := 7) rfl (by kernel_rfl) hF (fun w2 hx => (v_minI rfl rfl rfl).as (show Value.int .i64 (min (n : Int) (m : Int)) = .int .i64 ((min n m : Nat) : Int) by congr 1; omega)) rfl ?_; clear hF a; intro a hF
     refine a_v (i := 8) rfl (by kernel_rfl) hF (fun w2 hx => v_leq rfl rfl) rfl ?_; clear hF a; intro a hF
     refine a_done (by kernel_rfl) (hK _ _ ?_)
     clear hK K
     replace hF := hF.sub _ (c_ 33 rfl (c_ 2 rfl (c_ 3 rfl (c_ 4 rfl (c_ 5 rfl (c_ 6 rfl (n_)))))))
     clear hrow0
     refine W_if hF rfl (fun hc4 => ?_) (fun hc4 => ?_)
     ·
      skip
      try simp only [dcl] at hc4
      have hlt : s < min n m := by omega
      refine W_skip ?_
      refine W_seq ?_
      refine W_block ?_
      refine W_sr rfl (fun K hK => ?_)
      refine sv hF (v_load sc36 rfl hb3.at) rfl ?_; clear hF a; intro a hF
      refine sv hF (v_lenS rfl sl36 rfl) rfl ?_; clear hF a; intro a hF
      refine sv hF (v_load sc3 rfl hb6.at) rfl ?_; clear hF a; intro a hF
      refine sc hF rfl rfl rfl en45 rfl (choices_ok B 0 n (s + 1) _ hS.inv) ?_; clear hF a; intro v w' a hv hF
      obtain ⟨gm1, gf1, gt1, rfl, hbm1, hbf1, hbt1, hS'⟩ := hv
      replace hf := hf.st hS'
      replace hA := hA.st hS'
      replace hMk := hMk.st hS'
      replace hb2 := hb2.st hS'
      replace hb3 := hb3.st hS'
      replace hb4 := hb4.st hS'
      replace hb5 := hb5.st hS'
      replace hb6 := hb6.st hS'
      replace hk0 := hk0.st hS'
      replace hS := hS.trans hS'
      clear hS'
      obtain ⟨wi, hwi⟩ : ∃ x : World, x = w' := ⟨_, rfl⟩
      subst hwi
      have hsw := hS.ext.size
      have hds : ∀ d ∈ ds, d < wi.heap.size := fun d hd => heap_lt (hMk.2 d hd).2
      refine WL_nil (hK _ _ ?_)
      clear hK K
      replace hF := hF.sub _ (c_ 39 rfl (c_ 2 rfl (c_ 3 rfl (c_ 4 rfl (c_ 5 rfl (c_ 6 rfl (n_)))))))
      refine W_block ?_
      refine W_rfS (D := FDx) (B := B) (fun k A => ∀ j, j < k → ∀ R, (ch n (s + 1) 0)[j]? = some R → okR hp f m s R) (fun A => safeB hp n m f = false ∧ Box FDx B g4 A g4 4 (.bool false) ∧ Box FDx B g5 A g5 37 (.int .i64 0) ∧ St FDx B w A ∧ Mk w.heap.size ds A) (fun v a2 A => ∃ g7, Fr ⟨55, []⟩ [(2, .pointer (some ⟨g2, 0, none⟩)), (3, .pointer (some ⟨g3, 0, none⟩)), (4, .pointer (some ⟨g4, 0, none⟩)), (5, .pointer (some ⟨g5, 0, none⟩)), (6, .pointer (some ⟨g6, 0, none⟩)), (7, .pointer (some ⟨g7, 0, none⟩))] a2 ∧ Box FDx B g7 A g7 53 (v)) hF rfl rfl (ent Tryz.func80 (by kernel_rfl) (by kernel_rfl)) hS.inv (choices_seq B n (by omega) (s + 1) 0 _ gm1 gf1 gt1 (by omega) (by omega) hbm1 hbf1 hbt1) ?_ ?_ ?_ ?_ (fun j hj => by omega) ?_ ?_ ?_ ?_
      ·
       exact fun k A C h hX => h
      ·
       exact fun A C h hX => ⟨h.1, h.2.1.xt hX, h.2.2.1.xt hX, h.2.2.2.1.thenX hX hsw, h.2.2.2.2.xt hX hds⟩
      ·
       exact fun v a2 A C ⟨g7, h1, h2⟩ hX => ⟨g7, h1, h2.xt hX⟩
      ·
       exact fun x v A C h hX => encL_xt h hX
      ·
       skip
       clear hF
       intro l2 k x v A a hx hJA hSA he hF
       obtain ⟨pv, cv, rfl⟩ := Row.sl he
       replace hS := St.refl hSA.inv
       refine Rd.W_reg rfl rfl (fun K hK => ?_)
       obtain ⟨g7, hg7⟩ : ∃ g, g = A.heap.size := ⟨_, rfl⟩
       refine s_alloc (D := FDx) (B := B) hF zv53 (by decide) hS.inv rfl ?_; clear hF a; intro w' a hm hI' hb7 hsz hF
       replace hS := hS.mb0 hm
       clear hm hI' hsz
       rw [← hg7] at hb7 hF
       refine s_stb (D := FDx) (B := B) hF on53 rfl rfl (rfl) hb7 hS.inv ?_; intro w' hm hI' hbx'
       replace hS := hS.mb hm (fun k h => by cases h; omega)
       replace hb7 := hbx'
       clear hm hI' hbx'
       refine WL_nil (hK _ _ ?_)
       clear hK K
       replace hF := hF.sub _ (c_ 7 rfl (c_ 2 rfl (c_ 3 rfl (c_ 4 rfl (c_ 5 rfl (c_ 6 rfl (n_)))))))
       exact ⟨hS, g7, hF.sub _ (c_ 2 rfl ( c_ 3 rfl ( c_ 4 rfl ( c_ 5 rfl ( c_ 6 rfl ( c_ 7 rfl (n_))))))), hb7⟩
      ·
       skip
       clear hF
       rintro l2 k R v A a hlp hxR hJA hSA he ⟨g7, hF, hb7⟩
       replace hb2 := hb2.st hSA
       replace hb3 := hb3.st hSA
       replace hb4 := hb4.st hSA
       replace hb5 := hb5.st hSA
       replace hb6 := hb6.st hSA
       replace hf := hf.st hSA
       replace hA := hA.st hSA
       replace hMk := hMk.st hSA
       obtain ⟨pR, cR, rfl⟩ := Row.sl he
       rw [zints_length, casts_length] at he hb7
       have hRm := ch_mem.1 (List.mem_of_getElem? hxR)
       have hSw := hS.trans hSA
       replace hS := St.refl hSA.inv
       obtain ⟨pr0, cr0, hk0, hrow0, -⟩ := hA.row2 (show (tab n m f)[0]? = some (trow m f 0) from tab_at (by omega))
       rw [trow_length] at hk0
       refine Rd.W_block ?_
       refine Rd.W_sd (m := 6) rfl hmix hS.inv rfl (fun K hK w1 hS' hh => ?_)
       replace hf := hf.st hS'
       replace hA := hA.st hS'
       replace hMk := hMk.st hS'
       replace hb2 := hb2.st hS'
       replace hb3 := hb3.st hS'
       replace hb4 := hb4.st hS'
       replace hb5 := hb5.st hS'
       replace hb6 := hb6.st hS'
       replace hb7 := hb7.st hS'
       replace he := (he.st hS').mono hS'.ext.size
       replace hSw := hSw.trans hS'
       replace hk0 := hk0.st hS'
       replace hS := hS.trans hS'
       clear hS'
       clear hh
       refine a_v (i := 0) rfl (by kernel_rfl) hF (fun w2 hx => v_load sc36 rfl (by first | exact KC.ld (by assumption) hx | exact KC.ld (Box.kc (by assumption)) hx | (rw [toNat_c]; exact KC.ld (by assumption) hx))) rfl ?_; clear hF a; intro a hF
       refine a_v (i := 1) rfl (by kernel_rfl) hF (fun w2 hx => v_ixS sl36 rfl rfl (by decide) (by omega)) rfl ?_; clear hF a; intro a hF
       refine a_v (i := 2) rfl (by kernel_rfl) hF (fun w2 hx => v_load sc53 rfl (hk0.ld hx)) rfl ?_; clear hF a; intro a hF
       refine a_v (i := 3) rfl (by kernel_rfl) hF (fun w2 hx => v_lenS rfl sl53 rfl) rfl ?_; clear hF a; intro a hF
       refine a_v (i := 4) rfl (by kernel_rfl) hF (fun w2 hx => v_load sc3 rfl (by first | exact KC.ld (by assumption) hx | exact KC.ld (Box.kc (by assumption)) hx | (rw [toNat_c]; exact KC.ld (by assumption) hx))) rfl ?_; clear hF a; intro a hF
       refine a_e (i := 5) rfl (by kernel_rfl) ?_
       refine sc hF rfl rfl rfl en45 rfl (choices_ok B 0 m (s + 1) _ hS.inv) ?_; clear hF a; intro v w' a hv hF
       obtain ⟨gm2, gf2, gt2, rfl, hbm2, hbf2, hbt2, hS'⟩ := hv
       refine WL_nil ⟨hS'.ext, ?_⟩
       replace hf := hf.st hS'
       replace hA := hA.st hS'
       replace hMk := hMk.st hS'
       replace hb2 := hb2.st hS'
       replace hb3 := hb3.st hS'
       replace hb4 := hb4.st hS'
       replace hb5 := hb5.st hS'
       replace hb6 := hb6.st hS'
       replace hb7 := hb7.st hS'
       replace he := (he.st hS').mono hS'.ext.size
       replace hSw := hSw.trans hS'
       replace hk0 := hk0.st hS'
       replace hS := hS.trans hS'
       clear hS'
       refine a_done (by kernel_rfl) (hK _ _ ?_)
       clear hK K
       replace hF := hF.sub _ (c_ 46 rfl (c_ 2 rfl (c_ 3 rfl (c_ 4 rfl (c_ 5 rfl (c_ 7 rfl (n_)))))))
       clear hk0 hrow0
       obtain ⟨wn, hwn⟩ : ∃ x : World, x = w' := ⟨_, rfl⟩
       subst hwn
       have hsn := hSw.ext.size
       have hsA := hS.ext.size
       have hsI := hSA.ext.size
       have hdn : ∀ d ∈ ds, d < wn.heap.size := fun d hd => heap_lt (hMk.2 d hd).2
       refine Rd.W_block ?_
       refine Rd.W_rfS (D := FDx) (B := B) (fun k A => ∀ j, j < k → ∀ C, (ch m (s + 1) 0)[j]? = some C → okC hp f s R C) (fun C => (fun A => safeB hp n m f = false ∧ Box FDx B g4 A g4 4 (.bool false) ∧ Box FDx B g5 A g5 37 (.int .i64 0) ∧ St FDx B w A ∧ Mk w.heap.size ds A) C ∧ StO FDx B wi.heap.size A C) (fun v a2 _ => Fr ⟨55, []⟩ [(2, .pointer (some ⟨g2, 0, none⟩)), (3, .pointer (some ⟨g3, 0, none⟩)), (4, .pointer (some ⟨g4, 0, none⟩)), (5, .pointer (some ⟨g5, 0, none⟩)), (7, .pointer (some ⟨g7, 0, none⟩)), (8, v)] a2) (by obtain ⟨r_, hr_⟩ := hlp; exact ⟨r_, (hS.z (Z := fun _ => False)).ext.oth _ _ hr_ rfl⟩) hF rfl rfl (ent Tryz.func80 (by kernel_rfl) (by kernel_rfl)) hS.inv (choices_seq B m (by omega) (s + 1) 0 _ gm2 gf2 gt2 (by omega) (by omega) hbm2 hbf2 hbt2) ?_ ?_ ?_ ?_ (fun j hj => by omega) ?_ ?_ ?_ ?_
       ·
        exact fun k A C h hX => h
       ·
        exact fun C E h hX => ⟨⟨h.1.1, h.1.2.1.xt hX, h.1.2.2.1.xt hX, h.1.2.2.2.1.thenX hX hsn, h.1.2.2.2.2.xt hX hdn⟩, h.2.xt hX hsA⟩
       ·
        exact fun _ _ _ _ h _ => h
       ·
        exact fun x v A C h hX => encL_xt h hX
       ·
        skip
        clear hF
        intro l3 k3 x v A3 a hx hJ3 hS3 he3 hF
        replace hS := St.refl hS3.inv
        refine Rd.W_reg rfl rfl (fun K hK => ?_)
        refine sv hF (v_assign rfl) rfl ?_; clear hF a; intro a hF
        refine WL_nil (hK _ _ ?_)
        clear hK K
        replace hF := hF.sub _ (c_ 8 rfl (c_ 2 rfl (c_ 3 rfl (c_ 4 rfl (c_ 5 rfl (c_ 7 rfl (n_)))))))
        exact ⟨hS, hF.sub _ (c_ 2 rfl ( c_ 3 rfl ( c_ 4 rfl ( c_ 5 rfl ( c_ 7 rfl ( c_ 8 rfl (n_)))))))⟩
       ·
        skip
        clear hF
        intro l3 k3 C v A3 a hlp3 hxC hJ3 hS3 hc hF
        replace hb2 := hb2.st hS3
        replace hb3 := hb3.st hS3
        replace hb4 := hb4.st hS3
        replace hb5 := hb5.st hS3
        replace hb7 := hb7.st hS3
        replace hf := hf.st hS3
        replace hA := hA.st hS3
        replace hMk := hMk.st hS3
        replace he := (he.st hS3).mono hS3.ext.size
        obtain ⟨pC, cC, rfl⟩ := Row.sl hc
        rw [zints_length, casts_length] at hc hF
        have hCm := ch_mem.1 (List.mem_of_getElem? hxC)
        replace hSw := hSw.trans hS3
        have hAO := (hS.trans hS3).o (m := wi.heap.size)
        replace hS := St.refl hS3.inv
        have hM3 : M ≤ A3.heap.size := by have := hSw.ext.size; omega
        refine Rd.W_block ?_
        refine Rd.W_sr rfl rfl (fun K hK => ?_)
        refine sv hF (v_load sc42 rfl hb2.at) rfl ?_; clear hF a; intro a hF
        refine sv hF (v_load sc36 rfl hb3.at) rfl ?_; clear hF a; intro a hF
        refine sv hF (v_load sc53 rfl hb7.at) rfl ?_; clear hF a; intro a hF
        refine sv hF (v_move rfl) rfl ?_; clear hF a; intro a hF
        rw [show (n : Nat) = n from rfl] at hF
        refine sc hF rfl rfl rfl en46 rfl (minor_ok B _ wb p n m hp fv _ pR pC cmt cR cC f R C _ hS.inv (Nat.le_refl _) hf (hA.mono hM3) he hc (fun x hx => (hRm.2.2 x hx).2) (fun x hx => (hCm.2.2 x hx).2) (by omega)) ?_; clear hF a; intro v w' a hv hF
        obtain ⟨rfl, hS'⟩ := hv
        replace hf := hf.st hS'
        replace hMk := hMk.st hS'
        replace hb2 := hb2.st hS'
        replace hb3 := hb3.st hS'
        replace hb4 := hb4.st hS'
        replace hb5 := hb5.st hS'
        replace hSw := hSw.trans hS'
        replace hS := hS.trans hS'
        clear hS'
        rw [hRm.1, hCm.1] at hF
        refine sv hF (v_not rfl) rfl ?_; clear hF a; intro a hF
        refine WL_nil (hK _ _ ?_)
        clear hK K
        replace hF := hF.sub _ (c_ 53 rfl (c_ 4 rfl (c_ 5 rfl (n_))))
        refine Rd.W_if hF rfl (fun hc5 => ?_) (fun hc5 => ?_)
        ·
         skip
         try simp only [dcl] at hc5
         have hno : safeB hp n m f = false := safeB_no hp hlt (List.mem_of_getElem? hxR) (List.mem_of_getElem? hxC) (by unfold okC; assumption)
         have hSo := hS
         clear hS
         have hS := hSo.o (m := 0)
         clear hSo
         refine Rd.W_sr rfl rfl (fun K hK => ?_)
         refine s_stb (D := FDx) (B := B) hF on4 rfl rfl (rfl) hb4 hS.inv ?_; intro w' hm hI' hbx'
         replace hf := hf.mb hm
         replace hMk := hMk.mb hm (fun k e => by cases e; exact ⟨_, _, _, hb4.blk⟩)
         replace hb2 := hb2.mb hm (by simp; omega)
         replace hb3 := hb3.mb hm (by simp; omega)
         replace hb5 := hb5.mb hm (by simp; omega)
         replace hSw := hSw.mb hm (fun k h => by cases h; omega)
         replace hS := hS.mb hm (fun k h => by cases h; exact ⟨_, _, _, hb4.blk⟩)
         replace hb4 := hbx'
         clear hm hI' hbx'
         refine s_stb (D := FDx) (B := B) hF on37 rfl rfl (rfl) hb5 hS.inv ?_; intro w' hm hI' hbx'
         replace hf := hf.mb hm
         replace hMk := hMk.mb hm (fun k e => by cases e; exact ⟨_, _, _, hb5.blk⟩)
         replace hb2 := hb2.mb hm (by simp; omega)
         replace hb3 := hb3.mb hm (by simp; omega)
         replace hb4 := hb4.mb hm (by simp; omega)
         replace hSw := hSw.mb hm (fun k h => by cases h; omega)
         replace hS := hS.mb hm (fun k h => by cases h; exact ⟨_, _, _, hb5.blk⟩)
         replace hb5 := hbx'
         clear hm hI' hbx'
         refine WL_nil (hK _ _ ?_)
         clear hK K
         replace hF := hF.sub _ (c_ 4 rfl (c_ 5 rfl (n_)))
         refine Rd.W_ret ?_
         exact ⟨⟨⟨hno, hb4, hb5, hSw, hMk⟩, hAO.trans (hS.mono (Nat.zero_le _))⟩, hS.mono (Nat.zero_le _)⟩
        ·
         skip
         try simp only [dcl] at hc5
         have hyes : okC hp f s R C := by unfold okC; assumption
         refine Rd.W_skip ?_
         exact ⟨fun j hj C' hC' => by
          rcases Nat.lt_or_ge j k3 with h | h
          ·
           exact hJ3 j h C' hC'
          ·
           obtain rfl : j = k3 := by omega
           rw [hxC] at hC'; obtain rfl := Option.some.inj hC'; exact hyes, hS⟩
       ·
        skip
        clear hF
        intro a W hF hJd hSd
        replace hS := hS.trans hSd
        exact ⟨fun j hj R' hR' => by
         rcases Nat.lt_or_ge j k with h | h
         ·
          exact hJA j h R' hR'
         ·
          obtain rfl : j = k := by omega
          rw [hxR] at hR'; obtain rfl := Option.some.inj hR'
          intro C hC
          obtain ⟨i, hi⟩ := List.getElem?_of_mem hC
          exact hJd i (List.getElem?_eq_some_iff.1 hi).1 C hi, hS⟩
       ·
        exact fun a W hF hj hIv => ⟨hj.1, hj.2⟩
      ·
       skip
       clear hF
       intro a W hF hD hJd hSd
       have hMk3 := Mk.cons (D := FDx) (B := B) hMk (Nat.le_refl _) hsw (hMk.st hSd) hD
       clear hMk
       have hMk := hMk3
       clear hMk3
       replace hb2 := hb2.st hSd
       replace hb3 := hb3.st hSd
       replace hb4 := hb4.st hSd
       replace hb5 := hb5.st hSd
       replace hb6 := hb6.st hSd
       replace hf := hf.st hSd
       replace hA := hA.st hSd
       replace hS := hS.trans hSd
       have hall2 : ∀ t, t < s + 1 → ∀ R ∈ ch n (t + 1) 0, okR hp f m t R := fun t ht R hR => by
        rcases Nat.lt_or_ge t s with h | h
        ·
         exact hall t h R hR
        ·
         obtain rfl : t = s := by omega
         obtain ⟨i, hi⟩ := List.getElem?_of_mem hR
         exact hJd i (List.getElem?_eq_some_iff.1 hi).1 R hi
       clear hds hsw hSd hJd
       refine W_seq ?_
       refine W_sr rfl (fun K hK => ?_)
       refine sv hF (v_load sc3 rfl hb6.at) rfl ?_; clear hF a; intro a hF
       refine WL_nil (hK _ _ ?_)
       clear hK K
       replace hF := hF.sub _ (c_ 54 rfl (c_ 2 rfl (c_ 3 rfl (c_ 4 rfl (c_ 5 rfl (c_ 6 rfl (n_)))))))
       clear hb6
       refine W_reg rfl (fun K hK => ?_)
       obtain ⟨g6, hg6⟩ : ∃ g, g = W.heap.size := ⟨_, rfl⟩
       have sg6 := hS.ext.size
       have tg6b2 := heap_lt hb2.blk
       have tg6b3 := heap_lt hb3.blk
       have tg6b4 := heap_lt hb4.blk
       have tg6b5 := heap_lt hb5.blk
       rw [← hg6] at sg6 tg6b2 tg6b3 tg6b4 tg6b5
       refine s_alloc (D := FDx) (B := B) hF zv3 (by decide) hS.inv rfl ?_; clear hF a; intro w' a hm hI' hb6 hsz hF
       replace hf := hf.mb hm
       replace hA := hA.mb hm (fun _ h => by cases h)
       replace hMk := hMk.mb hm (fun k e => by cases e)
       replace hb2 := hb2.mb hm (by simp)
       replace hb3 := hb3.mb hm (by simp)
       replace hb4 := hb4.mb hm (by simp)
       replace hb5 := hb5.mb hm (by simp)
       replace hS := hS.mb0 hm
       clear hm hI' hsz
       rw [← hg6] at hb6 hF
       clear hg6
       refine s_stb (D := FDx) (B := B) hF on3 rfl rfl (rfl) hb6 hS.inv ?_; intro w' hm hI' hbx'
       replace hf := hf.mb hm
       replace hA := hA.mb hm (fun k h => by cases h; exact Nat.le_trans (by omega) hb6.low)
       replace hMk := hMk.mb hm (fun k e => by cases e; exact ⟨_, _, _, hb6.blk⟩)
       replace hb2 := hb2.mb hm (by simp; omega)
       replace hb3 := hb3.mb hm (by simp; omega)
       replace hb4 := hb4.mb hm (by simp; omega)
       replace hb5 := hb5.mb hm (by simp; omega)
       replace hS := hS.mb hm (fun k h => by cases h; omega)
       replace hb6 := hbx'
       clear hm hI' hbx'
       refine WL_nil (hK _ _ ?_)
       clear hK K
       refine W_reg rfl (fun K hK => ?_)
       refine sv hF (v_load sc3 rfl hb6.at) rfl ?_; clear hF a; intro a hF
       refine sv hF ((v_addI rfl rfl (by omega)).as (show Value.int .i64 (((s + 1 : Nat) : Int) + 1) = .int .i64 ((s + 1 + 1 : Nat) : Int) by congr 1)) rfl ?_; clear hF a; intro a hF
       refine s_stb (D := FDx) (B := B) hF on3 rfl rfl (rfl) hb6 hS.inv ?_; intro w' hm hI' hbx'
       replace hf := hf.mb hm
       replace hA := hA.mb hm (fun k h => by cases h; exact Nat.le_trans (by omega) hb6.low)
       replace hMk := hMk.mb hm (fun k e => by cases e; exact ⟨_, _, _, hb6.blk⟩)
       replace hb2 := hb2.mb hm (by simp; omega)
       replace hb3 := hb3.mb hm (by simp; omega)
       replace hb4 := hb4.mb hm (by simp; omega)
       replace hb5 := hb5.mb hm (by simp; omega)
       replace hS := hS.mb hm (fun k h => by cases h; omega)
       replace hb6 := hbx'
       clear hm hI' hbx'
       refine WL_nil (hK _ _ ?_)
       clear hK K
       exact ⟨q - 1, by omega, s + 1, _, _, hF.sub _ (c_ 2 rfl (c_ 3 rfl (c_ 4 rfl (c_ 5 rfl (c_ 6 rfl (n_)))))), hS, hMk, hf, hA, hb2, hb3, hb4, hb5, hb6, by omega, hall2, by omega, by omega⟩
      ·
       rintro a W hF hD ⟨hno, hb4, hb5, hSw, hMk2⟩ hIv
       exact ⟨_, _, _, _, _, _, Mk.cons (D := FDx) (B := B) hMk (Nat.le_refl _) hsw hMk2 hD, hIv, hF, rfl, rfl, fun w2 hX => ⟨ld_one scb (Box.at (hb4.xt hX)), ld_one sce (Box.at (hb5.xt hX)), (by rw [hsafe, hno]), hSw.thenX hX (Nat.le_refl _)⟩⟩
     ·
      skip
      try simp only [dcl] at hc4
      have hse : s = min n m := by omega
      have hyes : safeB hp n m f = true := (safeB_iff hp).2 (by rw [← hse]; exact hall)
      refine W_exit rfl ?_
      refine W_sr rfl (fun K hK => ?_)
      refine s_stb (D := FDx) (B := B) hF on4 rfl rfl (rfl) hb4 hS.inv ?_; intro w' hm hI' hbx'
      replace hf := hf.mb hm
      replace hA := hA.mb hm (fun k h => by cases h; exact Nat.le_trans (by omega) hb4.low)
      replace hMk := hMk.mb hm (fun k e => by cases e; exact ⟨_, _, _, hb4.blk⟩)
      replace hb2 := hb2.mb hm (by simp; omega)
      replace hb3 := hb3.mb hm (by simp; omega)
      replace hb5 := hb5.mb hm (by simp; omega)
      replace hb6 := hb6.mb hm (by simp; omega)
      replace hS := hS.mb hm (fun k h => by cases h; omega)
      replace hb4 := hbx'
      clear hm hI' hbx'
      refine s_stb (D := FDx) (B := B) hF on37 rfl rfl (rfl) hb5 hS.inv ?_; intro w' hm hI' hbx'
      replace hf := hf.mb hm
      replace hA := hA.mb hm (fun k h => by cases h; exact Nat.le_trans (by omega) hb5.low)
      replace hMk := hMk.mb hm (fun k e => by cases e; exact ⟨_, _, _, hb5.blk⟩)
      replace hb2 := hb2.mb hm (by simp; omega)
      replace hb3 := hb3.mb hm (by simp; omega)
      replace hb4 := hb4.mb hm (by simp; omega)
      replace hb6 := hb6.mb hm (by simp; omega)
      replace hS := hS.mb hm (fun k h => by cases h; omega)
      replace hb5 := hbx'
      clear hm hI' hbx'
      refine WL_nil (hK _ _ ?_)
      clear hK K
      replace hF := hF.sub _ (c_ 2 rfl (c_ 3 rfl (c_ 4 rfl (c_ 5 rfl (c_ 6 rfl (n_))))))
      refine W_ret ?_
      exact ⟨_, _, _, _, _, _, hMk, hS.inv, hF, rfl, rfl, fun w2 hX => ⟨ld_one scb (Box.at (hb4.xt hX)), ld_one sce (Box.at (hb5.xt hX)), (by rw [hsafe, hyes]), hS.thenX hX (Nat.le_refl _)⟩⟩

end Go.Proofs.YtkoiolamnnmokaaGreat

/- The statement ProfileSafe, walked: it returns true. -/
set_option linter.unusedVariables false
set_option linter.unusedSimpArgs false
namespace Go.Proofs.YtkoiolamnnmokaaGreat
open Go Go.Gam


namespace FxFProfileSafe
theorem en6 : Ent Tryz.prog 6 := ent Tryz.func6 (by kernel_rfl) (by kernel_rfl)
theorem en11 : Ent Tryz.prog 11 := ent Tryz.func11 (by kernel_rfl) (by kernel_rfl)
theorem en13 : Ent Tryz.prog 13 := ent Tryz.func13 (by kernel_rfl) (by kernel_rfl)
theorem en14 : Ent Tryz.prog 14 := ent Tryz.func14 (by kernel_rfl) (by kernel_rfl)
theorem en18 : Ent Tryz.prog 18 := ent Tryz.func18 (by kernel_rfl) (by kernel_rfl)
theorem en24 : Ent Tryz.prog 24 := ent Tryz.func24 (by kernel_rfl) (by kernel_rfl)
theorem fa23_0 : FieldFact Tryz.prog 23 0 0 := ff_of (sz := 0) Tryz.underlying23 (by kernel_rfl)
theorem fa23_2 : FieldFact Tryz.prog 23 2 2 := ff_of (sz := 0) Tryz.underlying23 (by kernel_rfl)
theorem sc3 : Scalar Tryz.prog 3 := ⟨_, Tryz.underlying3, by simp, by simp⟩
theorem sl36 : Sl Tryz.prog 36 53 (.slice none 0 0) 24 := sl_of Tryz.underlying36 rfl (by kernel_rfl)
end FxFProfileSafe
open FxFProfileSafe

set_option maxRecDepth 100000 in
set_option maxHeartbeats 1000000 in
theorem ProfileSafe_ok (B n0 n1 n2 : Nat) (w : World) (hI : Inv FDx B w) (hn08 : n0 < 256) (hn18 : n1 < 256) (hn28 : n2 < 256) : Ret Tryz.prog 5 [.agg #[.int .u8 (n0 : Int), .int .u8 (n1 : Int), .int .u8 (n2 : Int)]] w fun v w' => v = .bool true ∧ St FDx B w w' := by
 refine enter 48 [(0, .agg #[.int .u8 (n0 : Int), .int .u8 (n1 : Int), .int .u8 (n2 : Int)])] 2 Tryz.func5 rfl rfl rfl rfl rfl ?_; intro a hF
 have hS := St.refl hI
 refine W_sr rfl (fun K hK => ?_)
 refine s_box (D := FDx) (B := B) hF rfl (by decide) hS.inv rfl ?_; clear hF a; intro w' a hm hbx hsz hF
 replace hS := hS.mb0 hm
 clear hm
 refine sv hF (v_assign rfl) rfl ?_; clear hF a; intro a hF
 refine WL_nil (hK _ _ ?_)
 clear hK K
 replace hF := hF.sub _ (c_ 2 rfl (c_ 1 rfl (n_)))
 refine W_sr rfl (fun K hK => ?_)
 refine sc hF rfl rfl rfl en6 rfl (aw09_ok B _ hS.inv) ?_; clear hF a; intro v w' a hv hF
 obtain ⟨rfl, hS'⟩ := hv
 replace hbx := hbx.st (by decide) hS'
 replace hS := hS.trans hS'
 clear hS'
 refine sv hF (v_assign rfl) rfl ?_; clear hF a; intro a hF
 refine WL_nil (hK _ _ ?_)
 clear hK K
 replace hF := hF.sub _ (c_ 3 rfl (c_ 2 rfl (c_ 1 rfl (n_))))
 refine W_sr rfl (fun K hK => ?_)
 refine sv hF (v_loadN Tryz.underlying48 rfl (by kernel_rfl) rfl hbx) rfl ?_; clear hF a; intro a hF
 refine sc hF rfl rfl rfl en18 rfl (Some_ok B n0 n1 n2 _ hS.inv hn08 hn18 hn28) ?_; clear hF a; intro v w' a hv hF
 obtain ⟨rfl, hS'⟩ := hv
 replace hbx := hbx.st (by decide) hS'
 replace hS := hS.trans hS'
 clear hS'
 have hmay := some_may n0 n1 n2
 obtain ⟨P, hP⟩ : ∃ P : Nat, 1 + n0 % 6 = P := ⟨_, rfl⟩
 obtain ⟨k1, hKk⟩ : ∃ k : Nat, 1 + n1 % 8 = k := ⟨_, rfl⟩
 rw [hP, hKk] at hmay
 rw [hP] at hF
 rw [hKk] at hF
 obtain ⟨m1, hM1⟩ : ∃ m : Nat, 1 + n2 % (maxM (P : Int)).toNat = m := ⟨_, rfl⟩
 rw [hM1] at hmay hF
 obtain ⟨p1, p2, k_, m_, ek, em, hk1, hk8, hm1, hm4, hm3⟩ := mayP_of hmay
 obtain rfl : k1 = k_ := by omega
 obtain rfl : m1 = m_ := by omega
 clear ek em
 have hs0 := hS.ext.size
 have tb := heap_lt hbx
 refine s_allocN (D := FDx) (B := B) (z := .agg #[.int .i64 0, .int .i64 0, .int .i64 0]) hF (by kernel_rfl) (by decide) hS.inv rfl ?_; clear hF a; intro gx w' a hm hI' hx hF
 replace hbx := hbx.mb hm (by simp)
 replace hS := hS.mb0 hm
 clear hm hI'
 have hghx := hx.low
 replace hx := hx.le hs0
 clear hs0
 refine s_storeN (D := FDx) (B := B) hF (by kernel_rfl) rfl rfl (rfl) (by rfl) hx hS.inv ?_; intro w' hm hI' hrc'
 replace hbx := hbx.mb hm (by simp; omega)
 replace hS := hS.mb hm (fun k h => by cases h; exact hx.low)
 replace hx := hrc'
 clear hm hI' hrc'
 refine WL_nil (hK _ _ ?_)
 clear hK K
 replace hF := hF.sub _ (c_ 4 rfl (c_ 3 rfl (c_ 2 rfl (n_))))
 refine W_sr rfl (fun K hK => ?_)
 refine sv hF (v_loadN Tryz.underlying23 rfl (by kernel_rfl) rfl hx.blk) rfl ?_; clear hF a; intro a hF
 refine sc hF rfl rfl rfl en11 rfl (PPar_ok B (P : Int) k1 m1 _ hS.inv hmay) ?_; clear hF a; intro v w' a hv hF
 obtain ⟨sX, cX, rfl, hX, hS'⟩ := hv
 replace hbx := hbx.st (by decide) hS'
 replace hx := hx.st hS'
 replace hS := hS.trans hS'
 clear hS'
 refine sv5 hF (v_move rfl) (v_ext rfl rfl) (v_ext rfl rfl) (v_assign rfl) (v_assign rfl) rfl rfl rfl rfl rfl ?_; clear hF a; intro a hF
 refine WL_nil (hK _ _ ?_)
 clear hK K
 replace hF := hF.sub _ (c_ 6 rfl (c_ 5 rfl (c_ 4 rfl (c_ 3 rfl (c_ 2 rfl (n_))))))
 refine W_sr rfl (fun K hK => ?_)
 refine sv hF (v_fieldAddr fa23_0 rfl) rfl ?_; clear hF a; intro a hF
 refine sv hF (v_load sc3 rfl (hx.blk.at 0 rfl)) rfl ?_; clear hF a; intro a hF
 refine sc hF rfl rfl rfl en13 rfl (PField_in B (P : Int) _ hS.inv ⟨p1, p2⟩) ?_; clear hF a; intro v w' a hv hF
 obtain ⟨fv, hfv⟩ : ∃ x, x = v := ⟨_, rfl⟩
 subst hfv
 obtain ⟨hf, hS'⟩ := hv
 obtain ⟨wb, q, hq, hp⟩ := pfl_is (P : Int)
 rw [hq] at hf
 replace hbx := hbx.st (by decide) hS'
 replace hx := hx.st hS'
 replace hX := (hX.st hS').mono hS'.ext.size
 replace hS := hS.trans hS'
 clear hS'
 refine sv hF (v_move rfl) rfl ?_; clear hF a; intro a hF
 rw [show Value.slice sX m1 cX = .slice sX (tab m1 k1 (prT (P : Int) k1 m1)).length cX by rw [tab_length]] at hF
 have hsf := prT_safe hp hq hmay
 refine sc hF rfl rfl rfl en24 rfl (Safe_ok B _ wb q hp fv _ _ (tab m1 k1 (prT (P : Int) k1 m1)) _ hS.inv (Nat.le_refl _) hf hX (len20 (tab_lens (by omega) (by omega))).1 (len20 (tab_lens (by omega) (by omega))).2) ?_; clear hF a; intro v w' a hv hF
 obtain ⟨rfl, hS'⟩ := hv
 rw [hsf] at hF
 dsimp only at hF
 replace hbx := hbx.st (by decide) hS'
 replace hx := hx.st hS'
 replace hX := (hX.st hS').mono hS'.ext.size
 replace hf := hf.st hS'
 replace hS := hS.trans hS'
 clear hS'
 refine sv hF (v_move rfl) rfl ?_; clear hF a; intro a hF
 refine sv hF ((v_ext rfl rfl).as (congrArg Value.bool (rfl))) rfl ?_; clear hF a; intro a hF
 refine sv3 hF (v_ext rfl rfl) (v_assign rfl) (v_assign rfl) rfl rfl rfl ?_; clear hF a; intro a hF
 refine WL_nil (hK _ _ ?_)
 clear hK K
 replace hF := hF.sub _ (c_ 8 rfl (c_ 7 rfl (c_ 6 rfl (c_ 5 rfl (c_ 4 rfl (c_ 3 rfl (c_ 2 rfl (n_))))))))
 refine W_sr rfl (fun K hK => ?_)
 refine sv2 hF (v_move rfl) (v_move rfl) rfl rfl ?_; clear hF a; intro a hF
 refine svg hF rfl ?_
 refine sv hF (v_loadN Tryz.underlying23 rfl (by kernel_rfl) rfl hx.blk) rfl ?_; clear hF a; intro a hF
 refine svg hF rfl ?_
 refine sc hF rfl rfl rfl en14 rfl (PMay_ok B (P : Int) k1 m1 _ hS.inv) ?_; clear hF a; intro v w' a hv hF
 obtain ⟨rfl, hS'⟩ := hv
 replace hbx := hbx.st (by decide) hS'
 replace hx := hx.st hS'
 replace hX := (hX.st hS').mono hS'.ext.size
 replace hf := hf.st hS'
 replace hS := hS.trans hS'
 clear hS'
 rw [hmay] at hF
 refine sv2 hF (v_pickT rfl rfl) (v_move rfl) rfl rfl ?_; clear hF a; intro a hF
 refine svg hF rfl ?_
 refine sv hF (v_move rfl) rfl ?_; clear hF a; intro a hF
 refine svg hF rfl ?_
 refine sv hF ((v_eql rfl rfl).as (congrArg Value.bool (decide_eq_true (rfl)))) rfl ?_; clear hF a; intro a hF
 refine sv2 hF (v_pickT rfl rfl) (v_move rfl) rfl rfl ?_; clear hF a; intro a hF
 refine svg hF rfl ?_
 refine sv hF (v_move rfl) rfl ?_; clear hF a; intro a hF
 refine svg hF rfl ?_
 refine sv hF ((v_eql rfl rfl).as (congrArg Value.bool (decide_eq_true (rfl)))) rfl ?_; clear hF a; intro a hF
 refine sv2 hF (v_pickT rfl rfl) (v_move rfl) rfl rfl ?_; clear hF a; intro a hF
 refine svg hF rfl ?_
 refine sv3 hF (v_move rfl) (v_pickT rfl rfl) (v_move rfl) rfl rfl rfl ?_; clear hF a; intro a hF
 refine svg hF rfl ?_
 refine sv hF (v_move rfl) rfl ?_; clear hF a; intro a hF
 refine svg hF rfl ?_
 refine sv hF (v_lenS rfl sl36 rfl) rfl ?_; clear hF a; intro a hF
 refine svg hF rfl ?_
 refine sv hF (v_fieldAddr fa23_2 rfl) rfl ?_; clear hF a; intro a hF
 refine svg hF rfl ?_
 refine sv hF (v_load sc3 rfl (hx.blk.at 2 rfl)) rfl ?_; clear hF a; intro a hF
 refine svg hF rfl ?_
 refine sv hF ((v_eql rfl rfl).as (congrArg Value.bool (decide_eq_true (by rw [tab_length])))) rfl ?_; clear hF a; intro a hF
 refine sv2 hF (v_pickT rfl rfl) (v_assign rfl) rfl rfl ?_; clear hF a; intro a hF
 refine WL_nil (hK _ _ ?_)
 clear hK K
 replace hF := hF.sub _ (c_ 2 rfl (n_))
 refine W_ret ?_
 refine ⟨_, _, hF, rfl, ?_⟩
 exact ⟨rfl, hS⟩

end Go.Proofs.YtkoiolamnnmokaaGreat
