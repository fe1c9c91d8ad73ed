/- Texts of the claim CauchyTells (part 8), put together in the order of their imports. -/
import Derived.Test.YtaeljbdpjiciaaaKCauchyTells7
import Derived.Laws.Tables
/- The walks of package cauchy: choices. -/
set_option linter.unusedVariables false
set_option linter.unusedSimpArgs false
namespace Go.Proofs.Ytaeljbdpjiciaaa
open Go Go.Gam


namespace FxFSafe
theorem en57 : Ent Try.prog 57 := ent Try.func57 (by kernel_rfl) (by kernel_rfl)
theorem hmix : Try.prog.follows .mixedOrders = true := by kernel_rfl
theorem on3 : Gam.One Try.prog 3 := by unfold Gam.One; kernel_rfl
theorem sc124 : Scalar Try.prog 124 := ⟨_, Try.underlying124, by simp, by simp⟩
theorem sc3 : Scalar Try.prog 3 := ⟨_, Try.underlying3, by simp, by simp⟩
theorem sl37 : Sl Try.prog 37 3 (.int .i64 0) 8 := sl_of Try.underlying37 rfl (by kernel_rfl)
theorem zv3 : Zv Try.prog 3 (.int .i64 0) := zv_of rfl (by kernel_rfl)
end FxFSafe
open FxFSafe

def encL (B : Nat) (x : List Nat) (A : World) (v : Value) : Prop := Row FDx B A.heap.size A v (zints (casts x))
theorem encL_xt {B n : Nat} {x : List Nat} {v : Value} {A C : World} (h : encL B x A v) (hx : Xt FDx B n A C) : encL B x C v := (Row.xt h hx).mono hx.size

set_option maxRecDepth 100000 in
set_option maxHeartbeats 1000000 in
theorem choices_ok (B fr to m : Nat) (w : World) (hI : Inv FDx B w) : Ret Try.prog 57 [.int .i64 (fr : Int), .int .i64 (to : Int), .int .i64 (m : Int)] w fun v w' => ∃ gm gf gt, v = .func (.func 90) #[] #[.pointer (some ⟨gm, 0, none⟩), .pointer (some ⟨gf, 0, none⟩), .pointer (some ⟨gt, 0, none⟩)] ∧ Blk w' gm FDx.E [.int .i64 (m : Int)] ∧ Blk w' gf FDx.E [.int .i64 (fr : Int)] ∧ Blk w' gt FDx.E [.int .i64 (to : Int)] ∧ St FDx B w w' := by
 refine enter 8 [(0, .int .i64 (fr : Int)), (1, .int .i64 (to : Int)), (2, .int .i64 (m : Int))] 6 Try.func57 rfl rfl rfl rfl rfl ?_; intro a hF
 have hS := St.refl hI
 refine W_sr rfl (fun K hK => ?_)
 refine s_box (D := FDx) (B := B) hF rfl (by decide) hS.inv rfl ?_; clear hF a; intro w' a hm hbf hsz hF
 replace hS := hS.mb0 hm
 clear hm
 refine s_box (D := FDx) (B := B) hF rfl (by decide) hS.inv rfl ?_; clear hF a; intro w' a hm hbt hsz hF
 replace hbf := hbf.mb hm (by simp)
 replace hS := hS.mb0 hm
 clear hm
 refine s_box (D := FDx) (B := B) hF rfl (by decide) hS.inv rfl ?_; clear hF a; intro w' a hm hbm hsz hF
 replace hbf := hbf.mb hm (by simp)
 replace hbt := hbt.mb hm (by simp)
 replace hS := hS.mb0 hm
 clear hm
 refine sv hF (v_assign rfl) rfl ?_; clear hF a; intro a hF
 refine WL_nil (hK _ _ ?_)
 clear hK K
 replace hF := hF.sub _ (c_ 6 rfl (c_ 5 rfl (c_ 4 rfl (c_ 3 rfl (n_)))))
 refine W_sr rfl (fun K hK => ?_)
 refine sv hF (v_mkf rfl) rfl ?_; clear hF a; intro a hF
 refine sv hF (v_assign rfl) rfl ?_; clear hF a; intro a hF
 refine WL_nil (hK _ _ ?_)
 clear hK K
 replace hF := hF.sub _ (c_ 6 rfl (n_))
 refine W_ret ?_
 refine ⟨_, _, hF, rfl, ?_⟩
 exact ⟨_, _, _, rfl, hbm, hbf, hbt, hS⟩

set_option maxRecDepth 100000 in
set_option maxHeartbeats 1000000 in
theorem chs_zero (B to fr gm gf gt l : Nat) (J Jx : Nat → World → Prop) (w : World) (hI : Inv FDx B w) (hbm : Blk w gm FDx.E [.int .i64 ((0 : Nat) : Int)]) (hbf : Blk w gf FDx.E [.int .i64 (fr : Int)]) (hbt : Blk w gt FDx.E [.int .i64 (to : Int)]) (hJ : ∀ i A C, J i A → Xt FDx B w.heap.size A C → J i C) (hJx : ∀ i A C, Jx i A → Xt FDx B w.heap.size A C → Jx i C) (hy : ∀ i x v A, (ch to (0) fr)[i]? = some x → J i A → St FDx B w A → encL B x A v → YieldOk Try.prog l v A fun b A' => (b = true ∧ J (i + 1) A' ∧ St FDx B A A') ∨ (b = false ∧ Jx (i + 1) A' ∧ StO FDx B w.heap.size A A')) (h0 : J 0 w) : Ret Try.prog 90 [.func (.yield l) #[] #[], .pointer (some ⟨gm, 0, none⟩), .pointer (some ⟨gf, 0, none⟩), .pointer (some ⟨gt, 0, none⟩)] w fun _ A' => (J 1 A' ∧ St FDx B w A') ∨ ∃ i, Jx i A' := by
 refine enterM0 (D := FDx) (B := B) w.heap.size 34 [(0, .func (.yield l) #[] #[]), (1, .pointer (some ⟨gm, 0, none⟩)), (2, .pointer (some ⟨gf, 0, none⟩)), (3, .pointer (some ⟨gt, 0, none⟩))]  Try.func90 rfl rfl rfl rfl rfl ?_; intro a hF
 have hS := St.refl hI
 have hMk := Mk.nil w.heap.size w
 refine W_sr rfl (fun K hK => ?_)
 refine s_box (D := FDx) (B := B) hF rfl (by decide) hS.inv rfl ?_; clear hF a; intro w' a hm hby hsz hF
 replace hbm := hbm.mb hm (by simp)
 replace hMk := hMk.mb hm (fun k e => by cases e)
 replace hS := hS.mb0 hm
 clear hm
 refine WL_nil (hK _ _ ?_)
 clear hK K
 replace hF := hF.sub _ (c_ 4 rfl (c_ 1 rfl (c_ 2 rfl (c_ 3 rfl (n_)))))
 refine W_seq ?_
 refine W_sr rfl (fun K hK => ?_)
 refine sv hF (v_load sc3 rfl (hbm.at 0 rfl)) rfl ?_; clear hF a; intro a hF
 refine sv hF ((v_eql rfl rfl).as (congrArg Value.bool (decide_eq_true (rfl)))) rfl ?_; clear hF a; intro a hF
 refine WL_nil (hK _ _ ?_)
 clear hK K
 replace hF := hF.sub _ (c_ 8 rfl (c_ 4 rfl (c_ 1 rfl (c_ 2 rfl (c_ 3 rfl (n_))))))
 refine W_ifT hF rfl ?_
 refine W_srY rfl (fun K hK => ?_)
 refine svI hF rfl (v_load sc124 rfl (hby.at 0 rfl)) rfl ?_; clear hF a; intro a hF
 refine syI hF rfl rfl rfl ((hy 0 [] _ _ rfl (hJ _ _ _ h0 hS.xt) hS (Or.inl ⟨_, _, rfl, rfl⟩)).mono (fun b w' hb => ?_))
 rcases hb with ⟨rfl, hJ', hz⟩ | ⟨rfl, hX'⟩
 ·
  skip
  clear hF; intro a hF
  refine WLI_of rfl ?_
  replace hS := hS.trans hz
  replace hMk := hMk.st hz
  refine WL_nil (hK _ _ ?_)
  clear hK K
  replace hF := hF.sub _ (c_ 4 rfl (c_ 1 rfl (c_ 2 rfl (c_ 3 rfl (n_)))))
  refine W_ret ?_
  refine ⟨_, _, hMk, hS.inv, hF, fun w2 hX => ?_⟩
  first | exact Or.inl ⟨hJ _ _ _ hJ' hX, hS.thenX hX (Nat.le_refl _)⟩ | exact Or.inr ⟨_, hJx _ _ _ hX1 hX⟩
 ·
  skip
  clear hF; intro a hF
  refine WLI_of rfl ?_
  obtain ⟨hX1, hO⟩ := hX'
  clear hS hMk
  have hS := hO
  have hMk := Mk.nil w.heap.size w'
  refine WL_nil (hK _ _ ?_)
  clear hK K
  replace hF := hF.sub _ (c_ 4 rfl (c_ 1 rfl (c_ 2 rfl (c_ 3 rfl (n_)))))
  refine W_ret ?_
  refine ⟨_, _, hMk, hS.inv, hF, fun w2 hX => ?_⟩
  first | exact Or.inl ⟨hJ _ _ _ hJ' hX, hS.thenX hX (Nat.le_refl _)⟩ | exact Or.inr ⟨_, hJx _ _ _ hX1 hX⟩

set_option maxRecDepth 100000 in
set_option maxHeartbeats 1000000 in
theorem chs_succ (B to fr m gm gf gt l : Nat) (J Jx : Nat → World → Prop) (w : World) (hI : Inv FDx B w) (hsz : to ≤ 1000 ∧ fr ≤ 1000 ∧ m ≤ 1000) (hbm : Blk w gm FDx.E [.int .i64 ((m + 1 : Nat) : Int)]) (hbf : Blk w gf FDx.E [.int .i64 (fr : Int)]) (hbt : Blk w gt FDx.E [.int .i64 (to : Int)]) (hJ : ∀ i A C, J i A → Xt FDx B w.heap.size A C → J i C) (hJx : ∀ i A C, Jx i A → Xt FDx B w.heap.size A C → Jx i C) (hy : ∀ i x v A, (ch to (m + 1) fr)[i]? = some x → J i A → St FDx B w A → encL B x A v → YieldOk Try.prog l v A fun b A' => (b = true ∧ J (i + 1) A' ∧ St FDx B A A') ∨ (b = false ∧ Jx (i + 1) A' ∧ StO FDx B w.heap.size A A')) (h0 : J 0 w) (ih : ∀ (fr' : Nat) (w0 : World) (gm gf gt : Nat), fr' ≤ 1000 → Blk w0 gm FDx.E [.int .i64 (m : Int)] → Blk w0 gf FDx.E [.int .i64 (fr' : Int)] → Blk w0 gt FDx.E [.int .i64 (to : Int)] → SeqS Try.prog FDx B 90 [.pointer (some ⟨gm, 0, none⟩), .pointer (some ⟨gf, 0, none⟩), .pointer (some ⟨gt, 0, none⟩)] (encL B) (ch to m fr') w0) : Ret Try.prog 90 [.func (.yield l) #[] #[], .pointer (some ⟨gm, 0, none⟩), .pointer (some ⟨gf, 0, none⟩), .pointer (some ⟨gt, 0, none⟩)] w fun _ A' => (J (ch to (m + 1) fr).length A' ∧ St FDx B w A') ∨ ∃ i, Jx i A' := by
 refine enterM0 (D := FDx) (B := B) w.heap.size 34 [(0, .func (.yield l) #[] #[]), (1, .pointer (some ⟨gm, 0, none⟩)), (2, .pointer (some ⟨gf, 0, none⟩)), (3, .pointer (some ⟨gt, 0, none⟩))]  Try.func90 rfl rfl rfl rfl rfl ?_; intro a hF
 have hS := St.refl hI
 have hMk := Mk.nil w.heap.size w
 refine W_sr rfl (fun K hK => ?_)
 obtain ⟨gy, hgy⟩ : ∃ g, g = w.heap.size := ⟨_, rfl⟩
 refine s_box (D := FDx) (B := B) hF rfl (by decide) hS.inv rfl ?_; clear hF a; intro w' a hm hby hsz hF
 replace hbm := hbm.mb hm (by simp)
 replace hbf := hbf.mb hm (by simp)
 replace hbt := hbt.mb hm (by simp)
 replace hMk := hMk.mb hm (fun k e => by cases e)
 replace hS := hS.mb0 hm
 clear hm
 rw [← hgy] at hby hF
 have hgyl : w.heap.size ≤ gy := by omega
 clear hgy
 refine WL_nil (hK _ _ ?_)
 clear hK K
 replace hF := hF.sub _ (c_ 4 rfl (c_ 1 rfl (c_ 2 rfl (c_ 3 rfl (n_)))))
 refine W_seq ?_
 refine W_sr rfl (fun K hK => ?_)
 refine sv hF (v_load sc3 rfl (hbm.at 0 rfl)) rfl ?_; clear hF a; intro a hF
 refine sv hF ((v_eql rfl rfl).as (congrArg Value.bool (decide_eq_false (by omega)))) rfl ?_; clear hF a; intro a hF
 refine WL_nil (hK _ _ ?_)
 clear hK K
 replace hF := hF.sub _ (c_ 8 rfl (c_ 4 rfl (c_ 1 rfl (c_ 2 rfl (c_ 3 rfl (n_))))))
 refine W_ifF hF rfl ?_
 refine W_skip ?_
 refine W_sr rfl (fun K hK => ?_)
 refine sv hF (v_load sc3 rfl (hbf.at 0 rfl)) rfl ?_; clear hF a; intro a hF
 have hs0 := hS.ext.size
 obtain ⟨gi, hgi⟩ : ∃ g, g = w'.heap.size := ⟨_, rfl⟩
 have h1m := heap_lt hbm
 have h1f := heap_lt hbf
 have h1t := heap_lt hbt
 have h1y := heap_lt hby
 rw [← hgi] at hs0 h1m h1f h1t h1y
 refine s_alloc (D := FDx) (B := B) hF zv3 (by decide) hS.inv rfl ?_; clear hF a; intro w' a hm hI' hbi hsz hF
 replace hbm := hbm.mb hm (by simp)
 replace hbf := hbf.mb hm (by simp)
 replace hbt := hbt.mb hm (by simp)
 replace hMk := hMk.mb hm (fun k e => by cases e)
 replace hby := hby.mb hm (by simp)
 replace hS := hS.mb0 hm
 clear hm hI' hsz
 rw [← hgi] at hbi hF
 clear hgi
 refine s_stb (D := FDx) (B := B) hF on3 rfl rfl (rfl) hbi hS.inv ?_; intro w' hm hI' hbx'
 replace hbm := hbm.mb hm (by simp; omega)
 replace hbf := hbf.mb hm (by simp; omega)
 replace hbt := hbt.mb hm (by simp; omega)
 replace hMk := hMk.mb hm (fun k e => by cases e; exact ⟨_, _, _, hbi.blk⟩)
 replace hby := hby.mb hm (by simp; omega)
 replace hS := hS.mb hm (fun k h => by cases h; exact hs0)
 replace hbi := hbx'
 clear hm hI' hbx'
 refine WL_nil (hK _ _ ?_)
 clear hK K
 replace hF := hF.sub _ (c_ 5 rfl (c_ 4 rfl (c_ 1 rfl (c_ 3 rfl (n_)))))
 refine W_block ?_
 refine W_loop (fun q a w1 => ∃ (i gi : Nat) (ds : List Nat), Fr ⟨34, ds⟩ [(1, .pointer (some ⟨gm, 0, none⟩)), (3, .pointer (some ⟨gt, 0, none⟩)), (4, .pointer (some ⟨gy, 0, none⟩)), (5, .pointer (some ⟨gi, 0, none⟩))] a ∧ (St FDx B w w1) ∧ (Mk w.heap.size ds w1) ∧ (Blk w1 gm FDx.E [.int .i64 ((m + 1 : Nat) : Int)]) ∧ (Blk w1 gf FDx.E [.int .i64 (fr : Int)]) ∧ (Blk w1 gt FDx.E [.int .i64 (to : Int)]) ∧ (Blk w1 gy 124 [.func (.yield l) #[] #[]]) ∧ (Box FDx B gi w1 gi FDx.E (.int .i64 ((fr + i : Nat) : Int))) ∧ (w.heap.size ≤ gi) ∧ (J (chP to m fr i).length w1) ∧ (i ≤ to - m - fr) ∧ (q + i = to - m - fr)) (to - m - fr) ?_ ?_
 ·
  skip
  exact ⟨0, _, _, hF.sub _ (c_ 1 rfl (c_ 3 rfl (c_ 4 rfl (c_ 5 rfl (n_))))), hS, hMk, hbm, hbf, hbt, hby, hbi, hs0, hJ _ _ _ h0 hS.xt, by omega, by omega⟩
 ·
  skip
  clear hF
  clear hS hMk hbm hbf hbt hby hbi hs0
  rintro q a w1 ⟨i, gi, ds, hF, hS, hMk, hbm, hbf, hbt, hby, hbi, hgiw, hJ0, hi, hq⟩
  refine W_seq ?_
  refine W_sr rfl (fun K hK => ?_)
  refine sv hF (v_load sc3 rfl (hbi.blk.at 0 rfl)) rfl ?_; clear hF a; intro a hF
  refine sv hF (v_load sc3 rfl (hbt.at 0 rfl)) rfl ?_; clear hF a; intro a hF
  refine sv hF (v_load sc3 rfl (hbm.at 0 rfl)) rfl ?_; clear hF a; intro a hF
  refine sv hF (v_subI rfl rfl (by omega)) rfl ?_; clear hF a; intro a hF
  refine sv hF (v_leq rfl rfl) rfl ?_; clear hF a; intro a hF
  refine WL_nil (hK _ _ ?_)
  clear hK K
  replace hF := hF.sub _ (c_ 16 rfl (c_ 1 rfl (c_ 3 rfl (c_ 4 rfl (c_ 5 rfl (n_))))))
  refine W_if hF rfl (fun hc1 => ?_) (fun hc1 => ?_)
  ·
   skip
   try simp only [dcl] at hc1
   have hlt : i < to - m - fr := by omega
   refine W_skip ?_
   refine W_seq ?_
   refine W_block ?_
   refine W_sr rfl (fun K hK => ?_)
   refine sv hF (v_load sc3 rfl (hbi.blk.at 0 rfl)) rfl ?_; clear hF a; intro a hF
   refine sv hF ((v_addI rfl rfl (by omega)).as (show Value.int .i64 (((fr + i : Nat) : Int) + 1) = .int .i64 ((fr + i + 1 : Nat) : Int) by simp)) rfl ?_; clear hF a; intro a hF
   refine sv hF (v_load sc3 rfl (hbt.at 0 rfl)) rfl ?_; clear hF a; intro a hF
   refine sv hF (v_load sc3 rfl (hbm.at 0 rfl)) rfl ?_; clear hF a; intro a hF
   refine sv hF ((v_subI rfl rfl (by omega)).as (show Value.int .i64 (((m + 1 : Nat) : Int) - 1) = .int .i64 ((m : Nat) : Int) by congr 1; omega)) rfl ?_; clear hF a; intro a hF
   refine sc hF rfl rfl rfl en57 rfl (choices_ok B (fr + i + 1) to m _ hS.inv) ?_; clear hF a; intro v w' a hv hF
   obtain ⟨gm2, gf2, gt2, rfl, hbm2, hbf2, hbt2, hS'⟩ := hv
   replace hJ0 := hJ _ _ _ hJ0 hS'.xt
   replace hMk := hMk.st hS'
   replace hbm := hbm.st (by decide) hS'
   replace hbf := hbf.st (by decide) hS'
   replace hbt := hbt.st (by decide) hS'
   replace hby := hby.st (by decide) hS'
   replace hbi := hbi.st hS'
   replace hS := hS.trans hS'
   clear hS'
   have hsw := hS.ext.size
   have hds : ∀ d ∈ ds, d < w'.heap.size := fun d hd => heap_lt (hMk.2 d hd).2
   refine WL_nil (hK _ _ ?_)
   clear hK K
   replace hF := hF.sub _ (c_ 24 rfl (c_ 1 rfl (c_ 3 rfl (c_ 4 rfl (c_ 5 rfl (n_))))))
   refine W_block ?_
   refine W_rfS (D := FDx) (B := B) (fun k A => J ((chP to m fr i).length + k) A) (fun A => (∃ j, Jx j A) ∧ Mk w.heap.size ds A) (fun v a2 _ => Fr ⟨34, []⟩ [(4, .pointer (some ⟨gy, 0, none⟩)), (5, .pointer (some ⟨gi, 0, none⟩)), (6, v)] a2) hF rfl rfl (ent Try.func90 (by kernel_rfl) (by kernel_rfl)) hS.inv (ih (fr + i + 1) _ gm2 gf2 gt2 (by omega) hbm2 hbf2 hbt2) ?_ ?_ ?_ ?_ (hJ0) ?_ ?_ ?_ ?_
   ·
    exact fun k A C h hX => hJ _ _ _ h (hX.mono hsw)
   ·
    exact fun A C h hX => ⟨h.1.elim fun j h => ⟨j, hJx _ _ _ h (hX.mono hsw)⟩, h.2.xt hX hds⟩
   ·
    exact fun _ _ _ _ h _ => h
   ·
    exact fun x v A C h hX => encL_xt h hX
   ·
    skip
    clear hF
    intro l2 k x v A a hx hJA hSA he hF
    replace hS := St.refl hSA.inv
    refine Rd.W_reg rfl rfl (fun K hK => ?_)
    refine sv hF (v_assign rfl) rfl ?_; clear hF a; intro a hF
    refine WL_nil (hK _ _ ?_)
    clear hK K
    replace hF := hF.sub _ (c_ 6 rfl (c_ 4 rfl (c_ 5 rfl (n_))))
    exact ⟨hS, hF.sub _ (c_ 4 rfl ( c_ 5 rfl ( c_ 6 rfl (n_))))⟩
   ·
    skip
    clear hF
    intro l2 k x v A a hlp hxk hJA hSA he hF
    replace hby := hby.st (by decide) hSA
    replace hbi := hbi.st hSA
    obtain ⟨pv, cv, rfl⟩ := Row.sl he
    obtain ⟨KA, hKe⟩ : ∃ K, K = A.heap.size := ⟨_, rfl⟩
    have he : Row FDx B KA A (.slice pv (zints (casts x)).length cv) (zints (casts x)) := by rw [hKe]; exact he
    have hKA : KA ≤ A.heap.size := by omega
    have hgl := heap_lt hbi.blk
    rw [zints_length, casts_length] at he hF
    have hSW := hS.trans hSA
    have hl1 := (ch_mem.1 (List.mem_of_getElem? hxk)).1
    have hcl : (zints (casts x)).length = m := by rw [zints_length, casts_length, hl1]
    replace hS := St.refl hSA.inv
    refine Rd.W_block ?_
    refine Rd.W_sdI (m := 7) rfl hmix hS.inv (fun K hK w1 hS' hh => ?_)
    replace hby := hby.st (by decide) hS'
    replace hbi := hbi.st hS'
    replace he := he.st hS'
    replace hKA := Nat.le_trans hKA hS'.ext.size
    replace hS := hS.trans hS'
    clear hS'
    clear hh
    refine ai_3 (i := 0) (j := 1) (l := 3) (by kernel_rfl) rfl rfl rfl ?_ ?_ ?_
    ·
     skip
     refine svI hF rfl (v_load sc124 rfl (hby.at 0 rfl)) rfl ?_; clear hF a; intro a hF
     refine wli_nil ?_
     refine ai_2 (i := 1) (j := 3) (by kernel_rfl) rfl rfl ?_ ?_
     ·
      skip
      refine svI hF rfl (v_load sc3 rfl (hbi.blk.at 0 rfl)) rfl ?_; clear hF a; intro a hF
      refine wli_nil ?_
      refine ai_2 (i := 2) (j := 3) (by kernel_rfl) rfl rfl ?_ ?_
      ·
       skip
       have hKA1 := hKA
       refine WLI_of rfl ?_
       refine s_bs (D := FDx) (B := B) hF sl37 rfl rfl (by decide) (by simp [Value.cells]) (by decide) hS.inv rfl ?_; clear hF a; intro w' a hm hI' hL hF
       replace hby := hby.mb hm (by simp)
       replace hbi := hbi.mb hm (by simp)
       replace he := he.mb hm (fun _ h => by cases h)
       replace hKA := Nat.le_trans hKA hm.size
       replace hS := hS.mb0 hm
       clear hm hI'
       replace hL := hL.le hKA1
       clear hKA1
       refine WL_nil ?_
       refine ai_1 (i := 3) (by kernel_rfl) rfl ?_
       refine svI hF rfl (v_move rfl) rfl ?_; clear hF a; intro a hF
       refine wli_nil ?_
       refine ai_1 (i := 4) (by kernel_rfl) rfl ?_
       refine WLI_of rfl ?_
       refine s_app (D := FDx) (B := B) hF rfl sl37 rfl rfl hL (he) (zints_one _) (by simp only [List.length_cons, List.length_nil, hcl]; omega) (by simp only [List.length_cons, List.length_nil, hcl, maxLen]; omega) (hKA) (by decide) hS.inv rfl ?_; clear hF a; intro v' b' w' a ho' hm hI' hb' hF
       replace hby := hby.mb hm (Blk.ne_own hby hL (by decide))
       replace hbi := hbi.mb hm ((fun e => by have := (hL.lt _ e).1; omega))
       replace he := he.mb hm (fun k h => Nat.le_trans (Nat.le_refl _) (hL.lt k h).1)
       replace hKA := Nat.le_trans hKA hm.size
       replace hS := hS.mb hm (fun k h => Nat.le_trans (by omega) (hL.lt k h).1)
       replace hL := ho'
       clear hm hI' ho'
       refine WL_nil ?_
       refine ai_1 (i := 5) (by kernel_rfl) rfl ?_
       refine syI hF rfl rfl rfl ((hy ((chP to m fr i).length + k) ((fr + i) :: x) _ _ (chP_at hlt hxk) (hJ _ _ _ hJA hS.xt) (hSW.trans hS) ((hL.cast (ys := zints (casts ((fr + i) :: x))) rfl).row (by decide))).mono (fun b w' hb => ?_))
       rcases hb with ⟨rfl, hJ', hz⟩ | ⟨rfl, hX'⟩
       ·
        skip
        clear hF; intro a hF
        replace hS := hS.trans hz
        clear hz
        refine wli_nil ?_
        refine ai_1 (i := 6) (by kernel_rfl) rfl ?_
        refine svI hF rfl (v_not rfl) rfl ?_; clear hF a; intro a hF
        refine wli_nil ?_
        refine ai_done (by kernel_rfl) (hK _ _ ?_)
        clear hK K
        replace hF := hF.sub _ (c_ 32 rfl (n_))
        refine Rd.W_ifF hF rfl ?_
        refine Rd.W_skip ?_
        exact ⟨hJ', hS⟩
       ·
        skip
        clear hF; intro a hF
        obtain ⟨hX1, hO⟩ := hX'
        refine wli_nil ?_
        refine ai_1 (i := 6) (by kernel_rfl) rfl ?_
        refine svI hF rfl (v_not rfl) rfl ?_; clear hF a; intro a hF
        refine wli_nil ?_
        refine ai_done (by kernel_rfl) (hK _ _ ?_)
        clear hK K
        replace hF := hF.sub _ (c_ 32 rfl (n_))
        refine Rd.W_ifT hF rfl ?_
        refine Rd.W_ret ?_
        exact ⟨⟨⟨_, hX1⟩, ((hMk.st hSA).st hS).o hO (Nat.le_refl _)⟩, hS.o.trans (hO.mono hsw)⟩
      ·
       skip
       refine svI hF rfl (v_move rfl) rfl ?_; clear hF a; intro a hF
       refine wli_nil ?_
       refine ai_1 (i := 2) (by kernel_rfl) rfl ?_
       have hKA1 := hKA
       refine WLI_of rfl ?_
       refine s_bs (D := FDx) (B := B) hF sl37 rfl rfl (by decide) (by simp [Value.cells]) (by decide) hS.inv rfl ?_; clear hF a; intro w' a hm hI' hL hF
       replace hby := hby.mb hm (by simp)
       replace hbi := hbi.mb hm (by simp)
       replace he := he.mb hm (fun _ h => by cases h)
       replace hKA := Nat.le_trans hKA hm.size
       replace hS := hS.mb0 hm
       clear hm hI'
       replace hL := hL.le hKA1
       clear hKA1
       refine WL_nil ?_
       refine ai_1 (i := 4) (by kernel_rfl) rfl ?_
       refine WLI_of rfl ?_
       refine s_app (D := FDx) (B := B) hF rfl sl37 rfl rfl hL (he) (zints_one _) (by simp only [List.length_cons, List.length_nil, hcl]; omega) (by simp only [List.length_cons, List.length_nil, hcl, maxLen]; omega) (hKA) (by decide) hS.inv rfl ?_; clear hF a; intro v' b' w' a ho' hm hI' hb' hF
       replace hby := hby.mb hm (Blk.ne_own hby hL (by decide))
       replace hbi := hbi.mb hm ((fun e => by have := (hL.lt _ e).1; omega))
       replace he := he.mb hm (fun k h => Nat.le_trans (Nat.le_refl _) (hL.lt k h).1)
       replace hKA := Nat.le_trans hKA hm.size
       replace hS := hS.mb hm (fun k h => Nat.le_trans (by omega) (hL.lt k h).1)
       replace hL := ho'
       clear hm hI' ho'
       refine WL_nil ?_
       refine ai_1 (i := 5) (by kernel_rfl) rfl ?_
       refine syI hF rfl rfl rfl ((hy ((chP to m fr i).length + k) ((fr + i) :: x) _ _ (chP_at hlt hxk) (hJ _ _ _ hJA hS.xt) (hSW.trans hS) ((hL.cast (ys := zints (casts ((fr + i) :: x))) rfl).row (by decide))).mono (fun b w' hb => ?_))
       rcases hb with ⟨rfl, hJ', hz⟩ | ⟨rfl, hX'⟩
       ·
        skip
        clear hF; intro a hF
        replace hS := hS.trans hz
        clear hz
        refine wli_nil ?_
        refine ai_1 (i := 6) (by kernel_rfl) rfl ?_
        refine svI hF rfl (v_not rfl) rfl ?_; clear hF a; intro a hF
        refine wli_nil ?_
        refine ai_done (by kernel_rfl) (hK _ _ ?_)
        clear hK K
        replace hF := hF.sub _ (c_ 32 rfl (n_))
        refine Rd.W_ifF hF rfl ?_
        refine Rd.W_skip ?_
        exact ⟨hJ', hS⟩
       ·
        skip
        clear hF; intro a hF
        obtain ⟨hX1, hO⟩ := hX'
        refine wli_nil ?_
        refine ai_1 (i := 6) (by kernel_rfl) rfl ?_
        refine svI hF rfl (v_not rfl) rfl ?_; clear hF a; intro a hF
        refine wli_nil ?_
        refine ai_done (by kernel_rfl) (hK _ _ ?_)
        clear hK K
        replace hF := hF.sub _ (c_ 32 rfl (n_))
        refine Rd.W_ifT hF rfl ?_
        refine Rd.W_ret ?_
        exact ⟨⟨⟨_, hX1⟩, ((hMk.st hSA).st hS).o hO (Nat.le_refl _)⟩, hS.o.trans (hO.mono hsw)⟩
     ·
      skip
      refine svI hF rfl (v_move rfl) rfl ?_; clear hF a; intro a hF
      refine wli_nil ?_
      refine ai_1 (i := 1) (by kernel_rfl) rfl ?_
      refine svI hF rfl (v_load sc3 rfl (hbi.blk.at 0 rfl)) rfl ?_; clear hF a; intro a hF
      refine wli_nil ?_
      refine ai_1 (i := 2) (by kernel_rfl) rfl ?_
      have hKA1 := hKA
      refine WLI_of rfl ?_
      refine s_bs (D := FDx) (B := B) hF sl37 rfl rfl (by decide) (by simp [Value.cells]) (by decide) hS.inv rfl ?_; clear hF a; intro w' a hm hI' hL hF
      replace hby := hby.mb hm (by simp)
      replace hbi := hbi.mb hm (by simp)
      replace he := he.mb hm (fun _ h => by cases h)
      replace hKA := Nat.le_trans hKA hm.size
      replace hS := hS.mb0 hm
      clear hm hI'
      replace hL := hL.le hKA1
      clear hKA1
      refine WL_nil ?_
      refine ai_1 (i := 4) (by kernel_rfl) rfl ?_
      refine WLI_of rfl ?_
      refine s_app (D := FDx) (B := B) hF rfl sl37 rfl rfl hL (he) (zints_one _) (by simp only [List.length_cons, List.length_nil, hcl]; omega) (by simp only [List.length_cons, List.length_nil, hcl, maxLen]; omega) (hKA) (by decide) hS.inv rfl ?_; clear hF a; intro v' b' w' a ho' hm hI' hb' hF
      replace hby := hby.mb hm (Blk.ne_own hby hL (by decide))
      replace hbi := hbi.mb hm ((fun e => by have := (hL.lt _ e).1; omega))
      replace he := he.mb hm (fun k h => Nat.le_trans (Nat.le_refl _) (hL.lt k h).1)
      replace hKA := Nat.le_trans hKA hm.size
      replace hS := hS.mb hm (fun k h => Nat.le_trans (by omega) (hL.lt k h).1)
      replace hL := ho'
      clear hm hI' ho'
      refine WL_nil ?_
      refine ai_1 (i := 5) (by kernel_rfl) rfl ?_
      refine syI hF rfl rfl rfl ((hy ((chP to m fr i).length + k) ((fr + i) :: x) _ _ (chP_at hlt hxk) (hJ _ _ _ hJA hS.xt) (hSW.trans hS) ((hL.cast (ys := zints (casts ((fr + i) :: x))) rfl).row (by decide))).mono (fun b w' hb => ?_))
      rcases hb with ⟨rfl, hJ', hz⟩ | ⟨rfl, hX'⟩
      ·
       skip
       clear hF; intro a hF
       replace hS := hS.trans hz
       clear hz
       refine wli_nil ?_
       refine ai_1 (i := 6) (by kernel_rfl) rfl ?_
       refine svI hF rfl (v_not rfl) rfl ?_; clear hF a; intro a hF
       refine wli_nil ?_
       refine ai_done (by kernel_rfl) (hK _ _ ?_)
       clear hK K
       replace hF := hF.sub _ (c_ 32 rfl (n_))
       refine Rd.W_ifF hF rfl ?_
       refine Rd.W_skip ?_
       exact ⟨hJ', hS⟩
      ·
       skip
       clear hF; intro a hF
       obtain ⟨hX1, hO⟩ := hX'
       refine wli_nil ?_
       refine ai_1 (i := 6) (by kernel_rfl) rfl ?_
       refine svI hF rfl (v_not rfl) rfl ?_; clear hF a; intro a hF
       refine wli_nil ?_
       refine ai_done (by kernel_rfl) (hK _ _ ?_)
       clear hK K
       replace hF := hF.sub _ (c_ 32 rfl (n_))
       refine Rd.W_ifT hF rfl ?_
       refine Rd.W_ret ?_
       exact ⟨⟨⟨_, hX1⟩, ((hMk.st hSA).st hS).o hO (Nat.le_refl _)⟩, hS.o.trans (hO.mono hsw)⟩
    ·
     skip
     refine svI hF rfl (v_load sc3 rfl (hbi.blk.at 0 rfl)) rfl ?_; clear hF a; intro a hF
     refine wli_nil ?_
     refine ai_3 (i := 0) (j := 2) (l := 3) (by kernel_rfl) rfl rfl rfl ?_ ?_ ?_
     ·
      skip
      refine svI hF rfl (v_load sc124 rfl (hby.at 0 rfl)) rfl ?_; clear hF a; intro a hF
      refine wli_nil ?_
      refine ai_2 (i := 2) (j := 3) (by kernel_rfl) rfl rfl ?_ ?_
      ·
       skip
       have hKA1 := hKA
       refine WLI_of rfl ?_
       refine s_bs (D := FDx) (B := B) hF sl37 rfl rfl (by decide) (by simp [Value.cells]) (by decide) hS.inv rfl ?_; clear hF a; intro w' a hm hI' hL hF
       replace hby := hby.mb hm (by simp)
       replace hbi := hbi.mb hm (by simp)
       replace he := he.mb hm (fun _ h => by cases h)
       replace hKA := Nat.le_trans hKA hm.size
       replace hS := hS.mb0 hm
       clear hm hI'
       replace hL := hL.le hKA1
       clear hKA1
       refine WL_nil ?_
       refine ai_1 (i := 3) (by kernel_rfl) rfl ?_
       refine svI hF rfl (v_move rfl) rfl ?_; clear hF a; intro a hF
       refine wli_nil ?_
       refine ai_1 (i := 4) (by kernel_rfl) rfl ?_
       refine WLI_of rfl ?_
       refine s_app (D := FDx) (B := B) hF rfl sl37 rfl rfl hL (he) (zints_one _) (by simp only [List.length_cons, List.length_nil, hcl]; omega) (by simp only [List.length_cons, List.length_nil, hcl, maxLen]; omega) (hKA) (by decide) hS.inv rfl ?_; clear hF a; intro v' b' w' a ho' hm hI' hb' hF
       replace hby := hby.mb hm (Blk.ne_own hby hL (by decide))
       replace hbi := hbi.mb hm ((fun e => by have := (hL.lt _ e).1; omega))
       replace he := he.mb hm (fun k h => Nat.le_trans (Nat.le_refl _) (hL.lt k h).1)
       replace hKA := Nat.le_trans hKA hm.size
       replace hS := hS.mb hm (fun k h => Nat.le_trans (by omega) (hL.lt k h).1)
       replace hL := ho'
       clear hm hI' ho'
       refine WL_nil ?_
       refine ai_1 (i := 5) (by kernel_rfl) rfl ?_
       refine syI hF rfl rfl rfl ((hy ((chP to m fr i).length + k) ((fr + i) :: x) _ _ (chP_at hlt hxk) (hJ _ _ _ hJA hS.xt) (hSW.trans hS) ((hL.cast (ys := zints (casts ((fr + i) :: x))) rfl).row (by decide))).mono (fun b w' hb => ?_))
       rcases hb with ⟨rfl, hJ', hz⟩ | ⟨rfl, hX'⟩
       ·
        skip
        clear hF; intro a hF
        replace hS := hS.trans hz
        clear hz
        refine wli_nil ?_
        refine ai_1 (i := 6) (by kernel_rfl) rfl ?_
        refine svI hF rfl (v_not rfl) rfl ?_; clear hF a; intro a hF
        refine wli_nil ?_
        refine ai_done (by kernel_rfl) (hK _ _ ?_)
        clear hK K
        replace hF := hF.sub _ (c_ 32 rfl (n_))
        refine Rd.W_ifF hF rfl ?_
        refine Rd.W_skip ?_
        exact ⟨hJ', hS⟩
       ·
        skip
        clear hF; intro a hF
        obtain ⟨hX1, hO⟩ := hX'
        refine wli_nil ?_
        refine ai_1 (i := 6) (by kernel_rfl) rfl ?_
        refine svI hF rfl (v_not rfl) rfl ?_; clear hF a; intro a hF
        refine wli_nil ?_
        refine ai_done (by kernel_rfl) (hK _ _ ?_)
        clear hK K
        replace hF := hF.sub _ (c_ 32 rfl (n_))
        refine Rd.W_ifT hF rfl ?_
        refine Rd.W_ret ?_
        exact ⟨⟨⟨_, hX1⟩, ((hMk.st hSA).st hS).o hO (Nat.le_refl _)⟩, hS.o.trans (hO.mono hsw)⟩
      ·
       skip
       refine svI hF rfl (v_move rfl) rfl ?_; clear hF a; intro a hF
       refine wli_nil ?_
       refine ai_1 (i := 2) (by kernel_rfl) rfl ?_
       have hKA1 := hKA
       refine WLI_of rfl ?_
       refine s_bs (D := FDx) (B := B) hF sl37 rfl rfl (by decide) (by simp [Value.cells]) (by decide) hS.inv rfl ?_; clear hF a; intro w' a hm hI' hL hF
       replace hby := hby.mb hm (by simp)
       replace hbi := hbi.mb hm (by simp)
       replace he := he.mb hm (fun _ h => by cases h)
       replace hKA := Nat.le_trans hKA hm.size
       replace hS := hS.mb0 hm
       clear hm hI'
       replace hL := hL.le hKA1
       clear hKA1
       refine WL_nil ?_
       refine ai_1 (i := 4) (by kernel_rfl) rfl ?_
       refine WLI_of rfl ?_
       refine s_app (D := FDx) (B := B) hF rfl sl37 rfl rfl hL (he) (zints_one _) (by simp only [List.length_cons, List.length_nil, hcl]; omega) (by simp only [List.length_cons, List.length_nil, hcl, maxLen]; omega) (hKA) (by decide) hS.inv rfl ?_; clear hF a; intro v' b' w' a ho' hm hI' hb' hF
       replace hby := hby.mb hm (Blk.ne_own hby hL (by decide))
       replace hbi := hbi.mb hm ((fun e => by have := (hL.lt _ e).1; omega))
       replace he := he.mb hm (fun k h => Nat.le_trans (Nat.le_refl _) (hL.lt k h).1)
       replace hKA := Nat.le_trans hKA hm.size
       replace hS := hS.mb hm (fun k h => Nat.le_trans (by omega) (hL.lt k h).1)
       replace hL := ho'
       clear hm hI' ho'
       refine WL_nil ?_
       refine ai_1 (i := 5) (by kernel_rfl) rfl ?_
       refine syI hF rfl rfl rfl ((hy ((chP to m fr i).length + k) ((fr + i) :: x) _ _ (chP_at hlt hxk) (hJ _ _ _ hJA hS.xt) (hSW.trans hS) ((hL.cast (ys := zints (casts ((fr + i) :: x))) rfl).row (by decide))).mono (fun b w' hb => ?_))
       rcases hb with ⟨rfl, hJ', hz⟩ | ⟨rfl, hX'⟩
       ·
        skip
        clear hF; intro a hF
        replace hS := hS.trans hz
        clear hz
        refine wli_nil ?_
        refine ai_1 (i := 6) (by kernel_rfl) rfl ?_
        refine svI hF rfl (v_not rfl) rfl ?_; clear hF a; intro a hF
        refine wli_nil ?_
        refine ai_done (by kernel_rfl) (hK _ _ ?_)
        clear hK K
        replace hF := hF.sub _ (c_ 32 rfl (n_))
        refine Rd.W_ifF hF rfl ?_
        refine Rd.W_skip ?_
        exact ⟨hJ', hS⟩
       ·
        skip
        clear hF; intro a hF
        obtain ⟨hX1, hO⟩ := hX'
        refine wli_nil ?_
        refine ai_1 (i := 6) (by kernel_rfl) rfl ?_
        refine svI hF rfl (v_not rfl) rfl ?_; clear hF a; intro a hF
        refine wli_nil ?_
        refine ai_done (by kernel_rfl) (hK _ _ ?_)
        clear hK K
        replace hF := hF.sub _ (c_ 32 rfl (n_))
        refine Rd.W_ifT hF rfl ?_
        refine Rd.W_ret ?_
        exact ⟨⟨⟨_, hX1⟩, ((hMk.st hSA).st hS).o hO (Nat.le_refl _)⟩, hS.o.trans (hO.mono hsw)⟩
     ·
      skip
      have hKA1 := hKA
      refine WLI_of rfl ?_
      refine s_bs (D := FDx) (B := B) hF sl37 rfl rfl (by decide) (by simp [Value.cells]) (by decide) hS.inv rfl ?_; clear hF a; intro w' a hm hI' hL hF
      replace hby := hby.mb hm (by simp)
      replace hbi := hbi.mb hm (by simp)
      replace he := he.mb hm (fun _ h => by cases h)
      replace hKA := Nat.le_trans hKA hm.size
      replace hS := hS.mb0 hm
      clear hm hI'
      replace hL := hL.le hKA1
      clear hKA1
      refine WL_nil ?_
      refine ai_2 (i := 0) (j := 3) (by kernel_rfl) rfl rfl ?_ ?_
      ·
       skip
       refine svI hF rfl (v_load sc124 rfl (hby.at 0 rfl)) rfl ?_; clear hF a; intro a hF
       refine wli_nil ?_
       refine ai_1 (i := 3) (by kernel_rfl) rfl ?_
       refine svI hF rfl (v_move rfl) rfl ?_; clear hF a; intro a hF
       refine wli_nil ?_
       refine ai_1 (i := 4) (by kernel_rfl) rfl ?_
       refine WLI_of rfl ?_
       refine s_app (D := FDx) (B := B) hF rfl sl37 rfl rfl hL (he) (zints_one _) (by simp only [List.length_cons, List.length_nil, hcl]; omega) (by simp only [List.length_cons, List.length_nil, hcl, maxLen]; omega) (hKA) (by decide) hS.inv rfl ?_; clear hF a; intro v' b' w' a ho' hm hI' hb' hF
       replace hby := hby.mb hm (Blk.ne_own hby hL (by decide))
       replace hbi := hbi.mb hm ((fun e => by have := (hL.lt _ e).1; omega))
       replace he := he.mb hm (fun k h => Nat.le_trans (Nat.le_refl _) (hL.lt k h).1)
       replace hKA := Nat.le_trans hKA hm.size
       replace hS := hS.mb hm (fun k h => Nat.le_trans (by omega) (hL.lt k h).1)
       replace hL := ho'
       clear hm hI' ho'
       refine WL_nil ?_
       refine ai_1 (i := 5) (by kernel_rfl) rfl ?_
       refine syI hF rfl rfl rfl ((hy ((chP to m fr i).length + k) ((fr + i) :: x) _ _ (chP_at hlt hxk) (hJ _ _ _ hJA hS.xt) (hSW.trans hS) ((hL.cast (ys := zints (casts ((fr + i) :: x))) rfl).row (by decide))).mono (fun b w' hb => ?_))
       rcases hb with ⟨rfl, hJ', hz⟩ | ⟨rfl, hX'⟩
       ·
        skip
        clear hF; intro a hF
        replace hS := hS.trans hz
        clear hz
        refine wli_nil ?_
        refine ai_1 (i := 6) (by kernel_rfl) rfl ?_
        refine svI hF rfl (v_not rfl) rfl ?_; clear hF a; intro a hF
        refine wli_nil ?_
        refine ai_done (by kernel_rfl) (hK _ _ ?_)
        clear hK K
        replace hF := hF.sub _ (c_ 32 rfl (n_))
        refine Rd.W_ifF hF rfl ?_
        refine Rd.W_skip ?_
        exact ⟨hJ', hS⟩
       ·
        skip
        clear hF; intro a hF
        obtain ⟨hX1, hO⟩ := hX'
        refine wli_nil ?_
        refine ai_1 (i := 6) (by kernel_rfl) rfl ?_
        refine svI hF rfl (v_not rfl) rfl ?_; clear hF a; intro a hF
        refine wli_nil ?_
        refine ai_done (by kernel_rfl) (hK _ _ ?_)
        clear hK K
        replace hF := hF.sub _ (c_ 32 rfl (n_))
        refine Rd.W_ifT hF rfl ?_
        refine Rd.W_ret ?_
        exact ⟨⟨⟨_, hX1⟩, ((hMk.st hSA).st hS).o hO (Nat.le_refl _)⟩, hS.o.trans (hO.mono hsw)⟩
      ·
       skip
       refine svI hF rfl (v_move rfl) rfl ?_; clear hF a; intro a hF
       refine wli_nil ?_
       refine ai_2 (i := 0) (j := 4) (by kernel_rfl) rfl rfl ?_ ?_
       ·
        skip
        refine svI hF rfl (v_load sc124 rfl (hby.at 0 rfl)) rfl ?_; clear hF a; intro a hF
        refine wli_nil ?_
        refine ai_1 (i := 4) (by kernel_rfl) rfl ?_
        refine WLI_of rfl ?_
        refine s_app (D := FDx) (B := B) hF rfl sl37 rfl rfl hL (he) (zints_one _) (by simp only [List.length_cons, List.length_nil, hcl]; omega) (by simp only [List.length_cons, List.length_nil, hcl, maxLen]; omega) (hKA) (by decide) hS.inv rfl ?_; clear hF a; intro v' b' w' a ho' hm hI' hb' hF
        replace hby := hby.mb hm (Blk.ne_own hby hL (by decide))
        replace hbi := hbi.mb hm ((fun e => by have := (hL.lt _ e).1; omega))
        replace he := he.mb hm (fun k h => Nat.le_trans (Nat.le_refl _) (hL.lt k h).1)
        replace hKA := Nat.le_trans hKA hm.size
        replace hS := hS.mb hm (fun k h => Nat.le_trans (by omega) (hL.lt k h).1)
        replace hL := ho'
        clear hm hI' ho'
        refine WL_nil ?_
        refine ai_1 (i := 5) (by kernel_rfl) rfl ?_
        refine syI hF rfl rfl rfl ((hy ((chP to m fr i).length + k) ((fr + i) :: x) _ _ (chP_at hlt hxk) (hJ _ _ _ hJA hS.xt) (hSW.trans hS) ((hL.cast (ys := zints (casts ((fr + i) :: x))) rfl).row (by decide))).mono (fun b w' hb => ?_))
        rcases hb with ⟨rfl, hJ', hz⟩ | ⟨rfl, hX'⟩
        ·
         skip
         clear hF; intro a hF
         replace hS := hS.trans hz
         clear hz
         refine wli_nil ?_
         refine ai_1 (i := 6) (by kernel_rfl) rfl ?_
         refine svI hF rfl (v_not rfl) rfl ?_; clear hF a; intro a hF
         refine wli_nil ?_
         refine ai_done (by kernel_rfl) (hK _ _ ?_)
         clear hK K
         replace hF := hF.sub _ (c_ 32 rfl (n_))
         refine Rd.W_ifF hF rfl ?_
         refine Rd.W_skip ?_
         exact ⟨hJ', hS⟩
        ·
         skip
         clear hF; intro a hF
         obtain ⟨hX1, hO⟩ := hX'
         refine wli_nil ?_
         refine ai_1 (i := 6) (by kernel_rfl) rfl ?_
         refine svI hF rfl (v_not rfl) rfl ?_; clear hF a; intro a hF
         refine wli_nil ?_
         refine ai_done (by kernel_rfl) (hK _ _ ?_)
         clear hK K
         replace hF := hF.sub _ (c_ 32 rfl (n_))
         refine Rd.W_ifT hF rfl ?_
         refine Rd.W_ret ?_
         exact ⟨⟨⟨_, hX1⟩, ((hMk.st hSA).st hS).o hO (Nat.le_refl _)⟩, hS.o.trans (hO.mono hsw)⟩
       ·
        skip
        refine WLI_of rfl ?_
        refine s_app (D := FDx) (B := B) hF rfl sl37 rfl rfl hL (he) (zints_one _) (by simp only [List.length_cons, List.length_nil, hcl]; omega) (by simp only [List.length_cons, List.length_nil, hcl, maxLen]; omega) (hKA) (by decide) hS.inv rfl ?_; clear hF a; intro v' b' w' a ho' hm hI' hb' hF
        replace hby := hby.mb hm (Blk.ne_own hby hL (by decide))
        replace hbi := hbi.mb hm ((fun e => by have := (hL.lt _ e).1; omega))
        replace he := he.mb hm (fun k h => Nat.le_trans (Nat.le_refl _) (hL.lt k h).1)
        replace hKA := Nat.le_trans hKA hm.size
        replace hS := hS.mb hm (fun k h => Nat.le_trans (by omega) (hL.lt k h).1)
        replace hL := ho'
        clear hm hI' ho'
        refine WL_nil ?_
        refine ai_1 (i := 0) (by kernel_rfl) rfl ?_
        refine svI hF rfl (v_load sc124 rfl (hby.at 0 rfl)) rfl ?_; clear hF a; intro a hF
        refine wli_nil ?_
        refine ai_1 (i := 5) (by kernel_rfl) rfl ?_
        refine syI hF rfl rfl rfl ((hy ((chP to m fr i).length + k) ((fr + i) :: x) _ _ (chP_at hlt hxk) (hJ _ _ _ hJA hS.xt) (hSW.trans hS) ((hL.cast (ys := zints (casts ((fr + i) :: x))) rfl).row (by decide))).mono (fun b w' hb => ?_))
        rcases hb with ⟨rfl, hJ', hz⟩ | ⟨rfl, hX'⟩
        ·
         skip
         clear hF; intro a hF
         replace hS := hS.trans hz
         clear hz
         refine wli_nil ?_
         refine ai_1 (i := 6) (by kernel_rfl) rfl ?_
         refine svI hF rfl (v_not rfl) rfl ?_; clear hF a; intro a hF
         refine wli_nil ?_
         refine ai_done (by kernel_rfl) (hK _ _ ?_)
         clear hK K
         replace hF := hF.sub _ (c_ 32 rfl (n_))
         refine Rd.W_ifF hF rfl ?_
         refine Rd.W_skip ?_
         exact ⟨hJ', hS⟩
        ·
         skip
         clear hF; intro a hF
         obtain ⟨hX1, hO⟩ := hX'
         refine wli_nil ?_
         refine ai_1 (i := 6) (by kernel_rfl) rfl ?_
         refine svI hF rfl (v_not rfl) rfl ?_; clear hF a; intro a hF
         refine wli_nil ?_
         refine ai_done (by kernel_rfl) (hK _ _ ?_)
         clear hK K
         replace hF := hF.sub _ (c_ 32 rfl (n_))
         refine Rd.W_ifT hF rfl ?_
         refine Rd.W_ret ?_
         exact ⟨⟨⟨_, hX1⟩, ((hMk.st hSA).st hS).o hO (Nat.le_refl _)⟩, hS.o.trans (hO.mono hsw)⟩
     ·
      skip
      refine svI hF rfl (v_move rfl) rfl ?_; clear hF a; intro a hF
      refine wli_nil ?_
      refine ai_2 (i := 0) (j := 2) (by kernel_rfl) rfl rfl ?_ ?_
      ·
       skip
       refine svI hF rfl (v_load sc124 rfl (hby.at 0 rfl)) rfl ?_; clear hF a; intro a hF
       refine wli_nil ?_
       refine ai_1 (i := 2) (by kernel_rfl) rfl ?_
       have hKA1 := hKA
       refine WLI_of rfl ?_
       refine s_bs (D := FDx) (B := B) hF sl37 rfl rfl (by decide) (by simp [Value.cells]) (by decide) hS.inv rfl ?_; clear hF a; intro w' a hm hI' hL hF
       replace hby := hby.mb hm (by simp)
       replace hbi := hbi.mb hm (by simp)
       replace he := he.mb hm (fun _ h => by cases h)
       replace hKA := Nat.le_trans hKA hm.size
       replace hS := hS.mb0 hm
       clear hm hI'
       replace hL := hL.le hKA1
       clear hKA1
       refine WL_nil ?_
       refine ai_1 (i := 4) (by kernel_rfl) rfl ?_
       refine WLI_of rfl ?_
       refine s_app (D := FDx) (B := B) hF rfl sl37 rfl rfl hL (he) (zints_one _) (by simp only [List.length_cons, List.length_nil, hcl]; omega) (by simp only [List.length_cons, List.length_nil, hcl, maxLen]; omega) (hKA) (by decide) hS.inv rfl ?_; clear hF a; intro v' b' w' a ho' hm hI' hb' hF
       replace hby := hby.mb hm (Blk.ne_own hby hL (by decide))
       replace hbi := hbi.mb hm ((fun e => by have := (hL.lt _ e).1; omega))
       replace he := he.mb hm (fun k h => Nat.le_trans (Nat.le_refl _) (hL.lt k h).1)
       replace hKA := Nat.le_trans hKA hm.size
       replace hS := hS.mb hm (fun k h => Nat.le_trans (by omega) (hL.lt k h).1)
       replace hL := ho'
       clear hm hI' ho'
       refine WL_nil ?_
       refine ai_1 (i := 5) (by kernel_rfl) rfl ?_
       refine syI hF rfl rfl rfl ((hy ((chP to m fr i).length + k) ((fr + i) :: x) _ _ (chP_at hlt hxk) (hJ _ _ _ hJA hS.xt) (hSW.trans hS) ((hL.cast (ys := zints (casts ((fr + i) :: x))) rfl).row (by decide))).mono (fun b w' hb => ?_))
       rcases hb with ⟨rfl, hJ', hz⟩ | ⟨rfl, hX'⟩
       ·
        skip
        clear hF; intro a hF
        replace hS := hS.trans hz
        clear hz
        refine wli_nil ?_
        refine ai_1 (i := 6) (by kernel_rfl) rfl ?_
        refine svI hF rfl (v_not rfl) rfl ?_; clear hF a; intro a hF
        refine wli_nil ?_
        refine ai_done (by kernel_rfl) (hK _ _ ?_)
        clear hK K
        replace hF := hF.sub _ (c_ 32 rfl (n_))
        refine Rd.W_ifF hF rfl ?_
        refine Rd.W_skip ?_
        exact ⟨hJ', hS⟩
       ·
        skip
        clear hF; intro a hF
        obtain ⟨hX1, hO⟩ := hX'
        refine wli_nil ?_
        refine ai_1 (i := 6) (by kernel_rfl) rfl ?_
        refine svI hF rfl (v_not rfl) rfl ?_; clear hF a; intro a hF
        refine wli_nil ?_
        refine ai_done (by kernel_rfl) (hK _ _ ?_)
        clear hK K
        replace hF := hF.sub _ (c_ 32 rfl (n_))
        refine Rd.W_ifT hF rfl ?_
        refine Rd.W_ret ?_
        exact ⟨⟨⟨_, hX1⟩, ((hMk.st hSA).st hS).o hO (Nat.le_refl _)⟩, hS.o.trans (hO.mono hsw)⟩
      ·
       skip
       have hKA1 := hKA
       refine WLI_of rfl ?_
       refine s_bs (D := FDx) (B := B) hF sl37 rfl rfl (by decide) (by simp [Value.cells]) (by decide) hS.inv rfl ?_; clear hF a; intro w' a hm hI' hL hF
       replace hby := hby.mb hm (by simp)
       replace hbi := hbi.mb hm (by simp)
       replace he := he.mb hm (fun _ h => by cases h)
       replace hKA := Nat.le_trans hKA hm.size
       replace hS := hS.mb0 hm
       clear hm hI'
       replace hL := hL.le hKA1
       clear hKA1
       refine WL_nil ?_
       refine ai_2 (i := 0) (j := 4) (by kernel_rfl) rfl rfl ?_ ?_
       ·
        skip
        refine svI hF rfl (v_load sc124 rfl (hby.at 0 rfl)) rfl ?_; clear hF a; intro a hF
        refine wli_nil ?_
        refine ai_1 (i := 4) (by kernel_rfl) rfl ?_
        refine WLI_of rfl ?_
        refine s_app (D := FDx) (B := B) hF rfl sl37 rfl rfl hL (he) (zints_one _) (by simp only [List.length_cons, List.length_nil, hcl]; omega) (by simp only [List.length_cons, List.length_nil, hcl, maxLen]; omega) (hKA) (by decide) hS.inv rfl ?_; clear hF a; intro v' b' w' a ho' hm hI' hb' hF
        replace hby := hby.mb hm (Blk.ne_own hby hL (by decide))
        replace hbi := hbi.mb hm ((fun e => by have := (hL.lt _ e).1; omega))
        replace he := he.mb hm (fun k h => Nat.le_trans (Nat.le_refl _) (hL.lt k h).1)
        replace hKA := Nat.le_trans hKA hm.size
        replace hS := hS.mb hm (fun k h => Nat.le_trans (by omega) (hL.lt k h).1)
        replace hL := ho'
        clear hm hI' ho'
        refine WL_nil ?_
        refine ai_1 (i := 5) (by kernel_rfl) rfl ?_
        refine syI hF rfl rfl rfl ((hy ((chP to m fr i).length + k) ((fr + i) :: x) _ _ (chP_at hlt hxk) (hJ _ _ _ hJA hS.xt) (hSW.trans hS) ((hL.cast (ys := zints (casts ((fr + i) :: x))) rfl).row (by decide))).mono (fun b w' hb => ?_))
        rcases hb with ⟨rfl, hJ', hz⟩ | ⟨rfl, hX'⟩
        ·
         skip
         clear hF; intro a hF
         replace hS := hS.trans hz
         clear hz
         refine wli_nil ?_
         refine ai_1 (i := 6) (by kernel_rfl) rfl ?_
         refine svI hF rfl (v_not rfl) rfl ?_; clear hF a; intro a hF
         refine wli_nil ?_
         refine ai_done (by kernel_rfl) (hK _ _ ?_)
         clear hK K
         replace hF := hF.sub _ (c_ 32 rfl (n_))
         refine Rd.W_ifF hF rfl ?_
         refine Rd.W_skip ?_
         exact ⟨hJ', hS⟩
        ·
         skip
         clear hF; intro a hF
         obtain ⟨hX1, hO⟩ := hX'
         refine wli_nil ?_
         refine ai_1 (i := 6) (by kernel_rfl) rfl ?_
         refine svI hF rfl (v_not rfl) rfl ?_; clear hF a; intro a hF
         refine wli_nil ?_
         refine ai_done (by kernel_rfl) (hK _ _ ?_)
         clear hK K
         replace hF := hF.sub _ (c_ 32 rfl (n_))
         refine Rd.W_ifT hF rfl ?_
         refine Rd.W_ret ?_
         exact ⟨⟨⟨_, hX1⟩, ((hMk.st hSA).st hS).o hO (Nat.le_refl _)⟩, hS.o.trans (hO.mono hsw)⟩
       ·
        skip
        refine WLI_of rfl ?_
        refine s_app (D := FDx) (B := B) hF rfl sl37 rfl rfl hL (he) (zints_one _) (by simp only [List.length_cons, List.length_nil, hcl]; omega) (by simp only [List.length_cons, List.length_nil, hcl, maxLen]; omega) (hKA) (by decide) hS.inv rfl ?_; clear hF a; intro v' b' w' a ho' hm hI' hb' hF
        replace hby := hby.mb hm (Blk.ne_own hby hL (by decide))
        replace hbi := hbi.mb hm ((fun e => by have := (hL.lt _ e).1; omega))
        replace he := he.mb hm (fun k h => Nat.le_trans (Nat.le_refl _) (hL.lt k h).1)
        replace hKA := Nat.le_trans hKA hm.size
        replace hS := hS.mb hm (fun k h => Nat.le_trans (by omega) (hL.lt k h).1)
        replace hL := ho'
        clear hm hI' ho'
        refine WL_nil ?_
        refine ai_1 (i := 0) (by kernel_rfl) rfl ?_
        refine svI hF rfl (v_load sc124 rfl (hby.at 0 rfl)) rfl ?_; clear hF a; intro a hF
        refine wli_nil ?_
        refine ai_1 (i := 5) (by kernel_rfl) rfl ?_
        refine syI hF rfl rfl rfl ((hy ((chP to m fr i).length + k) ((fr + i) :: x) _ _ (chP_at hlt hxk) (hJ _ _ _ hJA hS.xt) (hSW.trans hS) ((hL.cast (ys := zints (casts ((fr + i) :: x))) rfl).row (by decide))).mono (fun b w' hb => ?_))
        rcases hb with ⟨rfl, hJ', hz⟩ | ⟨rfl, hX'⟩
        ·
         skip
         clear hF; intro a hF
         replace hS := hS.trans hz
         clear hz
         refine wli_nil ?_
         refine ai_1 (i := 6) (by kernel_rfl) rfl ?_
         refine svI hF rfl (v_not rfl) rfl ?_; clear hF a; intro a hF
         refine wli_nil ?_
         refine ai_done (by kernel_rfl) (hK _ _ ?_)
         clear hK K
         replace hF := hF.sub _ (c_ 32 rfl (n_))
         refine Rd.W_ifF hF rfl ?_
         refine Rd.W_skip ?_
         exact ⟨hJ', hS⟩
        ·
         skip
         clear hF; intro a hF
         obtain ⟨hX1, hO⟩ := hX'
         refine wli_nil ?_
         refine ai_1 (i := 6) (by kernel_rfl) rfl ?_
         refine svI hF rfl (v_not rfl) rfl ?_; clear hF a; intro a hF
         refine wli_nil ?_
         refine ai_done (by kernel_rfl) (hK _ _ ?_)
         clear hK K
         replace hF := hF.sub _ (c_ 32 rfl (n_))
         refine Rd.W_ifT hF rfl ?_
         refine Rd.W_ret ?_
         exact ⟨⟨⟨_, hX1⟩, ((hMk.st hSA).st hS).o hO (Nat.le_refl _)⟩, hS.o.trans (hO.mono hsw)⟩
    ·
     skip
     refine svI hF rfl (v_move rfl) rfl ?_; clear hF a; intro a hF
     refine wli_nil ?_
     refine ai_2 (i := 0) (j := 1) (by kernel_rfl) rfl rfl ?_ ?_
     ·
      skip
      refine svI hF rfl (v_load sc124 rfl (hby.at 0 rfl)) rfl ?_; clear hF a; intro a hF
      refine wli_nil ?_
      refine ai_1 (i := 1) (by kernel_rfl) rfl ?_
      refine svI hF rfl (v_load sc3 rfl (hbi.blk.at 0 rfl)) rfl ?_; clear hF a; intro a hF
      refine wli_nil ?_
      refine ai_1 (i := 2) (by kernel_rfl) rfl ?_
      have hKA1 := hKA
      refine WLI_of rfl ?_
      refine s_bs (D := FDx) (B := B) hF sl37 rfl rfl (by decide) (by simp [Value.cells]) (by decide) hS.inv rfl ?_; clear hF a; intro w' a hm hI' hL hF
      replace hby := hby.mb hm (by simp)
      replace hbi := hbi.mb hm (by simp)
      replace he := he.mb hm (fun _ h => by cases h)
      replace hKA := Nat.le_trans hKA hm.size
      replace hS := hS.mb0 hm
      clear hm hI'
      replace hL := hL.le hKA1
      clear hKA1
      refine WL_nil ?_
      refine ai_1 (i := 4) (by kernel_rfl) rfl ?_
      refine WLI_of rfl ?_
      refine s_app (D := FDx) (B := B) hF rfl sl37 rfl rfl hL (he) (zints_one _) (by simp only [List.length_cons, List.length_nil, hcl]; omega) (by simp only [List.length_cons, List.length_nil, hcl, maxLen]; omega) (hKA) (by decide) hS.inv rfl ?_; clear hF a; intro v' b' w' a ho' hm hI' hb' hF
      replace hby := hby.mb hm (Blk.ne_own hby hL (by decide))
      replace hbi := hbi.mb hm ((fun e => by have := (hL.lt _ e).1; omega))
      replace he := he.mb hm (fun k h => Nat.le_trans (Nat.le_refl _) (hL.lt k h).1)
      replace hKA := Nat.le_trans hKA hm.size
      replace hS := hS.mb hm (fun k h => Nat.le_trans (by omega) (hL.lt k h).1)
      replace hL := ho'
      clear hm hI' ho'
      refine WL_nil ?_
      refine ai_1 (i := 5) (by kernel_rfl) rfl ?_
      refine syI hF rfl rfl rfl ((hy ((chP to m fr i).length + k) ((fr + i) :: x) _ _ (chP_at hlt hxk) (hJ _ _ _ hJA hS.xt) (hSW.trans hS) ((hL.cast (ys := zints (casts ((fr + i) :: x))) rfl).row (by decide))).mono (fun b w' hb => ?_))
      rcases hb with ⟨rfl, hJ', hz⟩ | ⟨rfl, hX'⟩
      ·
       skip
       clear hF; intro a hF
       replace hS := hS.trans hz
       clear hz
       refine wli_nil ?_
       refine ai_1 (i := 6) (by kernel_rfl) rfl ?_
       refine svI hF rfl (v_not rfl) rfl ?_; clear hF a; intro a hF
       refine wli_nil ?_
       refine ai_done (by kernel_rfl) (hK _ _ ?_)
       clear hK K
       replace hF := hF.sub _ (c_ 32 rfl (n_))
       refine Rd.W_ifF hF rfl ?_
       refine Rd.W_skip ?_
       exact ⟨hJ', hS⟩
      ·
       skip
       clear hF; intro a hF
       obtain ⟨hX1, hO⟩ := hX'
       refine wli_nil ?_
       refine ai_1 (i := 6) (by kernel_rfl) rfl ?_
       refine svI hF rfl (v_not rfl) rfl ?_; clear hF a; intro a hF
       refine wli_nil ?_
       refine ai_done (by kernel_rfl) (hK _ _ ?_)
       clear hK K
       replace hF := hF.sub _ (c_ 32 rfl (n_))
       refine Rd.W_ifT hF rfl ?_
       refine Rd.W_ret ?_
       exact ⟨⟨⟨_, hX1⟩, ((hMk.st hSA).st hS).o hO (Nat.le_refl _)⟩, hS.o.trans (hO.mono hsw)⟩
     ·
      skip
      refine svI hF rfl (v_load sc3 rfl (hbi.blk.at 0 rfl)) rfl ?_; clear hF a; intro a hF
      refine wli_nil ?_
      refine ai_2 (i := 0) (j := 2) (by kernel_rfl) rfl rfl ?_ ?_
      ·
       skip
       refine svI hF rfl (v_load sc124 rfl (hby.at 0 rfl)) rfl ?_; clear hF a; intro a hF
       refine wli_nil ?_
       refine ai_1 (i := 2) (by kernel_rfl) rfl ?_
       have hKA1 := hKA
       refine WLI_of rfl ?_
       refine s_bs (D := FDx) (B := B) hF sl37 rfl rfl (by decide) (by simp [Value.cells]) (by decide) hS.inv rfl ?_; clear hF a; intro w' a hm hI' hL hF
       replace hby := hby.mb hm (by simp)
       replace hbi := hbi.mb hm (by simp)
       replace he := he.mb hm (fun _ h => by cases h)
       replace hKA := Nat.le_trans hKA hm.size
       replace hS := hS.mb0 hm
       clear hm hI'
       replace hL := hL.le hKA1
       clear hKA1
       refine WL_nil ?_
       refine ai_1 (i := 4) (by kernel_rfl) rfl ?_
       refine WLI_of rfl ?_
       refine s_app (D := FDx) (B := B) hF rfl sl37 rfl rfl hL (he) (zints_one _) (by simp only [List.length_cons, List.length_nil, hcl]; omega) (by simp only [List.length_cons, List.length_nil, hcl, maxLen]; omega) (hKA) (by decide) hS.inv rfl ?_; clear hF a; intro v' b' w' a ho' hm hI' hb' hF
       replace hby := hby.mb hm (Blk.ne_own hby hL (by decide))
       replace hbi := hbi.mb hm ((fun e => by have := (hL.lt _ e).1; omega))
       replace he := he.mb hm (fun k h => Nat.le_trans (Nat.le_refl _) (hL.lt k h).1)
       replace hKA := Nat.le_trans hKA hm.size
       replace hS := hS.mb hm (fun k h => Nat.le_trans (by omega) (hL.lt k h).1)
       replace hL := ho'
       clear hm hI' ho'
       refine WL_nil ?_
       refine ai_1 (i := 5) (by kernel_rfl) rfl ?_
       refine syI hF rfl rfl rfl ((hy ((chP to m fr i).length + k) ((fr + i) :: x) _ _ (chP_at hlt hxk) (hJ _ _ _ hJA hS.xt) (hSW.trans hS) ((hL.cast (ys := zints (casts ((fr + i) :: x))) rfl).row (by decide))).mono (fun b w' hb => ?_))
       rcases hb with ⟨rfl, hJ', hz⟩ | ⟨rfl, hX'⟩
       ·
        skip
        clear hF; intro a hF
        replace hS := hS.trans hz
        clear hz
        refine wli_nil ?_
        refine ai_1 (i := 6) (by kernel_rfl) rfl ?_
        refine svI hF rfl (v_not rfl) rfl ?_; clear hF a; intro a hF
        refine wli_nil ?_
        refine ai_done (by kernel_rfl) (hK _ _ ?_)
        clear hK K
        replace hF := hF.sub _ (c_ 32 rfl (n_))
        refine Rd.W_ifF hF rfl ?_
        refine Rd.W_skip ?_
        exact ⟨hJ', hS⟩
       ·
        skip
        clear hF; intro a hF
        obtain ⟨hX1, hO⟩ := hX'
        refine wli_nil ?_
        refine ai_1 (i := 6) (by kernel_rfl) rfl ?_
        refine svI hF rfl (v_not rfl) rfl ?_; clear hF a; intro a hF
        refine wli_nil ?_
        refine ai_done (by kernel_rfl) (hK _ _ ?_)
        clear hK K
        replace hF := hF.sub _ (c_ 32 rfl (n_))
        refine Rd.W_ifT hF rfl ?_
        refine Rd.W_ret ?_
        exact ⟨⟨⟨_, hX1⟩, ((hMk.st hSA).st hS).o hO (Nat.le_refl _)⟩, hS.o.trans (hO.mono hsw)⟩
      ·
       skip
       have hKA1 := hKA
       refine WLI_of rfl ?_
       refine s_bs (D := FDx) (B := B) hF sl37 rfl rfl (by decide) (by simp [Value.cells]) (by decide) hS.inv rfl ?_; clear hF a; intro w' a hm hI' hL hF
       replace hby := hby.mb hm (by simp)
       replace hbi := hbi.mb hm (by simp)
       replace he := he.mb hm (fun _ h => by cases h)
       replace hKA := Nat.le_trans hKA hm.size
       replace hS := hS.mb0 hm
       clear hm hI'
       replace hL := hL.le hKA1
       clear hKA1
       refine WL_nil ?_
       refine ai_2 (i := 0) (j := 4) (by kernel_rfl) rfl rfl ?_ ?_
       ·
        skip
        refine svI hF rfl (v_load sc124 rfl (hby.at 0 rfl)) rfl ?_; clear hF a; intro a hF
        refine wli_nil ?_
        refine ai_1 (i := 4) (by kernel_rfl) rfl ?_
        refine WLI_of rfl ?_
        refine s_app (D := FDx) (B := B) hF rfl sl37 rfl rfl hL (he) (zints_one _) (by simp only [List.length_cons, List.length_nil, hcl]; omega) (by simp only [List.length_cons, List.length_nil, hcl, maxLen]; omega) (hKA) (by decide) hS.inv rfl ?_; clear hF a; intro v' b' w' a ho' hm hI' hb' hF
        replace hby := hby.mb hm (Blk.ne_own hby hL (by decide))
        replace hbi := hbi.mb hm ((fun e => by have := (hL.lt _ e).1; omega))
        replace he := he.mb hm (fun k h => Nat.le_trans (Nat.le_refl _) (hL.lt k h).1)
        replace hKA := Nat.le_trans hKA hm.size
        replace hS := hS.mb hm (fun k h => Nat.le_trans (by omega) (hL.lt k h).1)
        replace hL := ho'
        clear hm hI' ho'
        refine WL_nil ?_
        refine ai_1 (i := 5) (by kernel_rfl) rfl ?_
        refine syI hF rfl rfl rfl ((hy ((chP to m fr i).length + k) ((fr + i) :: x) _ _ (chP_at hlt hxk) (hJ _ _ _ hJA hS.xt) (hSW.trans hS) ((hL.cast (ys := zints (casts ((fr + i) :: x))) rfl).row (by decide))).mono (fun b w' hb => ?_))
        rcases hb with ⟨rfl, hJ', hz⟩ | ⟨rfl, hX'⟩
        ·
         skip
         clear hF; intro a hF
         replace hS := hS.trans hz
         clear hz
         refine wli_nil ?_
         refine ai_1 (i := 6) (by kernel_rfl) rfl ?_
         refine svI hF rfl (v_not rfl) rfl ?_; clear hF a; intro a hF
         refine wli_nil ?_
         refine ai_done (by kernel_rfl) (hK _ _ ?_)
         clear hK K
         replace hF := hF.sub _ (c_ 32 rfl (n_))
         refine Rd.W_ifF hF rfl ?_
         refine Rd.W_skip ?_
         exact ⟨hJ', hS⟩
        ·
         skip
         clear hF; intro a hF
         obtain ⟨hX1, hO⟩ := hX'
         refine wli_nil ?_
         refine ai_1 (i := 6) (by kernel_rfl) rfl ?_
         refine svI hF rfl (v_not rfl) rfl ?_; clear hF a; intro a hF
         refine wli_nil ?_
         refine ai_done (by kernel_rfl) (hK _ _ ?_)
         clear hK K
         replace hF := hF.sub _ (c_ 32 rfl (n_))
         refine Rd.W_ifT hF rfl ?_
         refine Rd.W_ret ?_
         exact ⟨⟨⟨_, hX1⟩, ((hMk.st hSA).st hS).o hO (Nat.le_refl _)⟩, hS.o.trans (hO.mono hsw)⟩
       ·
        skip
        refine WLI_of rfl ?_
        refine s_app (D := FDx) (B := B) hF rfl sl37 rfl rfl hL (he) (zints_one _) (by simp only [List.length_cons, List.length_nil, hcl]; omega) (by simp only [List.length_cons, List.length_nil, hcl, maxLen]; omega) (hKA) (by decide) hS.inv rfl ?_; clear hF a; intro v' b' w' a ho' hm hI' hb' hF
        replace hby := hby.mb hm (Blk.ne_own hby hL (by decide))
        replace hbi := hbi.mb hm ((fun e => by have := (hL.lt _ e).1; omega))
        replace he := he.mb hm (fun k h => Nat.le_trans (Nat.le_refl _) (hL.lt k h).1)
        replace hKA := Nat.le_trans hKA hm.size
        replace hS := hS.mb hm (fun k h => Nat.le_trans (by omega) (hL.lt k h).1)
        replace hL := ho'
        clear hm hI' ho'
        refine WL_nil ?_
        refine ai_1 (i := 0) (by kernel_rfl) rfl ?_
        refine svI hF rfl (v_load sc124 rfl (hby.at 0 rfl)) rfl ?_; clear hF a; intro a hF
        refine wli_nil ?_
        refine ai_1 (i := 5) (by kernel_rfl) rfl ?_
        refine syI hF rfl rfl rfl ((hy ((chP to m fr i).length + k) ((fr + i) :: x) _ _ (chP_at hlt hxk) (hJ _ _ _ hJA hS.xt) (hSW.trans hS) ((hL.cast (ys := zints (casts ((fr + i) :: x))) rfl).row (by decide))).mono (fun b w' hb => ?_))
        rcases hb with ⟨rfl, hJ', hz⟩ | ⟨rfl, hX'⟩
        ·
         skip
         clear hF; intro a hF
         replace hS := hS.trans hz
         clear hz
         refine wli_nil ?_
         refine ai_1 (i := 6) (by kernel_rfl) rfl ?_
         refine svI hF rfl (v_not rfl) rfl ?_; clear hF a; intro a hF
         refine wli_nil ?_
         refine ai_done (by kernel_rfl) (hK _ _ ?_)
         clear hK K
         replace hF := hF.sub _ (c_ 32 rfl (n_))
         refine Rd.W_ifF hF rfl ?_
         refine Rd.W_skip ?_
         exact ⟨hJ', hS⟩
        ·
         skip
         clear hF; intro a hF
         obtain ⟨hX1, hO⟩ := hX'
         refine wli_nil ?_
         refine ai_1 (i := 6) (by kernel_rfl) rfl ?_
         refine svI hF rfl (v_not rfl) rfl ?_; clear hF a; intro a hF
         refine wli_nil ?_
         refine ai_done (by kernel_rfl) (hK _ _ ?_)
         clear hK K
         replace hF := hF.sub _ (c_ 32 rfl (n_))
         refine Rd.W_ifT hF rfl ?_
         refine Rd.W_ret ?_
         exact ⟨⟨⟨_, hX1⟩, ((hMk.st hSA).st hS).o hO (Nat.le_refl _)⟩, hS.o.trans (hO.mono hsw)⟩
   ·
    skip
    clear hF
    intro a W hF hD hJd hSd
    have hMk3 := Mk.cons (D := FDx) (B := B) hMk (Nat.le_refl _) hsw (hMk.st hSd) hD
    clear hMk
    have hMk := hMk3
    clear hMk3
    replace hbm := hbm.st (by decide) hSd
    replace hbf := hbf.st (by decide) hSd
    replace hbt := hbt.st (by decide) hSd
    replace hby := hby.st (by decide) hSd
    replace hbi := hbi.st hSd
    replace hS := hS.trans hSd
    replace hJd : J (chP to m fr (i + 1)).length W := by rw [chP_len]; exact hJd
    have hS1 := St.refl hSd.inv
    clear hds hsw hJ0 hSd
    refine W_seq ?_
    refine W_sr rfl (fun K hK => ?_)
    refine sv hF (v_load sc3 rfl (hbi.blk.at 0 rfl)) rfl ?_; clear hF a; intro a hF
    refine WL_nil (hK _ _ ?_)
    clear hK K
    replace hF := hF.sub _ (c_ 33 rfl (c_ 1 rfl (c_ 3 rfl (c_ 4 rfl (c_ 5 rfl (n_))))))
    clear hbi
    refine W_reg rfl (fun K hK => ?_)
    have hs0 := hS.ext.size
    obtain ⟨gi2, hgi⟩ : ∃ g, g = W.heap.size := ⟨_, rfl⟩
    have hs1 : W.heap.size ≤ gi2 := by omega
    have h1m := heap_lt hbm
    have h1f := heap_lt hbf
    have h1t := heap_lt hbt
    have h1y := heap_lt hby
    rw [← hgi] at hs0 h1m h1f h1t h1y
    refine s_alloc (D := FDx) (B := B) hF zv3 (by decide) hS.inv rfl ?_; clear hF a; intro w' a hm hI' hbi hsz hF
    replace hMk := hMk.mb hm (fun k e => by cases e)
    replace hbm := hbm.mb hm (by simp)
    replace hbf := hbf.mb hm (by simp)
    replace hbt := hbt.mb hm (by simp)
    replace hby := hby.mb hm (by simp)
    replace hS1 := hS1.mb0 hm
    replace hS := hS.mb0 hm
    clear hm hI' hsz
    rw [← hgi] at hbi hF
    clear hgi
    refine s_stb (D := FDx) (B := B) hF on3 rfl rfl (rfl) hbi hS.inv ?_; intro w' hm hI' hbx'
    replace hMk := hMk.mb hm (fun k e => by cases e; exact ⟨_, _, _, hbi.blk⟩)
    replace hbm := hbm.mb hm (by simp; omega)
    replace hbf := hbf.mb hm (by simp; omega)
    replace hbt := hbt.mb hm (by simp; omega)
    replace hby := hby.mb hm (by simp; omega)
    replace hS1 := hS1.mb hm (fun k h => by cases h; exact hs1)
    replace hS := hS.mb hm (fun k h => by cases h; exact hs0)
    replace hbi := hbx'
    clear hm hI' hbx'
    refine WL_nil (hK _ _ ?_)
    clear hK K
    refine W_reg rfl (fun K hK => ?_)
    refine sv hF (v_load sc3 rfl (hbi.blk.at 0 rfl)) rfl ?_; clear hF a; intro a hF
    refine sv hF ((v_addI rfl rfl (by omega)).as (show Value.int .i64 (((fr + i : Nat) : Int) + 1) = .int .i64 ((fr + (i + 1) : Nat) : Int) by congr 1)) rfl ?_; clear hF a; intro a hF
    refine s_stb (D := FDx) (B := B) hF on3 rfl rfl (rfl) hbi hS.inv ?_; intro w' hm hI' hbx'
    replace hMk := hMk.mb hm (fun k e => by cases e; exact ⟨_, _, _, hbi.blk⟩)
    replace hbm := hbm.mb hm (by simp; omega)
    replace hbf := hbf.mb hm (by simp; omega)
    replace hbt := hbt.mb hm (by simp; omega)
    replace hby := hby.mb hm (by simp; omega)
    replace hS1 := hS1.mb hm (fun k h => by cases h; exact hs1)
    replace hS := hS.mb hm (fun k h => by cases h; exact hs0)
    replace hbi := hbx'
    clear hm hI' hbx'
    refine WL_nil (hK _ _ ?_)
    clear hK K
    exact ⟨q - 1, by omega, i + 1, _, _, hF.sub _ (c_ 1 rfl (c_ 3 rfl (c_ 4 rfl (c_ 5 rfl (n_))))), hS, hMk, hbm, hbf, hbt, hby, hbi, hs0, hJ _ _ _ hJd hS1.xt, by omega, by omega⟩
   ·
    rintro a W hF hD ⟨⟨j, hj⟩, hMk2⟩ hIv
    exact ⟨_, _, Mk.cons (D := FDx) (B := B) hMk (Nat.le_refl _) hsw hMk2 hD, hIv, hF, fun w2 hX => Or.inr ⟨j, hJx _ _ _ hj hX⟩⟩
  ·
   skip
   try simp only [dcl] at hc1
   refine W_exit rfl ?_
   refine ⟨ds, _, hMk, hS.inv, hF, fun w2 hX => ?_⟩
   have hie : i = to - m - fr := by omega
   exact Or.inl ⟨hJ _ _ _ (by rw [ch_P, ← hie]; exact hJ0) hX, hS.thenX hX (Nat.le_refl _)⟩

theorem choices_seq (B to : Nat) (hto : to ≤ 1000) : ∀ (m fr : Nat) (w0 : World) (gm gf gt : Nat), m ≤ 1000 → fr ≤ 1000 → Blk w0 gm FDx.E [.int .i64 (m : Int)] → Blk w0 gf FDx.E [.int .i64 (fr : Int)] → Blk w0 gt FDx.E [.int .i64 (to : Int)] → SeqS Try.prog FDx B 90 [.pointer (some ⟨gm, 0, none⟩), .pointer (some ⟨gf, 0, none⟩), .pointer (some ⟨gt, 0, none⟩)] (encL B) (ch to m fr) w0
 | 0, fr, w0, gm, gf, gt, hm, hfr, hbm, hbf, hbt => fun l J Jx W hW hJ hJx hy h0 => chs_zero B to fr gm gf gt l J Jx W hW.inv (hbm.st (by decide) hW) (hbf.st (by decide) hW) (hbt.st (by decide) hW) hJ hJx hy h0
 | m + 1, fr, w0, gm, gf, gt, hm, hfr, hbm, hbf, hbt => fun l J Jx W hW hJ hJx hy h0 => chs_succ B to fr m gm gf gt l J Jx W hW.inv ⟨hto, hfr, by omega⟩ (hbm.st (by decide) hW) (hbf.st (by decide) hW) (hbt.st (by decide) hW) hJ hJx hy h0
   (fun fr' w0 gm gf gt hfr' hbm hbf hbt => choices_seq B to hto m fr' w0 gm gf gt (by omega) hfr' hbm hbf hbt)

end Go.Proofs.Ytaeljbdpjiciaaa

/- Records and rows of records: values that are built, blocks of a walk's own. No program in sight. -/
set_option linter.unusedVariables false
set_option linter.unusedSimpArgs false
set_option linter.unusedSectionVars false
namespace Go.Gam
open Px

/-- The parts of a value that is built. -/
def evP (F : Fs) : List (Nat × Operand) → Option (List (Nat × Value))
  | [] => some []
  | (i, x) :: r => match ev F x with
    | none => none
    | some v => match evP F r with
      | none => none
      | some l => some ((i, v) :: l)
/-- A record of a walk's own, in a block of its own. -/
structure RecB (D : FD) (B N : Nat) (w : World) (g : Nat) (E : TypeId) (cs : List Value) : Prop where
  blk : Blk w g E cs
  low : N ≤ g
  base : B ≤ g
  priv : Priv D B w g
  ty : E ≠ D.T
section
variable {D : FD} {B N g : Nat} {w w' : World} {E : TypeId} {cs : List Value}
end
section
variable {P : Program} {ops : Array Oper} {K : Kont} {rest : List Oper} {n : NN} {F : Fs} {T : TypeId} {pp : String} {af : Array Edge} {v : Value} {d : Nat} {a : Act} {w : World} {x y : Operand} {D : FD} {B : Nat}
end
/-! ### results that are read from cells -/
section
variable {P : Program}
theorem ld_one {w : World} {t : TypeId} {ad : Addr} {v : Value} (hs : Scalar P t) (hc : w.cell? ad = some v) : (loadVar t ad).run P w = .ok v w := by
  unfold loadVar
  simp [run_isAgg hs, load, Sem.run, hc]
end
end Go.Gam

/- The walk of package cauchy: Safe. -/
set_option linter.unusedVariables false
set_option linter.unusedSimpArgs false
namespace Go.Proofs.Ytaeljbdpjiciaaa
open Go Go.Gam


namespace FxFSafe2
theorem en56 : Ent Try.prog 56 := ent Try.func56 (by kernel_rfl) (by kernel_rfl)
theorem en57 : Ent Try.prog 57 := ent Try.func57 (by kernel_rfl) (by kernel_rfl)
theorem en58 : Ent Try.prog 58 := ent Try.func58 (by kernel_rfl) (by kernel_rfl)
theorem hmix : Try.prog.follows .mixedOrders = true := by kernel_rfl
theorem on29 : Gam.One Try.prog 29 := by unfold Gam.One; kernel_rfl
theorem on3 : Gam.One Try.prog 3 := by unfold Gam.One; kernel_rfl
theorem on37 : Gam.One Try.prog 37 := by unfold Gam.One; kernel_rfl
theorem on4 : Gam.One Try.prog 4 := by unfold Gam.One; kernel_rfl
theorem sc23 : Scalar Try.prog 23 := ⟨_, Try.underlying23, by simp, by simp⟩
theorem sc28 : Scalar Try.prog 28 := ⟨_, Try.underlying28, by simp, by simp⟩
theorem sc3 : Scalar Try.prog 3 := ⟨_, Try.underlying3, by simp, by simp⟩
theorem sc37 : Scalar Try.prog 37 := ⟨_, Try.underlying37, by simp, by simp⟩
theorem sl28 : Sl Try.prog 28 37 (.slice none 0 0) 24 := sl_of Try.underlying28 rfl (by kernel_rfl)
theorem sl37 : Sl Try.prog 37 3 (.int .i64 0) 8 := sl_of Try.underlying37 rfl (by kernel_rfl)
theorem zv29 : Zv Try.prog 29 (.int .i64 0) := zv_of rfl (by kernel_rfl)
theorem zv3 : Zv Try.prog 3 (.int .i64 0) := zv_of rfl (by kernel_rfl)
theorem zv37 : Zv Try.prog 37 (.slice none 0 0) := zv_of rfl (by kernel_rfl)
theorem zv4 : Zv Try.prog 4 (.bool false) := zv_of rfl (by kernel_rfl)
end FxFSafe2
open FxFSafe2

theorem scb : Scalar Try.prog 4 := ⟨_, Try.underlying4, by simp, by simp⟩
theorem sce : Scalar Try.prog 29 := ⟨_, Try.underlying29, by simp, by simp⟩

set_option maxRecDepth 100000 in
set_option maxHeartbeats 1000000 in
theorem Safe_ok (B M wb p : Nat) (hp : Prm wb p) (fv : Value) (pmt : Option Addr) (cmt : Nat) (mt : Mtx) (w : World) (hI : Inv FDx B w) (hM : M ≤ w.heap.size) (hf : Fo FDx B w fv (some (wb, p))) (hA : Mat FDx B M w pmt cmt mt) (hl : mt.length ≤ maxLen) (hbl : ∀ r ∈ mt, r.length ≤ maxLen) : Ret Try.prog 26 [fv, .slice pmt mt.length cmt] w fun v w' => v = .tuple #[.bool (safeM hp mt).1, .int .i64 (safeM hp mt).2] ∧ St FDx B w w' := by
 refine enterMCC (D := FDx) (B := B) w.heap.size 55 [(0, fv), (1, .slice pmt mt.length cmt)] 4 4 5 29 Try.func26 rfl rfl rfl rfl rfl ?_; intro a hF
 have hS := St.refl hI
 have hMk := Mk.nil w.heap.size w
 have hl2 := hl
 simp only [maxLen] at hl2
 refine W_sr rfl (fun K hK => ?_)
 obtain ⟨g2, hg2⟩ : ∃ g, g = w.heap.size := ⟨_, rfl⟩
 have sg2 := hS.ext.size
 rw [← hg2] at sg2 
 refine s_boxN (D := FDx) (B := B) hF rfl (hf.cells1) (by decide) hS.inv rfl ?_; clear hF a; intro w' a hm hI' hb2 hsz hF
 replace hf := hf.mb hm
 replace hA := hA.mb hm (fun _ h => by cases h)
 replace hMk := hMk.mb hm (fun k e => by cases e)
 replace hS := hS.mb0 hm
 clear hm hI' hsz
 rw [← hg2] at hb2 hF
 clear hg2
 obtain ⟨g3, hg3⟩ : ∃ g, g = w'.heap.size := ⟨_, rfl⟩
 have sg3 := hS.ext.size
 have tg3b2 := heap_lt hb2.blk
 rw [← hg3] at sg3 tg3b2
 refine s_boxN (D := FDx) (B := B) hF rfl (rfl) (by decide) hS.inv rfl ?_; clear hF a; intro w' a hm hI' hb3 hsz hF
 replace hf := hf.mb hm
 replace hA := hA.mb hm (fun _ h => by cases h)
 replace hMk := hMk.mb hm (fun k e => by cases e)
 replace hb2 := hb2.mb hm (by simp)
 replace hS := hS.mb0 hm
 clear hm hI' hsz
 rw [← hg3] at hb3 hF
 clear hg3
 obtain ⟨g4, hg4⟩ : ∃ g, g = w'.heap.size := ⟨_, rfl⟩
 have sg4 := hS.ext.size
 have tg4b2 := heap_lt hb2.blk
 have tg4b3 := heap_lt hb3.blk
 rw [← hg4] at sg4 tg4b2 tg4b3
 refine s_alloc (D := FDx) (B := B) hF zv4 (by decide) hS.inv rfl ?_; clear hF a; intro w' a hm hI' hb4 hsz hF
 replace hf := hf.mb hm
 replace hA := hA.mb hm (fun _ h => by cases h)
 replace hMk := hMk.mb hm (fun k e => by cases e)
 replace hb2 := hb2.mb hm (by simp)
 replace hb3 := hb3.mb hm (by simp)
 replace hS := hS.mb0 hm
 clear hm hI' hsz
 rw [← hg4] at hb4 hF
 clear hg4
 obtain ⟨g5, hg5⟩ : ∃ g, g = w'.heap.size := ⟨_, rfl⟩
 have sg5 := hS.ext.size
 have tg5b2 := heap_lt hb2.blk
 have tg5b3 := heap_lt hb3.blk
 have tg5b4 := heap_lt hb4.blk
 rw [← hg5] at sg5 tg5b2 tg5b3 tg5b4
 refine s_alloc (D := FDx) (B := B) hF zv29 (by decide) hS.inv rfl ?_; clear hF a; intro w' a hm hI' hb5 hsz hF
 replace hf := hf.mb hm
 replace hA := hA.mb hm (fun _ h => by cases h)
 replace hMk := hMk.mb hm (fun k e => by cases e)
 replace hb2 := hb2.mb hm (by simp)
 replace hb3 := hb3.mb hm (by simp)
 replace hb4 := hb4.mb hm (by simp)
 replace hS := hS.mb0 hm
 clear hm hI' hsz
 rw [← hg5] at hb5 hF
 clear hg5
 refine WL_nil (hK _ _ ?_)
 clear hK K
 replace hF := hF.sub _ (c_ 5 rfl (c_ 4 rfl (c_ 3 rfl (c_ 2 rfl (n_)))))
 refine W_seq ?_
 refine W_sr rfl (fun K hK => ?_)
 refine sv hF (v_load sc23 rfl hb2.at) rfl ?_; clear hF a; intro a hF
 refine sv hF (v_load sc28 rfl hb3.at) rfl ?_; clear hF a; intro a hF
 refine sc hF rfl rfl rfl en56 rfl (May_ok B M (some (wb, p)) fv pmt cmt mt _ hS.inv hf hA hl hbl) ?_; clear hF a; intro v w' a hv hF
 obtain ⟨rfl, hS'⟩ := hv
 replace hf := hf.st hS'
 replace hA := hA.st hS'
 replace hMk := hMk.st hS'
 replace hb2 := hb2.st hS'
 replace hb3 := hb3.st hS'
 replace hb4 := hb4.st hS'
 replace hb5 := hb5.st hS'
 replace hS := hS.trans hS'
 clear hS'
 refine sb hF (v_not rfl) rfl ?_ ?_
 ·
  clear hF a; intro hc1 a hF
  try simp only [dcl] at hc1
  refine sv hF (v_move rfl) rfl ?_; clear hF a; intro a hF
  refine svn hF rfl rfl rfl ?_; clear hF a; intro a hF
  refine svn hF rfl rfl rfl ?_; clear hF a; intro a hF
  refine svn hF rfl rfl rfl ?_; clear hF a; intro a hF
  refine sv2 hF (v_pickT rfl rfl) (v_move rfl) rfl rfl ?_; clear hF a; intro a hF
  refine svn hF rfl rfl rfl ?_; clear hF a; intro a hF
  refine svn hF rfl rfl rfl ?_; clear hF a; intro a hF
  refine svn hF rfl rfl rfl ?_; clear hF a; intro a hF
  refine svn hF rfl rfl rfl ?_; clear hF a; intro a hF
  refine svn hF rfl rfl rfl ?_; clear hF a; intro a hF
  refine sv hF (v_pickT rfl rfl) rfl ?_; clear hF a; intro a hF
  refine WL_nil (hK _ _ ?_)
  clear hK K
  replace hF := hF.sub _ (c_ 24 rfl (c_ 5 rfl (c_ 4 rfl (c_ 3 rfl (c_ 2 rfl (n_))))))
  refine W_ifT hF rfl ?_
  refine W_sr rfl (fun K hK => ?_)
  refine s_stb (D := FDx) (B := B) hF on4 rfl rfl (rfl) hb4 hS.inv ?_; intro w' hm hI' hbx'
  replace hf := hf.mb hm
  replace hA := hA.mb hm (fun k h => by cases h; exact Nat.le_trans (by omega) hb4.low)
  replace hMk := hMk.mb hm (fun k e => by cases e; exact ⟨_, _, _, hb4.blk⟩)
  replace hb2 := hb2.mb hm (by simp; omega)
  replace hb3 := hb3.mb hm (by simp; omega)
  replace hb5 := hb5.mb hm (by simp; omega)
  replace hS := hS.mb hm (fun k h => by cases h; omega)
  replace hb4 := hbx'
  clear hm hI' hbx'
  refine s_stb (D := FDx) (B := B) hF on29 rfl rfl (rfl) hb5 hS.inv ?_; intro w' hm hI' hbx'
  replace hf := hf.mb hm
  replace hA := hA.mb hm (fun k h => by cases h; exact Nat.le_trans (by omega) hb5.low)
  replace hMk := hMk.mb hm (fun k e => by cases e; exact ⟨_, _, _, hb5.blk⟩)
  replace hb2 := hb2.mb hm (by simp; omega)
  replace hb3 := hb3.mb hm (by simp; omega)
  replace hb4 := hb4.mb hm (by simp; omega)
  replace hS := hS.mb hm (fun k h => by cases h; omega)
  replace hb5 := hbx'
  clear hm hI' hbx'
  refine WL_nil (hK _ _ ?_)
  clear hK K
  replace hF := hF.sub _ (c_ 5 rfl (c_ 4 rfl (c_ 3 rfl (c_ 2 rfl (n_)))))
  refine W_ret ?_
  have hno : safeM hp mt = (false, 1) := safeM_no hp (by first | (left; simpa using hc1) | (right; left; omega) | (right; right; omega))
  exact ⟨_, _, _, _, _, _, hMk, hS.inv, hF, rfl, rfl, fun w2 hX => ⟨ld_one scb (Box.at (hb4.xt hX)), ld_one sce (Box.at (hb5.xt hX)), (by rw [hno]), hS.thenX hX (Nat.le_refl _)⟩⟩
 ·
  clear hF a; intro hc1 a hF
  try simp only [dcl] at hc1
  refine sv hF (v_move rfl) rfl ?_; clear hF a; intro a hF
  refine svg hF rfl ?_
  refine sv hF (v_load sc28 rfl hb3.at) rfl ?_; clear hF a; intro a hF
  refine svg hF rfl ?_
  refine sv hF (v_lenS rfl sl28 rfl) rfl ?_; clear hF a; intro a hF
  refine svg hF rfl ?_
  refine sb hF (v_gtr rfl rfl) rfl ?_ ?_
  ·
   clear hF a; intro hc2 a hF
   try simp only [dcl] at hc2
   refine sv2 hF (v_pickF rfl rfl) (v_move rfl) rfl rfl ?_; clear hF a; intro a hF
   refine svn hF rfl rfl rfl ?_; clear hF a; intro a hF
   refine svn hF rfl rfl rfl ?_; clear hF a; intro a hF
   refine svn hF rfl rfl rfl ?_; clear hF a; intro a hF
   refine svn hF rfl rfl rfl ?_; clear hF a; intro a hF
   refine svn hF rfl rfl rfl ?_; clear hF a; intro a hF
   refine sv hF (v_pickT rfl rfl) rfl ?_; clear hF a; intro a hF
   refine WL_nil (hK _ _ ?_)
   clear hK K
   replace hF := hF.sub _ (c_ 24 rfl (c_ 5 rfl (c_ 4 rfl (c_ 3 rfl (c_ 2 rfl (n_))))))
   refine W_ifT hF rfl ?_
   refine W_sr rfl (fun K hK => ?_)
   refine s_stb (D := FDx) (B := B) hF on4 rfl rfl (rfl) hb4 hS.inv ?_; intro w' hm hI' hbx'
   replace hf := hf.mb hm
   replace hA := hA.mb hm (fun k h => by cases h; exact Nat.le_trans (by omega) hb4.low)
   replace hMk := hMk.mb hm (fun k e => by cases e; exact ⟨_, _, _, hb4.blk⟩)
   replace hb2 := hb2.mb hm (by simp; omega)
   replace hb3 := hb3.mb hm (by simp; omega)
   replace hb5 := hb5.mb hm (by simp; omega)
   replace hS := hS.mb hm (fun k h => by cases h; omega)
   replace hb4 := hbx'
   clear hm hI' hbx'
   refine s_stb (D := FDx) (B := B) hF on29 rfl rfl (rfl) hb5 hS.inv ?_; intro w' hm hI' hbx'
   replace hf := hf.mb hm
   replace hA := hA.mb hm (fun k h => by cases h; exact Nat.le_trans (by omega) hb5.low)
   replace hMk := hMk.mb hm (fun k e => by cases e; exact ⟨_, _, _, hb5.blk⟩)
   replace hb2 := hb2.mb hm (by simp; omega)
   replace hb3 := hb3.mb hm (by simp; omega)
   replace hb4 := hb4.mb hm (by simp; omega)
   replace hS := hS.mb hm (fun k h => by cases h; omega)
   replace hb5 := hbx'
   clear hm hI' hbx'
   refine WL_nil (hK _ _ ?_)
   clear hK K
   replace hF := hF.sub _ (c_ 5 rfl (c_ 4 rfl (c_ 3 rfl (c_ 2 rfl (n_)))))
   refine W_ret ?_
   have hno : safeM hp mt = (false, 1) := safeM_no hp (by first | (left; simpa using hc1) | (right; left; omega) | (right; right; omega))
   exact ⟨_, _, _, _, _, _, hMk, hS.inv, hF, rfl, rfl, fun w2 hX => ⟨ld_one scb (Box.at (hb4.xt hX)), ld_one sce (Box.at (hb5.xt hX)), (by rw [hno]), hS.thenX hX (Nat.le_refl _)⟩⟩
  ·
   clear hF a; intro hc2 a hF
   try simp only [dcl] at hc2
   refine sv2 hF (v_pickF rfl rfl) (v_move rfl) rfl rfl ?_; clear hF a; intro a hF
   refine svg hF rfl ?_
   have hmay : mayM (some (wb, p)) mt = true := by simpa using hc1
   have hMx := mayM_Mx hmay
   obtain ⟨gp, op, rfl⟩ := hA.at1 (by omega)
   obtain ⟨r0, h0⟩ : ∃ r, mt[0]? = some r := ⟨_, List.getElem?_eq_getElem (by omega)⟩
   obtain ⟨p0, c0, hk0, hrow0, -⟩ := hA.row2 h0
   have hw0 := wid_at h0
   refine sv hF (v_load sc28 rfl hb3.at) rfl ?_; clear hF a; intro a hF
   refine svg hF rfl ?_
   refine sv hF (v_ixS sl28 rfl rfl (by decide) (by omega)) rfl ?_; clear hF a; intro a hF
   refine svg hF rfl ?_
   refine sv hF (v_load sc37 rfl hk0.c) rfl ?_; clear hF a; intro a hF
   refine svg hF rfl ?_
   refine sv hF (v_lenS rfl sl37 rfl) rfl ?_; clear hF a; intro a hF
   refine svg hF rfl ?_
   refine sv hF (v_gtr rfl rfl) rfl ?_; clear hF a; intro a hF
   refine sv hF (v_pickF rfl rfl) rfl ?_; clear hF a; intro a hF
   refine WL_nil (hK _ _ ?_)
   clear hK K
   replace hF := hF.sub _ (c_ 24 rfl (c_ 5 rfl (c_ 4 rfl (c_ 3 rfl (c_ 2 rfl (n_))))))
   refine W_if hF rfl (fun hc3 => ?_) (fun hc3 => ?_)
   ·
    skip
    try simp only [dcl] at hc3
    refine W_sr rfl (fun K hK => ?_)
    refine s_stb (D := FDx) (B := B) hF on4 rfl rfl (rfl) hb4 hS.inv ?_; intro w' hm hI' hbx'
    replace hf := hf.mb hm
    replace hA := hA.mb hm (fun k h => by cases h; exact Nat.le_trans (by omega) hb4.low)
    replace hMk := hMk.mb hm (fun k e => by cases e; exact ⟨_, _, _, hb4.blk⟩)
    replace hb2 := hb2.mb hm (by simp; omega)
    replace hb3 := hb3.mb hm (by simp; omega)
    replace hb5 := hb5.mb hm (by simp; omega)
    replace hS := hS.mb hm (fun k h => by cases h; omega)
    replace hb4 := hbx'
    clear hm hI' hbx'
    refine s_stb (D := FDx) (B := B) hF on29 rfl rfl (rfl) hb5 hS.inv ?_; intro w' hm hI' hbx'
    replace hf := hf.mb hm
    replace hA := hA.mb hm (fun k h => by cases h; exact Nat.le_trans (by omega) hb5.low)
    replace hMk := hMk.mb hm (fun k e => by cases e; exact ⟨_, _, _, hb5.blk⟩)
    replace hb2 := hb2.mb hm (by simp; omega)
    replace hb3 := hb3.mb hm (by simp; omega)
    replace hb4 := hb4.mb hm (by simp; omega)
    replace hS := hS.mb hm (fun k h => by cases h; omega)
    replace hb5 := hbx'
    clear hm hI' hbx'
    refine WL_nil (hK _ _ ?_)
    clear hK K
    replace hF := hF.sub _ (c_ 5 rfl (c_ 4 rfl (c_ 3 rfl (c_ 2 rfl (n_)))))
    refine W_ret ?_
    have hno : safeM hp mt = (false, 1) := safeM_no hp (by first | (left; simpa using hc1) | (right; left; omega) | (right; right; omega))
    exact ⟨_, _, _, _, _, _, hMk, hS.inv, hF, rfl, rfl, fun w2 hX => ⟨ld_one scb (Box.at (hb4.xt hX)), ld_one sce (Box.at (hb5.xt hX)), (by rw [hno]), hS.thenX hX (Nat.le_refl _)⟩⟩
   ·
    skip
    try simp only [dcl] at hc3
    refine W_skip ?_
    refine W_seq ?_
    have hsafe := safeM_is hp hmay (by omega) (by rw [hw0]; omega)
    obtain ⟨n, hn⟩ : ∃ n, mt.length = n := ⟨_, rfl⟩
    obtain ⟨m, hm⟩ : ∃ n, wid mt = n := ⟨_, rfl⟩
    obtain ⟨f, hfe⟩ : ∃ f, en mt = f := ⟨_, rfl⟩
    rw [hn, hm, hfe] at hsafe
    have htab := hMx.1.eq_tab
    rw [hn, hm, hfe] at htab
    have hnm : 1 ≤ n ∧ n ≤ 5 ∧ 1 ≤ m ∧ m ≤ 8 := by rw [← hn, ← hm]; exact ⟨by omega, by omega, by omega, by rw [hw0]; omega⟩
    rw [htab] at hA
    rw [hn] at hb3
    clear hk0 hrow0
    refine W_sr rfl (fun K hK => ?_)
    obtain ⟨g6, hg6⟩ : ∃ g, g = w'.heap.size := ⟨_, rfl⟩
    have sg6 := hS.ext.size
    have tg6b2 := heap_lt hb2.blk
    have tg6b3 := heap_lt hb3.blk
    have tg6b4 := heap_lt hb4.blk
    have tg6b5 := heap_lt hb5.blk
    rw [← hg6] at sg6 tg6b2 tg6b3 tg6b4 tg6b5
    refine s_alloc (D := FDx) (B := B) hF zv3 (by decide) hS.inv rfl ?_; clear hF a; intro w' a hm hI' hb6 hsz hF
    replace hf := hf.mb hm
    replace hA := hA.mb hm (fun _ h => by cases h)
    replace hMk := hMk.mb hm (fun k e => by cases e)
    replace hb2 := hb2.mb hm (by simp)
    replace hb3 := hb3.mb hm (by simp)
    replace hb4 := hb4.mb hm (by simp)
    replace hb5 := hb5.mb hm (by simp)
    replace hS := hS.mb0 hm
    clear hm hI' hsz
    rw [← hg6] at hb6 hF
    clear hg6
    refine s_stb (D := FDx) (B := B) hF on3 rfl rfl (rfl) hb6 hS.inv ?_; intro w' hm hI' hbx'
    replace hf := hf.mb hm
    replace hA := hA.mb hm (fun k h => by cases h; exact Nat.le_trans (by omega) hb6.low)
    replace hMk := hMk.mb hm (fun k e => by cases e; exact ⟨_, _, _, hb6.blk⟩)
    replace hb2 := hb2.mb hm (by simp; omega)
    replace hb3 := hb3.mb hm (by simp; omega)
    replace hb4 := hb4.mb hm (by simp; omega)
    replace hb5 := hb5.mb hm (by simp; omega)
    replace hS := hS.mb hm (fun k h => by cases h; omega)
    replace hb6 := hbx'
    clear hm hI' hbx'
    refine WL_nil (hK _ _ ?_)
    clear hK K
    replace hF := hF.sub _ (c_ 6 rfl (c_ 5 rfl (c_ 4 rfl (c_ 3 rfl (c_ 2 rfl (n_))))))
    refine W_block ?_
    refine W_loop (fun q a w1 => ∃ (s g6 : Nat) (ds : List Nat), Fr ⟨55, ds⟩ [(2, .pointer (some ⟨g2, 0, none⟩)), (3, .pointer (some ⟨g3, 0, none⟩)), (4, .pointer (some ⟨g4, 0, none⟩)), (5, .pointer (some ⟨g5, 0, none⟩)), (6, .pointer (some ⟨g6, 0, none⟩))] a ∧ (St FDx B w w1) ∧ (Mk w.heap.size ds w1) ∧ (Fo FDx B w1 fv (some (wb, p))) ∧ (Mat FDx B M w1 (some ⟨gp, op, none⟩) cmt (tab n m f)) ∧ (Box FDx B g2 w1 g2 23 (fv)) ∧ (Box FDx B g3 w1 g3 28 (.slice (some ⟨gp, op, none⟩) n cmt)) ∧ (Box FDx B g4 w1 g4 4 (.bool false)) ∧ (Box FDx B g5 w1 g5 29 (.int .i64 0)) ∧ (Box FDx B g6 w1 g6 FDx.E (.int .i64 ((s + 1 : Nat) : Int))) ∧ (g5 < g6) ∧ (∀ t, t < s → ∀ R ∈ ch n (t + 1) 0, okR hp f m t R) ∧ (s ≤ min n m) ∧ (q + s = min n m)) (min n m) ?_ ?_
    ·
     skip
     exact ⟨0, _, _, hF.sub _ (c_ 2 rfl (c_ 3 rfl (c_ 4 rfl (c_ 5 rfl (c_ 6 rfl (n_)))))), hS, hMk, hf, hA, hb2, hb3, hb4, hb5, hb6, by omega, (fun t ht => by omega), by omega, by omega⟩
    ·
     skip
     clear hF
     clear hS hMk hf hA hb2 hb3 hb4 hb5 hb6
     rintro q a w1 ⟨s, g6, ds, hF, hS, hMk, hf, hA, hb2, hb3, hb4, hb5, hb6, hg6, hall, hs, hq⟩
     refine W_seq ?_
     obtain ⟨pr0, cr0, hk0, hrow0, -⟩ := hA.row2 (show (tab n m f)[0]? = some (trow m f 0) from tab_at (by omega))
     rw [trow_length] at hk0
     refine W_sd (m := 9) rfl hmix hS.inv (fun K hK w1 hS' hh => ?_)
     replace hf := hf.st hS'
     replace hA := hA.st hS'
     replace hMk := hMk.st hS'
     replace hb2 := hb2.st hS'
     replace hb3 := hb3.st hS'
     replace hb4 := hb4.st hS'
     replace hb5 := hb5.st hS'
     replace hb6 := hb6.st hS'
     replace hk0 := hk0.st hS'
     replace hS := hS.trans hS'
     clear hS'
     clear hh
     refine a_v (i := 0) rfl (by kernel_rfl) hF (fun w2 hx => v_load sc3 rfl (by first | exact KC.ld (by assumption) hx | exact KC.ld (Box.kc (by assumption)) hx | (rw [toNat_c]; exact KC.ld (by assumption) hx))) rfl ?_; clear hF a; intro a hF
     refine a_v (i := 1) rfl (by kernel_rfl) hF (fun w2 hx => v_load sc28 rfl (by first | exact KC.ld (by assumption) hx | exact KC.ld (Box.kc (by assumption)) hx | (rw [toNat_c]; exact KC.ld (by assumption) hx))) rfl ?_; clear hF a; intro a hF
     refine a_v (i := 2) rfl (by kernel_rfl) hF (fun w2 hx => v_lenS rfl sl28 rfl) rfl ?_; clear hF a; intro a hF
     refine a_v (i := 3) rfl (by kernel_rfl) hF (fun w2 hx => v_load sc28 rfl (by first | exact KC.ld (by assumption) hx | exact KC.ld (Box.kc (by assumption)) hx | (rw [toNat_c]; exact KC.ld (by assumption) hx))) rfl ?_; clear hF a; intro a hF
     refine a_v (i := 4) rfl (by kernel_rfl) hF (fun w2 hx => v_ixS sl28 rfl rfl (by decide) (by omega)) rfl ?_; clear hF a; intro a hF
     refine a_v (i := 5) rfl (by kernel_rfl) hF (fun w2 hx => v_load sc37 rfl (hk0.ld hx)) rfl ?_; clear hF a; intro a hF
     refine a_v (i := 6) rfl (by kernel_rfl) hF (fun w2 hx => v_lenS rfl sl37 rfl) rfl ?_; clear hF a; intro a hF
     refine a_v (i := 7) rfl (by kernel_rfl) hF (fun w2 hx => (v_minI rfl rfl rfl).as (show Value.int .i64 (min (n : Int) (m : Int)) = .int .i64 ((min n m : Nat) : Int) by congr 1; omega)) rfl ?_; clear hF a; intro a hF
     refine a_v (i := 8) rfl (by kernel_rfl) hF (fun w2 hx => v_leq rfl rfl) rfl ?_; clear hF a; intro a hF
     refine a_done (by kernel_rfl) (hK _ _ ?_)
     clear hK K
     replace hF := hF.sub _ (c_ 33 rfl (c_ 2 rfl (c_ 3 rfl (c_ 4 rfl (c_ 5 rfl (c_ 6 rfl (n_)))))))
     clear hrow0
     refine W_if hF rfl (fun hc4 => ?_) (fun hc4 => ?_)
     ·
      skip
      try simp only [dcl] at hc4
      have hlt : s < min n m := by omega
      refine W_skip ?_
      refine W_seq ?_
      refine W_block ?_
      refine W_sr rfl (fun K hK => ?_)
      refine sv hF (v_load sc28 rfl hb3.at) rfl ?_; clear hF a; intro a hF
      refine sv hF (v_lenS rfl sl28 rfl) rfl ?_; clear hF a; intro a hF
      refine sv hF (v_load sc3 rfl hb6.at) rfl ?_; clear hF a; intro a hF
      refine sc hF rfl rfl rfl en57 rfl (choices_ok B 0 n (s + 1) _ hS.inv) ?_; clear hF a; intro v w' a hv hF
      obtain ⟨gm1, gf1, gt1, rfl, hbm1, hbf1, hbt1, hS'⟩ := hv
      replace hf := hf.st hS'
      replace hA := hA.st hS'
      replace hMk := hMk.st hS'
      replace hb2 := hb2.st hS'
      replace hb3 := hb3.st hS'
      replace hb4 := hb4.st hS'
      replace hb5 := hb5.st hS'
      replace hb6 := hb6.st hS'
      replace hk0 := hk0.st hS'
      replace hS := hS.trans hS'
      clear hS'
      obtain ⟨wi, hwi⟩ : ∃ x : World, x = w' := ⟨_, rfl⟩
      subst hwi
      have hsw := hS.ext.size
      have hds : ∀ d ∈ ds, d < wi.heap.size := fun d hd => heap_lt (hMk.2 d hd).2
      refine WL_nil (hK _ _ ?_)
      clear hK K
      replace hF := hF.sub _ (c_ 39 rfl (c_ 2 rfl (c_ 3 rfl (c_ 4 rfl (c_ 5 rfl (c_ 6 rfl (n_)))))))
      refine W_block ?_
      refine W_rfS (D := FDx) (B := B) (fun k A => ∀ j, j < k → ∀ R, (ch n (s + 1) 0)[j]? = some R → okR hp f m s R) (fun A => safeB hp n m f = false ∧ Box FDx B g4 A g4 4 (.bool false) ∧ Box FDx B g5 A g5 29 (.int .i64 0) ∧ St FDx B w A ∧ Mk w.heap.size ds A) (fun v a2 A => ∃ g7, Fr ⟨55, []⟩ [(2, .pointer (some ⟨g2, 0, none⟩)), (3, .pointer (some ⟨g3, 0, none⟩)), (4, .pointer (some ⟨g4, 0, none⟩)), (5, .pointer (some ⟨g5, 0, none⟩)), (6, .pointer (some ⟨g6, 0, none⟩)), (7, .pointer (some ⟨g7, 0, none⟩))] a2 ∧ Box FDx B g7 A g7 37 (v)) hF rfl rfl (ent Try.func90 (by kernel_rfl) (by kernel_rfl)) hS.inv (choices_seq B n (by omega) (s + 1) 0 _ gm1 gf1 gt1 (by omega) (by omega) hbm1 hbf1 hbt1) ?_ ?_ ?_ ?_ (fun j hj => by omega) ?_ ?_ ?_ ?_
      ·
       exact fun k A C h hX => h
      ·
       exact fun A C h hX => ⟨h.1, h.2.1.xt hX, h.2.2.1.xt hX, h.2.2.2.1.thenX hX hsw, h.2.2.2.2.xt hX hds⟩
      ·
       exact fun v a2 A C ⟨g7, h1, h2⟩ hX => ⟨g7, h1, h2.xt hX⟩
      ·
       exact fun x v A C h hX => encL_xt h hX
      ·
       skip
       clear hF
       intro l2 k x v A a hx hJA hSA he hF
       obtain ⟨pv, cv, rfl⟩ := Row.sl he
       replace hS := St.refl hSA.inv
       refine Rd.W_reg rfl rfl (fun K hK => ?_)
       obtain ⟨g7, hg7⟩ : ∃ g, g = A.heap.size := ⟨_, rfl⟩
       refine s_alloc (D := FDx) (B := B) hF zv37 (by decide) hS.inv rfl ?_; clear hF a; intro w' a hm hI' hb7 hsz hF
       replace hS := hS.mb0 hm
       clear hm hI' hsz
       rw [← hg7] at hb7 hF
       refine s_stb (D := FDx) (B := B) hF on37 rfl rfl (rfl) hb7 hS.inv ?_; intro w' hm hI' hbx'
       replace hS := hS.mb hm (fun k h => by cases h; omega)
       replace hb7 := hbx'
       clear hm hI' hbx'
       refine WL_nil (hK _ _ ?_)
       clear hK K
       replace hF := hF.sub _ (c_ 7 rfl (c_ 2 rfl (c_ 3 rfl (c_ 4 rfl (c_ 5 rfl (c_ 6 rfl (n_)))))))
       exact ⟨hS, g7, hF.sub _ (c_ 2 rfl ( c_ 3 rfl ( c_ 4 rfl ( c_ 5 rfl ( c_ 6 rfl ( c_ 7 rfl (n_))))))), hb7⟩
      ·
       skip
       clear hF
       rintro l2 k R v A a hlp hxR hJA hSA he ⟨g7, hF, hb7⟩
       replace hb2 := hb2.st hSA
       replace hb3 := hb3.st hSA
       replace hb4 := hb4.st hSA
       replace hb5 := hb5.st hSA
       replace hb6 := hb6.st hSA
       replace hf := hf.st hSA
       replace hA := hA.st hSA
       replace hMk := hMk.st hSA
       obtain ⟨pR, cR, rfl⟩ := Row.sl he
       rw [zints_length, casts_length] at he hb7
       have hRm := ch_mem.1 (List.mem_of_getElem? hxR)
       have hSw := hS.trans hSA
       replace hS := St.refl hSA.inv
       obtain ⟨pr0, cr0, hk0, hrow0, -⟩ := hA.row2 (show (tab n m f)[0]? = some (trow m f 0) from tab_at (by omega))
       rw [trow_length] at hk0
       refine Rd.W_block ?_
       refine Rd.W_sd (m := 6) rfl hmix hS.inv rfl (fun K hK w1 hS' hh => ?_)
       replace hf := hf.st hS'
       replace hA := hA.st hS'
       replace hMk := hMk.st hS'
       replace hb2 := hb2.st hS'
       replace hb3 := hb3.st hS'
       replace hb4 := hb4.st hS'
       replace hb5 := hb5.st hS'
       replace hb6 := hb6.st hS'
       replace hb7 := hb7.st hS'
       replace he := (he.st hS').mono hS'.ext.size
       replace hSw := hSw.trans hS'
       replace hk0 := hk0.st hS'
       replace hS := hS.trans hS'
       clear hS'
       clear hh
       refine a_v (i := 0) rfl (by kernel_rfl) hF (fun w2 hx => v_load sc28 rfl (by first | exact KC.ld (by assumption) hx | exact KC.ld (Box.kc (by assumption)) hx | (rw [toNat_c]; exact KC.ld (by assumption) hx))) rfl ?_; clear hF a; intro a hF
       refine a_v (i := 1) rfl (by kernel_rfl) hF (fun w2 hx => v_ixS sl28 rfl rfl (by decide) (by omega)) rfl ?_; clear hF a; intro a hF
       refine a_v (i := 2) rfl (by kernel_rfl) hF (fun w2 hx => v_load sc37 rfl (hk0.ld hx)) rfl ?_; clear hF a; intro a hF
       refine a_v (i := 3) rfl (by kernel_rfl) hF (fun w2 hx => v_lenS rfl sl37 rfl) rfl ?_; clear hF a; intro a hF
       refine a_v (i := 4) rfl (by kernel_rfl) hF (fun w2 hx => v_load sc3 rfl (by first | exact KC.ld (by assumption) hx | exact KC.ld (Box.kc (by assumption)) hx | (rw [toNat_c]; exact KC.ld (by assumption) hx))) rfl ?_; clear hF a; intro a hF
       refine a_e (i := 5) rfl (by kernel_rfl) ?_
       refine sc hF rfl rfl rfl en57 rfl (choices_ok B 0 m (s + 1) _ hS.inv) ?_; clear hF a; intro v w' a hv hF
       obtain ⟨gm2, gf2, gt2, rfl, hbm2, hbf2, hbt2, hS'⟩ := hv
       refine WL_nil ⟨hS'.ext, ?_⟩
       replace hf := hf.st hS'
       replace hA := hA.st hS'
       replace hMk := hMk.st hS'
       replace hb2 := hb2.st hS'
       replace hb3 := hb3.st hS'
       replace hb4 := hb4.st hS'
       replace hb5 := hb5.st hS'
       replace hb6 := hb6.st hS'
       replace hb7 := hb7.st hS'
       replace he := (he.st hS').mono hS'.ext.size
       replace hSw := hSw.trans hS'
       replace hk0 := hk0.st hS'
       replace hS := hS.trans hS'
       clear hS'
       refine a_done (by kernel_rfl) (hK _ _ ?_)
       clear hK K
       replace hF := hF.sub _ (c_ 46 rfl (c_ 2 rfl (c_ 3 rfl (c_ 4 rfl (c_ 5 rfl (c_ 7 rfl (n_)))))))
       clear hk0 hrow0
       obtain ⟨wn, hwn⟩ : ∃ x : World, x = w' := ⟨_, rfl⟩
       subst hwn
       have hsn := hSw.ext.size
       have hsA := hS.ext.size
       have hsI := hSA.ext.size
       have hdn : ∀ d ∈ ds, d < wn.heap.size := fun d hd => heap_lt (hMk.2 d hd).2
       refine Rd.W_block ?_
       refine Rd.W_rfS (D := FDx) (B := B) (fun k A => ∀ j, j < k → ∀ C, (ch m (s + 1) 0)[j]? = some C → okC hp f s R C) (fun C => (fun A => safeB hp n m f = false ∧ Box FDx B g4 A g4 4 (.bool false) ∧ Box FDx B g5 A g5 29 (.int .i64 0) ∧ St FDx B w A ∧ Mk w.heap.size ds A) C ∧ StO FDx B wi.heap.size A C) (fun v a2 _ => Fr ⟨55, []⟩ [(2, .pointer (some ⟨g2, 0, none⟩)), (3, .pointer (some ⟨g3, 0, none⟩)), (4, .pointer (some ⟨g4, 0, none⟩)), (5, .pointer (some ⟨g5, 0, none⟩)), (7, .pointer (some ⟨g7, 0, none⟩)), (8, v)] a2) (by obtain ⟨r_, hr_⟩ := hlp; exact ⟨r_, (hS.z (Z := fun _ => False)).ext.oth _ _ hr_ rfl⟩) hF rfl rfl (ent Try.func90 (by kernel_rfl) (by kernel_rfl)) hS.inv (choices_seq B m (by omega) (s + 1) 0 _ gm2 gf2 gt2 (by omega) (by omega) hbm2 hbf2 hbt2) ?_ ?_ ?_ ?_ (fun j hj => by omega) ?_ ?_ ?_ ?_
       ·
        exact fun k A C h hX => h
       ·
        exact fun C E h hX => ⟨⟨h.1.1, h.1.2.1.xt hX, h.1.2.2.1.xt hX, h.1.2.2.2.1.thenX hX hsn, h.1.2.2.2.2.xt hX hdn⟩, h.2.xt hX hsA⟩
       ·
        exact fun _ _ _ _ h _ => h
       ·
        exact fun x v A C h hX => encL_xt h hX
       ·
        skip
        clear hF
        intro l3 k3 x v A3 a hx hJ3 hS3 he3 hF
        replace hS := St.refl hS3.inv
        refine Rd.W_reg rfl rfl (fun K hK => ?_)
        refine sv hF (v_assign rfl) rfl ?_; clear hF a; intro a hF
        refine WL_nil (hK _ _ ?_)
        clear hK K
        replace hF := hF.sub _ (c_ 8 rfl (c_ 2 rfl (c_ 3 rfl (c_ 4 rfl (c_ 5 rfl (c_ 7 rfl (n_)))))))
        exact ⟨hS, hF.sub _ (c_ 2 rfl ( c_ 3 rfl ( c_ 4 rfl ( c_ 5 rfl ( c_ 7 rfl ( c_ 8 rfl (n_)))))))⟩
       ·
        skip
        clear hF
        intro l3 k3 C v A3 a hlp3 hxC hJ3 hS3 hc hF
        replace hb2 := hb2.st hS3
        replace hb3 := hb3.st hS3
        replace hb4 := hb4.st hS3
        replace hb5 := hb5.st hS3
        replace hb7 := hb7.st hS3
        replace hf := hf.st hS3
        replace hA := hA.st hS3
        replace hMk := hMk.st hS3
        replace he := (he.st hS3).mono hS3.ext.size
        obtain ⟨pC, cC, rfl⟩ := Row.sl hc
        rw [zints_length, casts_length] at hc hF
        have hCm := ch_mem.1 (List.mem_of_getElem? hxC)
        replace hSw := hSw.trans hS3
        have hAO := (hS.trans hS3).o (m := wi.heap.size)
        replace hS := St.refl hS3.inv
        have hM3 : M ≤ A3.heap.size := by have := hSw.ext.size; omega
        refine Rd.W_block ?_
        refine Rd.W_sr rfl rfl (fun K hK => ?_)
        refine sv hF (v_load sc23 rfl hb2.at) rfl ?_; clear hF a; intro a hF
        refine sv hF (v_load sc28 rfl hb3.at) rfl ?_; clear hF a; intro a hF
        refine sv hF (v_load sc37 rfl hb7.at) rfl ?_; clear hF a; intro a hF
        refine sv hF (v_move rfl) rfl ?_; clear hF a; intro a hF
        rw [show (n : Nat) = n from rfl] at hF
        refine sc hF rfl rfl rfl en58 rfl (minor_ok B _ wb p n m hp fv _ pR pC cmt cR cC f R C _ hS.inv (Nat.le_refl _) hf (hA.mono hM3) he hc (fun x hx => (hRm.2.2 x hx).2) (fun x hx => (hCm.2.2 x hx).2) (by omega)) ?_; clear hF a; intro v w' a hv hF
        obtain ⟨rfl, hS'⟩ := hv
        replace hf := hf.st hS'
        replace hMk := hMk.st hS'
        replace hb2 := hb2.st hS'
        replace hb3 := hb3.st hS'
        replace hb4 := hb4.st hS'
        replace hb5 := hb5.st hS'
        replace hSw := hSw.trans hS'
        replace hS := hS.trans hS'
        clear hS'
        rw [hRm.1, hCm.1] at hF
        refine sv hF (v_not rfl) rfl ?_; clear hF a; intro a hF
        refine WL_nil (hK _ _ ?_)
        clear hK K
        replace hF := hF.sub _ (c_ 53 rfl (c_ 4 rfl (c_ 5 rfl (n_))))
        refine Rd.W_if hF rfl (fun hc5 => ?_) (fun hc5 => ?_)
        ·
         skip
         try simp only [dcl] at hc5
         have hno : safeB hp n m f = false := safeB_no hp hlt (List.mem_of_getElem? hxR) (List.mem_of_getElem? hxC) (by unfold okC; assumption)
         have hSo := hS
         clear hS
         have hS := hSo.o (m := 0)
         clear hSo
         refine Rd.W_sr rfl rfl (fun K hK => ?_)
         refine s_stb (D := FDx) (B := B) hF on4 rfl rfl (rfl) hb4 hS.inv ?_; intro w' hm hI' hbx'
         replace hf := hf.mb hm
         replace hMk := hMk.mb hm (fun k e => by cases e; exact ⟨_, _, _, hb4.blk⟩)
         replace hb2 := hb2.mb hm (by simp; omega)
         replace hb3 := hb3.mb hm (by simp; omega)
         replace hb5 := hb5.mb hm (by simp; omega)
         replace hSw := hSw.mb hm (fun k h => by cases h; omega)
         replace hS := hS.mb hm (fun k h => by cases h; exact ⟨_, _, _, hb4.blk⟩)
         replace hb4 := hbx'
         clear hm hI' hbx'
         refine s_stb (D := FDx) (B := B) hF on29 rfl rfl (rfl) hb5 hS.inv ?_; intro w' hm hI' hbx'
         replace hf := hf.mb hm
         replace hMk := hMk.mb hm (fun k e => by cases e; exact ⟨_, _, _, hb5.blk⟩)
         replace hb2 := hb2.mb hm (by simp; omega)
         replace hb3 := hb3.mb hm (by simp; omega)
         replace hb4 := hb4.mb hm (by simp; omega)
         replace hSw := hSw.mb hm (fun k h => by cases h; omega)
         replace hS := hS.mb hm (fun k h => by cases h; exact ⟨_, _, _, hb5.blk⟩)
         replace hb5 := hbx'
         clear hm hI' hbx'
         refine WL_nil (hK _ _ ?_)
         clear hK K
         replace hF := hF.sub _ (c_ 4 rfl (c_ 5 rfl (n_)))
         refine Rd.W_ret ?_
         exact ⟨⟨⟨hno, hb4, hb5, hSw, hMk⟩, hAO.trans (hS.mono (Nat.zero_le _))⟩, hS.mono (Nat.zero_le _)⟩
        ·
         skip
         try simp only [dcl] at hc5
         have hyes : okC hp f s R C := by unfold okC; assumption
         refine Rd.W_skip ?_
         exact ⟨fun j hj C' hC' => by
          rcases Nat.lt_or_ge j k3 with h | h
          ·
           exact hJ3 j h C' hC'
          ·
           obtain rfl : j = k3 := by omega
           rw [hxC] at hC'; obtain rfl := Option.some.inj hC'; exact hyes, hS⟩
       ·
        skip
        clear hF
        intro a W hF hJd hSd
        replace hS := hS.trans hSd
        exact ⟨fun j hj R' hR' => by
         rcases Nat.lt_or_ge j k with h | h
         ·
          exact hJA j h R' hR'
         ·
          obtain rfl : j = k := by omega
          rw [hxR] at hR'; obtain rfl := Option.some.inj hR'
          intro C hC
          obtain ⟨i, hi⟩ := List.getElem?_of_mem hC
          exact hJd i (List.getElem?_eq_some_iff.1 hi).1 C hi, hS⟩
       ·
        exact fun a W hF hj hIv => ⟨hj.1, hj.2⟩
      ·
       skip
       clear hF
       intro a W hF hD hJd hSd
       have hMk3 := Mk.cons (D := FDx) (B := B) hMk (Nat.le_refl _) hsw (hMk.st hSd) hD
       clear hMk
       have hMk := hMk3
       clear hMk3
       replace hb2 := hb2.st hSd
       replace hb3 := hb3.st hSd
       replace hb4 := hb4.st hSd
       replace hb5 := hb5.st hSd
       replace hb6 := hb6.st hSd
       replace hf := hf.st hSd
       replace hA := hA.st hSd
       replace hS := hS.trans hSd
       have hall2 : ∀ t, t < s + 1 → ∀ R ∈ ch n (t + 1) 0, okR hp f m t R := fun t ht R hR => by
        rcases Nat.lt_or_ge t s with h | h
        ·
         exact hall t h R hR
        ·
         obtain rfl : t = s := by omega
         obtain ⟨i, hi⟩ := List.getElem?_of_mem hR
         exact hJd i (List.getElem?_eq_some_iff.1 hi).1 R hi
       clear hds hsw hSd hJd
       refine W_seq ?_
       refine W_sr rfl (fun K hK => ?_)
       refine sv hF (v_load sc3 rfl hb6.at) rfl ?_; clear hF a; intro a hF
       refine WL_nil (hK _ _ ?_)
       clear hK K
       replace hF := hF.sub _ (c_ 54 rfl (c_ 2 rfl (c_ 3 rfl (c_ 4 rfl (c_ 5 rfl (c_ 6 rfl (n_)))))))
       clear hb6
       refine W_reg rfl (fun K hK => ?_)
       obtain ⟨g6, hg6⟩ : ∃ g, g = W.heap.size := ⟨_, rfl⟩
       have sg6 := hS.ext.size
       have tg6b2 := heap_lt hb2.blk
       have tg6b3 := heap_lt hb3.blk
       have tg6b4 := heap_lt hb4.blk
       have tg6b5 := heap_lt hb5.blk
       rw [← hg6] at sg6 tg6b2 tg6b3 tg6b4 tg6b5
       refine s_alloc (D := FDx) (B := B) hF zv3 (by decide) hS.inv rfl ?_; clear hF a; intro w' a hm hI' hb6 hsz hF
       replace hf := hf.mb hm
       replace hA := hA.mb hm (fun _ h => by cases h)
       replace hMk := hMk.mb hm (fun k e => by cases e)
       replace hb2 := hb2.mb hm (by simp)
       replace hb3 := hb3.mb hm (by simp)
       replace hb4 := hb4.mb hm (by simp)
       replace hb5 := hb5.mb hm (by simp)
       replace hS := hS.mb0 hm
       clear hm hI' hsz
       rw [← hg6] at hb6 hF
       clear hg6
       refine s_stb (D := FDx) (B := B) hF on3 rfl rfl (rfl) hb6 hS.inv ?_; intro w' hm hI' hbx'
       replace hf := hf.mb hm
       replace hA := hA.mb hm (fun k h => by cases h; exact Nat.le_trans (by omega) hb6.low)
       replace hMk := hMk.mb hm (fun k e => by cases e; exact ⟨_, _, _, hb6.blk⟩)
       replace hb2 := hb2.mb hm (by simp; omega)
       replace hb3 := hb3.mb hm (by simp; omega)
       replace hb4 := hb4.mb hm (by simp; omega)
       replace hb5 := hb5.mb hm (by simp; omega)
       replace hS := hS.mb hm (fun k h => by cases h; omega)
       replace hb6 := hbx'
       clear hm hI' hbx'
       refine WL_nil (hK _ _ ?_)
       clear hK K
       refine W_reg rfl (fun K hK => ?_)
       refine sv hF (v_load sc3 rfl hb6.at) rfl ?_; clear hF a; intro a hF
       refine sv hF ((v_addI rfl rfl (by omega)).as (show Value.int .i64 (((s + 1 : Nat) : Int) + 1) = .int .i64 ((s + 1 + 1 : Nat) : Int) by congr 1)) rfl ?_; clear hF a; intro a hF
       refine s_stb (D := FDx) (B := B) hF on3 rfl rfl (rfl) hb6 hS.inv ?_; intro w' hm hI' hbx'
       replace hf := hf.mb hm
       replace hA := hA.mb hm (fun k h => by cases h; exact Nat.le_trans (by omega) hb6.low)
       replace hMk := hMk.mb hm (fun k e => by cases e; exact ⟨_, _, _, hb6.blk⟩)
       replace hb2 := hb2.mb hm (by simp; omega)
       replace hb3 := hb3.mb hm (by simp; omega)
       replace hb4 := hb4.mb hm (by simp; omega)
       replace hb5 := hb5.mb hm (by simp; omega)
       replace hS := hS.mb hm (fun k h => by cases h; omega)
       replace hb6 := hbx'
       clear hm hI' hbx'
       refine WL_nil (hK _ _ ?_)
       clear hK K
       exact ⟨q - 1, by omega, s + 1, _, _, hF.sub _ (c_ 2 rfl (c_ 3 rfl (c_ 4 rfl (c_ 5 rfl (c_ 6 rfl (n_)))))), hS, hMk, hf, hA, hb2, hb3, hb4, hb5, hb6, by omega, hall2, by omega, by omega⟩
      ·
       rintro a W hF hD ⟨hno, hb4, hb5, hSw, hMk2⟩ hIv
       exact ⟨_, _, _, _, _, _, Mk.cons (D := FDx) (B := B) hMk (Nat.le_refl _) hsw hMk2 hD, hIv, hF, rfl, rfl, fun w2 hX => ⟨ld_one scb (Box.at (hb4.xt hX)), ld_one sce (Box.at (hb5.xt hX)), (by rw [hsafe, hno]), hSw.thenX hX (Nat.le_refl _)⟩⟩
     ·
      skip
      try simp only [dcl] at hc4
      have hse : s = min n m := by omega
      have hyes : safeB hp n m f = true := (safeB_iff hp).2 (by rw [← hse]; exact hall)
      refine W_exit rfl ?_
      refine W_sr rfl (fun K hK => ?_)
      refine s_stb (D := FDx) (B := B) hF on4 rfl rfl (rfl) hb4 hS.inv ?_; intro w' hm hI' hbx'
      replace hf := hf.mb hm
      replace hA := hA.mb hm (fun k h => by cases h; exact Nat.le_trans (by omega) hb4.low)
      replace hMk := hMk.mb hm (fun k e => by cases e; exact ⟨_, _, _, hb4.blk⟩)
      replace hb2 := hb2.mb hm (by simp; omega)
      replace hb3 := hb3.mb hm (by simp; omega)
      replace hb5 := hb5.mb hm (by simp; omega)
      replace hb6 := hb6.mb hm (by simp; omega)
      replace hS := hS.mb hm (fun k h => by cases h; omega)
      replace hb4 := hbx'
      clear hm hI' hbx'
      refine s_stb (D := FDx) (B := B) hF on29 rfl rfl (rfl) hb5 hS.inv ?_; intro w' hm hI' hbx'
      replace hf := hf.mb hm
      replace hA := hA.mb hm (fun k h => by cases h; exact Nat.le_trans (by omega) hb5.low)
      replace hMk := hMk.mb hm (fun k e => by cases e; exact ⟨_, _, _, hb5.blk⟩)
      replace hb2 := hb2.mb hm (by simp; omega)
      replace hb3 := hb3.mb hm (by simp; omega)
      replace hb4 := hb4.mb hm (by simp; omega)
      replace hb6 := hb6.mb hm (by simp; omega)
      replace hS := hS.mb hm (fun k h => by cases h; omega)
      replace hb5 := hbx'
      clear hm hI' hbx'
      refine WL_nil (hK _ _ ?_)
      clear hK K
      replace hF := hF.sub _ (c_ 2 rfl (c_ 3 rfl (c_ 4 rfl (c_ 5 rfl (c_ 6 rfl (n_))))))
      refine W_ret ?_
      exact ⟨_, _, _, _, _, _, hMk, hS.inv, hF, rfl, rfl, fun w2 hX => ⟨ld_one scb (Box.at (hb4.xt hX)), ld_one sce (Box.at (hb5.xt hX)), (by rw [hsafe, hyes]), hS.thenX hX (Nat.le_refl _)⟩⟩

end Go.Proofs.Ytaeljbdpjiciaaa

/- The walks of the document answer for polynomials: each function returns what the plain function on numbers tells. -/
set_option linter.unusedVariables false
set_option linter.unusedSimpArgs false
namespace Go.Proofs.Ytaeljbdpjiciaaa
open Go Go.Gam


namespace FxFRef01
theorem en109 : Ent Try.prog 109 := ent Try.func109 (by kernel_rfl) (by kernel_rfl)
theorem en117 : Ent Try.prog 117 := ent Try.func117 (by kernel_rfl) (by kernel_rfl)
theorem en118 : Ent Try.prog 118 := ent Try.func118 (by kernel_rfl) (by kernel_rfl)
theorem en123 : Ent Try.prog 123 := ent Try.func123 (by kernel_rfl) (by kernel_rfl)
theorem en124 : Ent Try.prog 124 := ent Try.func124 (by kernel_rfl) (by kernel_rfl)
end FxFRef01
open FxFRef01

set_option maxRecDepth 100000 in
set_option maxHeartbeats 1000000 in
theorem rDeg_ok (B P : Nat) (w : World) (hI : Inv FDx B w) (hP : P < 18446744073709551616) : Ret Try.prog 123 [.int .u64 (P : Int)] w fun v w' => v = .int .i64 (Px.deg P) ∧ St FDx B w w'  := by
 refine enter 11 [(0, .int .u64 (P : Int))] 2 Try.func123 rfl rfl rfl rfl rfl ?_; intro a hF
 have hS := St.refl hI
 have hbl := blen_le (n := P) (k := 64) (by omega)
 refine W_sr rfl (fun K hK => ?_)
 refine sv hF (v_assign rfl) rfl ?_; clear hF a; intro a hF
 refine WL_nil (hK _ _ ?_)
 clear hK K
 refine W_sr rfl (fun K hK => ?_)
 refine sv hF (v_assign rfl) rfl ?_; clear hF a; intro a hF
 refine WL_nil (hK _ _ ?_)
 clear hK K
 refine W_seq ?_
 refine W_block ?_
 refine W_loop (fun m a w1 => ∃ n : Int, Fr 11 [(0, .int .u64 (m : Int)), (3, .int .i64 n)] a ∧ w = w1 ∧ (blen m : Int) + (n + 1) = blen P ∧ m < 18446744073709551616 ∧ -1 ≤ n) (P) ?_ ?_
 ·
  skip
  exact ⟨_, hF.sub _ (c_ 0 rfl (c_ 3 rfl n_)), rfl, by omega, hP, by omega⟩
 ·
  skip
  clear hF
  rintro m a _ ⟨n, hF, rfl, hn, hm, hn1⟩
  refine W_seq ?_
  refine W_sr rfl (fun K hK => ?_)
  refine sv hF (v_move rfl) rfl ?_; clear hF a; intro a hF
  refine sv hF (v_gtr rfl rfl) rfl ?_; clear hF a; intro a hF
  refine WL_nil (hK _ _ ?_)
  clear hK K
  replace hF := hF.sub _ (c_ 5 rfl (c_ 0 rfl (c_ 3 rfl (n_))))
  refine W_if hF rfl (fun hc1 => ?_) (fun hc1 => ?_)
  ·
   skip
   try simp only [dcl] at hc1
   have hbs := blen_half (m := m) (by omega)
   refine W_skip ?_
   refine W_block ?_
   refine W_sr rfl (fun K hK => ?_)
   refine sv hF (v_move rfl) rfl ?_; clear hF a; intro a hF
   refine sv hF (v_addI rfl rfl (by omega)) rfl ?_; clear hF a; intro a hF
   refine sv hF (v_assign rfl) rfl ?_; clear hF a; intro a hF
   refine WL_nil (hK _ _ ?_)
   clear hK K
   replace hF := hF.sub _ (c_ 3 rfl (c_ 0 rfl (n_)))
   refine W_reg rfl (fun K hK => ?_)
   refine sv hF (v_move rfl) rfl ?_; clear hF a; intro a hF
   refine sv hF (v_quoN (n := 2) rfl rfl (by omega) (fits_u64 (by omega))) rfl ?_; clear hF a; intro a hF
   refine sv hF (v_assign rfl) rfl ?_; clear hF a; intro a hF
   refine WL_nil (hK _ _ ?_)
   clear hK K
   replace hF := hF.sub _ (c_ 0 rfl (c_ 3 rfl (n_)))
   exact ⟨m / 2, by omega, _, hF.sub _ (c_ 0 rfl (c_ 3 rfl n_)), rfl, by omega, by omega, by omega⟩
  ·
   skip
   try simp only [dcl] at hc1
   obtain rfl : m = 0 := by omega
   rw [blen_zero] at hn
   refine W_exit rfl ?_
   refine W_sr rfl (fun K hK => ?_)
   refine sv2 hF (v_move rfl) (v_assign rfl) rfl rfl ?_; clear hF a; intro a hF
   refine WL_nil (hK _ _ ?_)
   clear hK K
   replace hF := hF.sub _ (c_ 2 rfl (c_ 10 rfl (c_ 0 rfl (c_ 3 rfl (n_)))))
   refine W_ret ?_
   refine ⟨_, _, hF, rfl, ?_⟩
   exact ⟨by rw [← deg_blen]; congr 1; omega, hS⟩

set_option maxRecDepth 100000 in
set_option maxHeartbeats 1000000 in
theorem rMul_ok (B X Y : Nat) (w : World) (hI : Inv FDx B w) (hX : X < 4294967296) (hY : Y < 4294967296) : Ret Try.prog 118 [.int .u32 (X : Int), .int .u32 (Y : Int)] w fun v w' => v = .int .u64 (Px.mul X Y : Int) ∧ St FDx B w w'  := by
 refine enter 22 [(0, .int .u32 (X : Int)), (1, .int .u32 (Y : Int))] 4 Try.func118 rfl rfl rfl rfl rfl ?_; intro a hF
 have hS := St.refl hI
 refine W_sr rfl (fun K hK => ?_)
 refine sv hF (v_assign rfl) rfl ?_; clear hF a; intro a hF
 refine WL_nil (hK _ _ ?_)
 clear hK K
 refine W_sr rfl (fun K hK => ?_)
 refine sv hF (v_assign rfl) rfl ?_; clear hF a; intro a hF
 refine WL_nil (hK _ _ ?_)
 clear hK K
 refine W_sr rfl (fun K hK => ?_)
 refine sv hF (v_move rfl) rfl ?_; clear hF a; intro a hF
 refine sv hF (v_cv Try.underlying24 Try.underlying115 rfl (wrap_u64 _ (by omega))) rfl ?_; clear hF a; intro a hF
 refine sv hF (v_assign rfl) rfl ?_; clear hF a; intro a hF
 refine WL_nil (hK _ _ ?_)
 clear hK K
 replace hF := hF.sub _ (c_ 6 rfl (c_ 5 rfl (c_ 4 rfl (c_ 1 rfl (n_)))))
 refine W_seq ?_
 refine W_block ?_
 refine W_loop (fun m a w1 => ∃ k x o : Nat, Fr 22 [(1, .int .u32 (m : Int)), (5, .int .u64 (o : Int)), (6, .int .u64 (x : Int))] a ∧ w = w1 ∧ m = Y / 2 ^ k ∧ x = X <<< k ∧ o = Px.mul X (Y % 2 ^ k) ∧ k ≤ 32) (Y) ?_ ?_
 ·
  skip
  exact ⟨0, X, 0, hF.sub _ (c_ 1 rfl (c_ 5 rfl (c_ 6 rfl n_))), rfl, by simp, by simp, (mul_none X Y).symm, by omega⟩
 ·
  skip
  clear hF
  rintro m a _ ⟨k, x, o, hF, rfl, hm, hx, ho, hk⟩
  refine W_seq ?_
  have hm32 : m < 4294967296 := by rw [hm]; exact div_lt hY
  refine W_sr rfl (fun K hK => ?_)
  refine sv hF (v_move rfl) rfl ?_; clear hF a; intro a hF
  refine sv hF (v_gtr rfl rfl) rfl ?_; clear hF a; intro a hF
  refine WL_nil (hK _ _ ?_)
  clear hK K
  replace hF := hF.sub _ (c_ 10 rfl (c_ 1 rfl (c_ 5 rfl (c_ 6 rfl (n_)))))
  refine W_if hF rfl (fun hc1 => ?_) (fun hc1 => ?_)
  ·
   skip
   try simp only [dcl] at hc1
   have hk2 : k < 32 := by
    rcases Nat.lt_or_ge k 32 with h | h
    ·
     exact h
    ·
     have h9 : Y / 2 ^ k = 0 := Nat.div_eq_of_lt (Nat.lt_of_lt_of_le hY (Nat.pow_le_pow_right (n := 2) (by decide) h))
     omega
   have hx2 : x < 9223372036854775808 := by
    rw [hx, Nat.shiftLeft_eq]
    exact Nat.lt_of_lt_of_le (shl_lt (m := 32) (i := k) hX) (Nat.pow_le_pow_right (n := 2) (by decide) (show 32 + k ≤ 63 by omega))
   have ho2 : o < 18446744073709551616 := by rw [ho]; exact mul_lt64 hX (Nat.lt_of_le_of_lt (Nat.mod_le _ _) hY)
   have hst := mul_bit X Y k
   rw [bit_of_div, ← hm, ← ho, ← hx] at hst
   have hds := div_succ Y k
   rw [← hm] at hds
   have hxs : 2 * x = X <<< (k + 1) := by rw [hx, Nat.shiftLeft_eq, Nat.shiftLeft_eq, Nat.pow_succ, Nat.mul_comm 2, Nat.mul_assoc]
   refine W_skip ?_
   refine W_block ?_
   refine W_seq ?_
   refine W_sr rfl (fun K hK => ?_)
   refine sv hF (v_move rfl) rfl ?_; clear hF a; intro a hF
   refine sv hF (v_remI rfl rfl (by omega) (by omega)) rfl ?_; clear hF a; intro a hF
   refine sv hF (v_eql rfl rfl) rfl ?_; clear hF a; intro a hF
   refine WL_nil (hK _ _ ?_)
   clear hK K
   replace hF := hF.sub _ (c_ 13 rfl (c_ 1 rfl (c_ 5 rfl (c_ 6 rfl (n_)))))
   refine W_if hF rfl (fun hc2 => ?_) (fun hc2 => ?_)
   ·
    skip
    try simp only [dcl] at hc2
    rw [if_pos (by simp; omega)] at hst
    refine W_reg rfl (fun K hK => ?_)
    refine sv2 hF (v_move rfl) (v_move rfl) rfl rfl ?_; clear hF a; intro a hF
    refine sv hF (v_xorN rfl rfl (fits_u64 (by omega)) (fits_u64 (by omega))) rfl ?_; clear hF a; intro a hF
    refine sv hF (v_assign rfl) rfl ?_; clear hF a; intro a hF
    refine WL_nil (hK _ _ ?_)
    clear hK K
    replace hF := hF.sub _ (c_ 5 rfl (c_ 1 rfl (c_ 6 rfl (n_))))
    refine W_sr rfl (fun K hK => ?_)
    refine sv hF (v_move rfl) rfl ?_; clear hF a; intro a hF
    refine sv hF ((v_mul rfl rfl).as (congrArg _ (wrap_u64 _ (by omega)))) rfl ?_; clear hF a; intro a hF
    refine sv hF (v_assign rfl) rfl ?_; clear hF a; intro a hF
    refine WL_nil (hK _ _ ?_)
    clear hK K
    replace hF := hF.sub _ (c_ 6 rfl (c_ 5 rfl (c_ 1 rfl (n_))))
    refine W_reg rfl (fun K hK => ?_)
    refine sv hF (v_move rfl) rfl ?_; clear hF a; intro a hF
    refine sv hF (v_quoN (n := 2) rfl rfl (by omega) (fits_u32 (by omega))) rfl ?_; clear hF a; intro a hF
    refine sv hF (v_assign rfl) rfl ?_; clear hF a; intro a hF
    refine WL_nil (hK _ _ ?_)
    clear hK K
    replace hF := hF.sub _ (c_ 1 rfl (c_ 6 rfl (c_ 5 rfl (n_))))
    exact ⟨m / 2, by omega, k + 1, 2 * x, _, hF.sub _ (c_ 1 rfl (c_ 5 rfl (c_ 6 rfl n_))), rfl, hds.symm, hxs, hst.symm, by omega⟩
   ·
    skip
    try simp only [dcl] at hc2
    rw [if_neg (by simp; omega), Nat.xor_zero] at hst
    refine W_skip ?_
    refine W_sr rfl (fun K hK => ?_)
    refine sv hF (v_move rfl) rfl ?_; clear hF a; intro a hF
    refine sv hF ((v_mul rfl rfl).as (congrArg _ (wrap_u64 _ (by omega)))) rfl ?_; clear hF a; intro a hF
    refine sv hF (v_assign rfl) rfl ?_; clear hF a; intro a hF
    refine WL_nil (hK _ _ ?_)
    clear hK K
    replace hF := hF.sub _ (c_ 6 rfl (c_ 1 rfl (c_ 5 rfl (n_))))
    refine W_reg rfl (fun K hK => ?_)
    refine sv hF (v_move rfl) rfl ?_; clear hF a; intro a hF
    refine sv hF (v_quoN (n := 2) rfl rfl (by omega) (fits_u32 (by omega))) rfl ?_; clear hF a; intro a hF
    refine sv hF (v_assign rfl) rfl ?_; clear hF a; intro a hF
    refine WL_nil (hK _ _ ?_)
    clear hK K
    replace hF := hF.sub _ (c_ 1 rfl (c_ 6 rfl (c_ 5 rfl (n_))))
    exact ⟨m / 2, by omega, k + 1, 2 * x, _, hF.sub _ (c_ 1 rfl (c_ 5 rfl (c_ 6 rfl n_))), rfl, hds.symm, hxs, hst.symm, by omega⟩
  ·
   skip
   try simp only [dcl] at hc1
   obtain rfl : m = 0 := by omega
   have hfin : Y % 2 ^ k = Y := by
    have h9 := Nat.div_add_mod Y (2 ^ k)
    rw [← hm, Nat.mul_zero, Nat.zero_add] at h9
    exact h9
   rw [hfin] at ho
   refine W_exit rfl ?_
   refine W_sr rfl (fun K hK => ?_)
   refine sv2 hF (v_move rfl) (v_assign rfl) rfl rfl ?_; clear hF a; intro a hF
   refine WL_nil (hK _ _ ?_)
   clear hK K
   replace hF := hF.sub _ (c_ 4 rfl (c_ 21 rfl (c_ 1 rfl (c_ 5 rfl (c_ 6 rfl (n_))))))
   refine W_ret ?_
   refine ⟨_, _, hF, rfl, ?_⟩
   exact ⟨by rw [ho], hS⟩

set_option maxRecDepth 100000 in
set_option maxHeartbeats 1000000 in
theorem rpow_ok (B n : Nat) (w : World) (hI : Inv FDx B w) (hn : n ≤ 63) : Ret Try.prog 124 [.int .i64 (n : Int)] w fun v w' => v = .int .u64 ((2 ^ n : Nat) : Int) ∧ St FDx B w w'  := by
 refine enter 13 [(0, .int .i64 (n : Int))] 2 Try.func124 rfl rfl rfl rfl rfl ?_; intro a hF
 have hS := St.refl hI
 refine W_sr rfl (fun K hK => ?_)
 refine sv hF (v_assign rfl) rfl ?_; clear hF a; intro a hF
 refine WL_nil (hK _ _ ?_)
 clear hK K
 refine W_sr rfl (fun K hK => ?_)
 refine sv hF (v_assign rfl) rfl ?_; clear hF a; intro a hF
 refine WL_nil (hK _ _ ?_)
 clear hK K
 refine W_seq ?_
 refine W_sr rfl (fun K hK => ?_)
 refine sv hF (v_assign rfl) rfl ?_; clear hF a; intro a hF
 refine WL_nil (hK _ _ ?_)
 clear hK K
 refine W_block ?_
 refine W_loop (fun m a w1 => ∃ i x : Nat, Fr 13 [(0, .int .i64 (n : Int)), (3, .int .u64 (x : Int)), (4, .int .i64 (i : Int))] a ∧ w = w1 ∧ i ≤ n ∧ x = 2 ^ i ∧ m = n - i) (n) ?_ ?_
 ·
  skip
  exact ⟨0, 1, hF.sub _ (c_ 0 rfl (c_ 3 rfl (c_ 4 rfl n_))), rfl, by omega, by simp, by omega⟩
 ·
  skip
  clear hF
  rintro m a _ ⟨i, x, hF, rfl, hi, hx, rfl⟩
  refine W_seq ?_
  refine W_sr rfl (fun K hK => ?_)
  refine sv2 hF (v_move rfl) (v_move rfl) rfl rfl ?_; clear hF a; intro a hF
  refine sv hF (v_lss rfl rfl) rfl ?_; clear hF a; intro a hF
  refine WL_nil (hK _ _ ?_)
  clear hK K
  replace hF := hF.sub _ (c_ 7 rfl (c_ 0 rfl (c_ 3 rfl (c_ 4 rfl (n_)))))
  refine W_if hF rfl (fun hc1 => ?_) (fun hc1 => ?_)
  ·
   skip
   try simp only [dcl] at hc1
   have hx2 : x < 9223372036854775808 := by
    rw [hx]; exact Nat.lt_of_lt_of_le (Nat.pow_lt_pow_right (a := 2) (by decide) (show i < 63 by omega)) (by decide)
   refine W_skip ?_
   refine W_seq ?_
   refine W_block ?_
   refine W_reg rfl (fun K hK => ?_)
   refine sv hF (v_move rfl) rfl ?_; clear hF a; intro a hF
   refine sv hF ((v_mul rfl rfl).as (congrArg _ (wrap_u64 _ (by omega)))) rfl ?_; clear hF a; intro a hF
   refine sv hF (v_assign rfl) rfl ?_; clear hF a; intro a hF
   refine WL_nil (hK _ _ ?_)
   clear hK K
   replace hF := hF.sub _ (c_ 3 rfl (c_ 0 rfl (c_ 4 rfl (n_))))
   refine W_reg rfl (fun K hK => ?_)
   refine sv hF (v_move rfl) rfl ?_; clear hF a; intro a hF
   refine sv hF (v_addI rfl rfl (by omega)) rfl ?_; clear hF a; intro a hF
   refine sv hF (v_assign rfl) rfl ?_; clear hF a; intro a hF
   refine WL_nil (hK _ _ ?_)
   clear hK K
   exact ⟨n - (i + 1), by omega, i + 1, 2 * x, hF.sub _ (c_ 0 rfl (c_ 3 rfl (c_ 4 rfl n_))), rfl, by omega, by rw [hx, Nat.pow_succ, Nat.mul_comm], rfl⟩
  ·
   skip
   try simp only [dcl] at hc1
   obtain rfl : i = n := by omega
   refine W_exit rfl ?_
   refine W_sr rfl (fun K hK => ?_)
   refine sv2 hF (v_move rfl) (v_assign rfl) rfl rfl ?_; clear hF a; intro a hF
   refine WL_nil (hK _ _ ?_)
   clear hK K
   replace hF := hF.sub _ (c_ 2 rfl (c_ 12 rfl (c_ 0 rfl (c_ 3 rfl (c_ 4 rfl (n_))))))
   refine W_ret ?_
   refine ⟨_, _, hF, rfl, ?_⟩
   exact ⟨by rw [hx], hS⟩

set_option maxRecDepth 100000 in
set_option maxHeartbeats 1000000 in
theorem rMod_ok (B A p : Nat) (w : World) (hI : Inv FDx B w) (hA : A < 18446744073709551616) (hp : p < 4294967296) : Ret Try.prog 117 [.int .u64 (A : Int), .int .u32 (p : Int)] w fun v w' => v = .int .u32 (Px.mod A p : Int) ∧ St FDx B w w'  := by
 refine enter 27 [(0, .int .u64 (A : Int)), (1, .int .u32 (p : Int))] 4 Try.func117 rfl rfl rfl rfl rfl ?_; intro a hF
 have hS := St.refl hI
 refine W_sr rfl (fun K hK => ?_)
 refine sv hF (v_assign rfl) rfl ?_; clear hF a; intro a hF
 refine WL_nil (hK _ _ ?_)
 clear hK K
 refine W_seq ?_
 refine W_sr rfl (fun K hK => ?_)
 refine sv hF (v_move rfl) rfl ?_; clear hF a; intro a hF
 refine sv hF (v_eql rfl rfl) rfl ?_; clear hF a; intro a hF
 refine WL_nil (hK _ _ ?_)
 clear hK K
 replace hF := hF.sub _ (c_ 7 rfl (c_ 4 rfl (c_ 0 rfl (c_ 1 rfl (n_)))))
 refine W_if hF rfl (fun hc1 => ?_) (fun hc1 => ?_)
 ·
  skip
  try simp only [dcl] at hc1
  obtain rfl : p = 0 := by omega
  refine W_sr rfl (fun K hK => ?_)
  refine sv hF (v_assign rfl) rfl ?_; clear hF a; intro a hF
  refine WL_nil (hK _ _ ?_)
  clear hK K
  replace hF := hF.sub _ (c_ 4 rfl (c_ 0 rfl (c_ 1 rfl (n_))))
  refine W_ret ?_
  refine ⟨_, _, hF, rfl, ?_⟩
  exact ⟨by rw [Px.mod_zero]; rfl, hS⟩
 ·
  skip
  try simp only [dcl] at hc1
  have hp0 : p ≠ 0 := by omega
  have hl := log2_lt hp0 (k := 32) hp
  refine W_skip ?_
  refine W_sr rfl (fun K hK => ?_)
  refine sv hF (v_move rfl) rfl ?_; clear hF a; intro a hF
  refine sv hF (v_cv Try.underlying24 Try.underlying115 rfl (wrap_u64 _ (by omega))) rfl ?_; clear hF a; intro a hF
  refine sc hF rfl rfl rfl en123 rfl (rDeg_ok B p _ hS.inv (by omega)) ?_; clear hF a; intro v w' a hv hF
  obtain ⟨rfl, hS'⟩ := hv
  replace hS := hS.trans hS'
  clear hS'
  refine sv hF (v_assign rfl) rfl ?_; clear hF a; intro a hF
  refine WL_nil (hK _ _ ?_)
  clear hK K
  replace hF := hF.sub _ (c_ 5 rfl (c_ 4 rfl (c_ 0 rfl (c_ 1 rfl (n_)))))
  rw [deg_pos hp0] at hF
  refine W_seq ?_
  refine W_block ?_
  refine W_loop (fun m a w1 => Fr 27 [(0, .int .u64 (m : Int)), (1, .int .u32 (p : Int)), (5, .int .i64 (Nat.log2 p : Int))] a ∧ St FDx B w w1 ∧ m < 18446744073709551616 ∧ Px.mod m p = Px.mod A p) (A) ?_ ?_
  ·
   skip
   exact ⟨hF.sub _ (c_ 0 rfl (c_ 1 rfl (c_ 5 rfl n_))), hS, hA, rfl⟩
  ·
   skip
   clear hF
   clear hS
   rintro m a w1 ⟨hF, hS, hm, he⟩
   refine W_seq ?_
   refine W_sr rfl (fun K hK => ?_)
   refine sv hF (v_move rfl) rfl ?_; clear hF a; intro a hF
   refine sc hF rfl rfl rfl en123 rfl (rDeg_ok B m _ hS.inv hm) ?_; clear hF a; intro v w' a hv hF
   obtain ⟨rfl, hS'⟩ := hv
   replace hS := hS.trans hS'
   clear hS'
   refine sv hF (v_move rfl) rfl ?_; clear hF a; intro a hF
   refine sv hF (v_geq rfl rfl) rfl ?_; clear hF a; intro a hF
   refine WL_nil (hK _ _ ?_)
   clear hK K
   replace hF := hF.sub _ (c_ 14 rfl (c_ 0 rfl (c_ 1 rfl (c_ 5 rfl (n_)))))
   refine W_if hF rfl (fun hc2 => ?_) (fun hc2 => ?_)
   ·
    skip
    try simp only [dcl] at hc2
    have hm0 : m ≠ 0 := by rintro rfl; rw [deg_zero] at hc2; omega
    rw [deg_pos hm0] at hc2
    have hlt := xor_shift_lt hp0 hm0 (by omega)
    have hl2 := log2_lt hm0 (k := 64) hm
    have hmx := mod_xor_shift m p (Nat.log2 m - Nat.log2 p)
    have hsh := shl_lt64 hp0 hp (j := Nat.log2 m) (by omega) (by omega)
    have hge := (Px.hb_log hm0).1
    refine W_skip ?_
    refine W_block ?_
    refine W_reg rfl (fun K hK => ?_)
    refine sv2 hF (v_move rfl) (v_move rfl) rfl rfl ?_; clear hF a; intro a hF
    refine sv hF (v_cv Try.underlying24 Try.underlying115 rfl (wrap_u64 _ (by omega))) rfl ?_; clear hF a; intro a hF
    refine sv hF (v_move rfl) rfl ?_; clear hF a; intro a hF
    refine sc hF rfl rfl rfl en123 rfl (rDeg_ok B m _ hS.inv hm) ?_; clear hF a; intro v w' a hv hF
    obtain ⟨rfl, hS'⟩ := hv
    replace hS := hS.trans hS'
    clear hS'
    refine sv hF (v_move rfl) rfl ?_; clear hF a; intro a hF
    rw [deg_pos hm0] at hF
    refine sv hF (v_subN rfl rfl (by omega) (by omega)) rfl ?_; clear hF a; intro a hF
    refine sc hF rfl rfl rfl en124 rfl (rpow_ok B (Nat.log2 m - Nat.log2 p) _ hS.inv (by omega)) ?_; clear hF a; intro v w' a hv hF
    obtain ⟨rfl, hS'⟩ := hv
    replace hS := hS.trans hS'
    clear hS'
    refine sv hF ((v_mul rfl rfl).as (congrArg _ (mul_shift hsh))) rfl ?_; clear hF a; intro a hF
    refine sv hF (v_xorN rfl rfl (fits_u64 hm) (fits_u64 (by rw [Nat.shiftLeft_eq]; exact hsh))) rfl ?_; clear hF a; intro a hF
    refine sv hF (v_assign rfl) rfl ?_; clear hF a; intro a hF
    refine WL_nil (hK _ _ ?_)
    clear hK K
    replace hF := hF.sub _ (c_ 0 rfl (c_ 1 rfl (c_ 5 rfl (n_))))
    exact ⟨_, Nat.lt_of_lt_of_le hlt hge, hF.sub _ (c_ 0 rfl (c_ 1 rfl (c_ 5 rfl n_))), hS, by omega, by rw [hmx, he]⟩
   ·
    skip
    try simp only [dcl] at hc2
    have hfin := mod_low (A := m) hp0 (by omega)
    have hlt := mod_lt32 m hp
    rw [hfin] at hlt he
    refine W_exit rfl ?_
    refine W_sr rfl (fun K hK => ?_)
    refine sv hF (v_move rfl) rfl ?_; clear hF a; intro a hF
    refine sv hF (v_cv Try.underlying115 Try.underlying24 rfl (wrap_u32 _ (by omega))) rfl ?_; clear hF a; intro a hF
    refine sv hF (v_assign rfl) rfl ?_; clear hF a; intro a hF
    refine WL_nil (hK _ _ ?_)
    clear hK K
    replace hF := hF.sub _ (c_ 4 rfl (c_ 26 rfl (c_ 25 rfl (c_ 0 rfl (c_ 1 rfl (c_ 5 rfl (n_)))))))
    refine W_ret ?_
    refine ⟨_, _, hF, rfl, ?_⟩
    exact ⟨by rw [he], hS⟩

set_option maxRecDepth 100000 in
set_option maxHeartbeats 1000000 in
theorem rMulMod_ok (B x y p : Nat) (w : World) (hI : Inv FDx B w) (hx : x < 4294967296) (hy : y < 4294967296) (hp : p < 4294967296) : Ret Try.prog 109 [.int .u32 (x : Int), .int .u32 (y : Int), .int .u32 (p : Int)] w fun v w' => v = .int .u32 (Px.mulMod x y p : Int) ∧ St FDx B w w'  := by
 refine enter 12 [(0, .int .u32 (x : Int)), (1, .int .u32 (y : Int)), (2, .int .u32 (p : Int))] 6 Try.func109 rfl rfl rfl rfl rfl ?_; intro a hF
 have hS := St.refl hI
 refine W_sr rfl (fun K hK => ?_)
 refine sv hF (v_assign rfl) rfl ?_; clear hF a; intro a hF
 refine WL_nil (hK _ _ ?_)
 clear hK K
 refine W_sr rfl (fun K hK => ?_)
 refine sv2 hF (v_move rfl) (v_move rfl) rfl rfl ?_; clear hF a; intro a hF
 refine sc hF rfl rfl rfl en118 rfl (rMul_ok B x y _ hS.inv hx hy) ?_; clear hF a; intro v w' a hv hF
 obtain ⟨rfl, hS'⟩ := hv
 replace hS := hS.trans hS'
 clear hS'
 refine sv hF (v_move rfl) rfl ?_; clear hF a; intro a hF
 refine sc hF rfl rfl rfl en117 rfl (rMod_ok B (Px.mul x y) p _ hS.inv (mul_lt64 hx hy) hp) ?_; clear hF a; intro v w' a hv hF
 obtain ⟨rfl, hS'⟩ := hv
 replace hS := hS.trans hS'
 clear hS'
 refine sv hF (v_assign rfl) rfl ?_; clear hF a; intro a hF
 refine WL_nil (hK _ _ ?_)
 clear hK K
 replace hF := hF.sub _ (c_ 6 rfl (n_))
 refine W_ret ?_
 refine ⟨_, _, hF, rfl, ?_⟩
 exact ⟨rfl, hS⟩

set_option maxRecDepth 100000 in
set_option maxHeartbeats 1000000 in
theorem rPower_ok (B X n p : Nat) (w : World) (hI : Inv FDx B w) (hX : X < 4294967296) (hn : n < 18446744073709551616) (hp : p < 4294967296) : Ret Try.prog 105 [.int .u32 (X : Int), .int .u64 (n : Int), .int .u32 (p : Int)] w fun v w' => v = .int .u32 (powB X p (Px.mod 1 p) n : Int) ∧ St FDx B w w'  := by
 refine enter 26 [(0, .int .u32 (X : Int)), (1, .int .u64 (n : Int)), (2, .int .u32 (p : Int))] 6 Try.func105 rfl rfl rfl rfl rfl ?_; intro a hF
 have hS := St.refl hI
 refine W_sr rfl (fun K hK => ?_)
 refine sv hF (v_assign rfl) rfl ?_; clear hF a; intro a hF
 refine WL_nil (hK _ _ ?_)
 clear hK K
 refine W_sr rfl (fun K hK => ?_)
 refine sv hF (v_move rfl) rfl ?_; clear hF a; intro a hF
 refine sc hF rfl rfl rfl en117 rfl (rMod_ok B 1 p _ hS.inv (by decide) hp) ?_; clear hF a; intro v w' a hv hF
 obtain ⟨rfl, hS'⟩ := hv
 replace hS := hS.trans hS'
 clear hS'
 refine sv hF (v_assign rfl) rfl ?_; clear hF a; intro a hF
 refine WL_nil (hK _ _ ?_)
 clear hK K
 replace hF := hF.sub _ (c_ 7 rfl (c_ 6 rfl (c_ 0 rfl (c_ 1 rfl (c_ 2 rfl (n_))))))
 refine W_seq ?_
 refine W_block ?_
 refine W_loop (fun m a w1 => ∃ x o : Nat, Fr 26 [(0, .int .u32 (x : Int)), (1, .int .u64 (m : Int)), (2, .int .u32 (p : Int)), (7, .int .u32 (o : Int))] a ∧ St FDx B w w1 ∧ powB x p o m = powB X p (Px.mod 1 p) n ∧ x < 4294967296 ∧ o < 4294967296 ∧ m < 18446744073709551616) (n) ?_ ?_
 ·
  skip
  exact ⟨_, _, hF.sub _ (c_ 0 rfl (c_ 1 rfl (c_ 2 rfl (c_ 7 rfl n_)))), hS, rfl, hX, mod_lt32 1 hp, hn⟩
 ·
  skip
  clear hF
  clear hS
  rintro m a w1 ⟨x, o, hF, hS, hg, hx, ho, hm⟩
  refine W_seq ?_
  refine W_sr rfl (fun K hK => ?_)
  refine sv hF (v_move rfl) rfl ?_; clear hF a; intro a hF
  refine sv hF (v_gtr rfl rfl) rfl ?_; clear hF a; intro a hF
  refine WL_nil (hK _ _ ?_)
  clear hK K
  replace hF := hF.sub _ (c_ 11 rfl (c_ 0 rfl (c_ 1 rfl (c_ 2 rfl (c_ 7 rfl (n_))))))
  refine W_if hF rfl (fun hc1 => ?_) (fun hc1 => ?_)
  ·
   skip
   try simp only [dcl] at hc1
   refine W_skip ?_
   refine W_block ?_
   refine W_seq ?_
   refine W_sr rfl (fun K hK => ?_)
   refine sv hF (v_move rfl) rfl ?_; clear hF a; intro a hF
   refine sv hF (v_remI rfl rfl (by omega) (by omega)) rfl ?_; clear hF a; intro a hF
   refine sv hF (v_eql rfl rfl) rfl ?_; clear hF a; intro a hF
   refine WL_nil (hK _ _ ?_)
   clear hK K
   replace hF := hF.sub _ (c_ 14 rfl (c_ 0 rfl (c_ 1 rfl (c_ 2 rfl (c_ 7 rfl (n_))))))
   refine W_if hF rfl (fun hc2 => ?_) (fun hc2 => ?_)
   ·
    skip
    try simp only [dcl] at hc2
    rw [powB_odd x p o (by omega)] at hg
    refine W_reg rfl (fun K hK => ?_)
    refine sv3 hF (v_move rfl) (v_move rfl) (v_move rfl) rfl rfl rfl ?_; clear hF a; intro a hF
    refine sc hF rfl rfl rfl en109 rfl (rMulMod_ok B o x p _ hS.inv ho hx hp) ?_; clear hF a; intro v w' a hv hF
    obtain ⟨rfl, hS'⟩ := hv
    replace hS := hS.trans hS'
    clear hS'
    refine sv hF (v_assign rfl) rfl ?_; clear hF a; intro a hF
    refine WL_nil (hK _ _ ?_)
    clear hK K
    replace hF := hF.sub _ (c_ 7 rfl (c_ 0 rfl (c_ 1 rfl (c_ 2 rfl (n_)))))
    refine W_sr rfl (fun K hK => ?_)
    refine sv3 hF (v_move rfl) (v_move rfl) (v_move rfl) rfl rfl rfl ?_; clear hF a; intro a hF
    refine sc hF rfl rfl rfl en109 rfl (rMulMod_ok B x x p _ hS.inv hx hx hp) ?_; clear hF a; intro v w' a hv hF
    obtain ⟨rfl, hS'⟩ := hv
    replace hS := hS.trans hS'
    clear hS'
    refine sv hF (v_assign rfl) rfl ?_; clear hF a; intro a hF
    refine WL_nil (hK _ _ ?_)
    clear hK K
    replace hF := hF.sub _ (c_ 0 rfl (c_ 7 rfl (c_ 1 rfl (c_ 2 rfl (n_)))))
    refine W_reg rfl (fun K hK => ?_)
    refine sv hF (v_move rfl) rfl ?_; clear hF a; intro a hF
    refine sv hF (v_quoN (n := 2) rfl rfl (by omega) (fits_u64 (by omega))) rfl ?_; clear hF a; intro a hF
    refine sv hF (v_assign rfl) rfl ?_; clear hF a; intro a hF
    refine WL_nil (hK _ _ ?_)
    clear hK K
    replace hF := hF.sub _ (c_ 1 rfl (c_ 0 rfl (c_ 7 rfl (c_ 2 rfl (n_)))))
    exact ⟨m / 2, by omega, _, _, hF.sub _ (c_ 0 rfl (c_ 1 rfl (c_ 2 rfl (c_ 7 rfl n_)))), hS, hg, mod_lt32 _ hp, by first | exact mod_lt32 _ hp | exact ho, by omega⟩
   ·
    skip
    try simp only [dcl] at hc2
    rw [powB_even x p o (by omega) (by omega)] at hg
    refine W_skip ?_
    refine W_sr rfl (fun K hK => ?_)
    refine sv3 hF (v_move rfl) (v_move rfl) (v_move rfl) rfl rfl rfl ?_; clear hF a; intro a hF
    refine sc hF rfl rfl rfl en109 rfl (rMulMod_ok B x x p _ hS.inv hx hx hp) ?_; clear hF a; intro v w' a hv hF
    obtain ⟨rfl, hS'⟩ := hv
    replace hS := hS.trans hS'
    clear hS'
    refine sv hF (v_assign rfl) rfl ?_; clear hF a; intro a hF
    refine WL_nil (hK _ _ ?_)
    clear hK K
    replace hF := hF.sub _ (c_ 0 rfl (c_ 1 rfl (c_ 2 rfl (c_ 7 rfl (n_)))))
    refine W_reg rfl (fun K hK => ?_)
    refine sv hF (v_move rfl) rfl ?_; clear hF a; intro a hF
    refine sv hF (v_quoN (n := 2) rfl rfl (by omega) (fits_u64 (by omega))) rfl ?_; clear hF a; intro a hF
    refine sv hF (v_assign rfl) rfl ?_; clear hF a; intro a hF
    refine WL_nil (hK _ _ ?_)
    clear hK K
    replace hF := hF.sub _ (c_ 1 rfl (c_ 0 rfl (c_ 2 rfl (c_ 7 rfl (n_)))))
    exact ⟨m / 2, by omega, _, _, hF.sub _ (c_ 0 rfl (c_ 1 rfl (c_ 2 rfl (c_ 7 rfl n_)))), hS, hg, mod_lt32 _ hp, by first | exact mod_lt32 _ hp | exact ho, by omega⟩
  ·
   skip
   try simp only [dcl] at hc1
   obtain rfl : m = 0 := by omega
   rw [powB_zero] at hg
   refine W_exit rfl ?_
   refine W_sr rfl (fun K hK => ?_)
   refine sv2 hF (v_move rfl) (v_assign rfl) rfl rfl ?_; clear hF a; intro a hF
   refine WL_nil (hK _ _ ?_)
   clear hK K
   replace hF := hF.sub _ (c_ 6 rfl (c_ 25 rfl (c_ 0 rfl (c_ 1 rfl (c_ 2 rfl (c_ 7 rfl (n_)))))))
   refine W_ret ?_
   refine ⟨_, _, hF, rfl, ?_⟩
   exact ⟨by rw [hg], hS⟩

end Go.Proofs.Ytaeljbdpjiciaaa
