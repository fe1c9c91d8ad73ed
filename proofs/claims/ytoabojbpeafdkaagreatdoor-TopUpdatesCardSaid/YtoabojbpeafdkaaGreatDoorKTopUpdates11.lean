/- Texts of the claim TopUpdates (part 11), put together in the order of their imports. -/
import Derived.Test.YtoabojbpeafdkaaGreatDoorKTopUpdates2
import Derived.Test.YtoabojbpeafdkaaGreatDoorKTopUpdates4
import Derived.Test.YtoabojbpeafdkaaGreatDoorKTopUpdates5
import Derived.Test.YtoabojbpeafdkaaGreatDoorKTopUpdates9
import Derived.Test.YtoabojbpeafdkaaGreatDoorKTopUpdates10
set_option linter.all false
set_option maxRecDepth 100000
set_option maxHeartbeats 1000000
/- The walk of TopUpdates. -/
namespace Go.Proofs.YtoabojbpeafdkaaGreatDoor
open Go Go.Gam
namespace FxFTop
theorem en6 : Ent Tryz.prog 6 := ent Tryz.func6 (by kernel_rfl) (by kernel_rfl)
theorem en9 : Ent Tryz.prog 9 := ent Tryz.func9 (by kernel_rfl) (by kernel_rfl)
theorem en23 : Ent Tryz.prog 23 := ent Tryz.func23 (by kernel_rfl) (by kernel_rfl)
theorem en24 : Ent Tryz.prog 24 := ent Tryz.func24 (by kernel_rfl) (by kernel_rfl)
theorem en25 : Ent Tryz.prog 25 := ent Tryz.func25 (by kernel_rfl) (by kernel_rfl)
theorem ar67 : ArrOf Tryz.prog 67 2 := ar_of Tryz.underlying67 (by kernel_rfl)
theorem fa30_1 : FieldFact Tryz.prog 30 1 1 := ff_of (sz := 0) Tryz.underlying30 (by kernel_rfl)
theorem fa30_2 : FieldFact Tryz.prog 30 2 2 := ff_of (sz := 0) Tryz.underlying30 (by kernel_rfl)
theorem hmix : Tryz.prog.follows .mixedOrders = true := by kernel_rfl
theorem on5 : Gam.One Tryz.prog 5 := by unfold Gam.One; kernel_rfl
theorem sc23 : Scalar Tryz.prog 23 := ⟨_, Tryz.underlying23, by simp, by simp⟩
theorem sc3 : Scalar Tryz.prog 3 := ⟨_, Tryz.underlying3, by simp, by simp⟩
theorem sc5 : Scalar Tryz.prog 5 := ⟨_, Tryz.underlying5, by simp, by simp⟩
theorem sl23 : Sl Tryz.prog 23 5 (.int .u8 0) 1 := sl_of Tryz.underlying23 rfl (by kernel_rfl)
theorem sl48 : Sl Tryz.prog 48 23 (.slice none 0 0) 24 := sl_of Tryz.underlying48 rfl (by kernel_rfl)
end FxFTop
open FxFTop
def LivC (G6 G7 G8 : Option Obj) : Prop := ∀ w : World, w.heap[6]? = G6 ∧ w.heap[7]? = G7 ∧ w.heap[8]? = G8 → 9 ≤ w.heap.size → Ret Tryz.prog 6 [] w fun v w' => v = .bool true ∧ Go.RowKit.Below w.heap.size w w'
theorem glaid {B : Nat} {w w' : World} {G6 G7 G8 : Option Obj} (hS : St FDx B w w') (hI : B ≤ w.heap.size) (hB : 9 ≤ B) (hG : w.heap[6]? = G6 ∧ w.heap[7]? = G7 ∧ w.heap[8]? = G8) : w'.heap[6]? = G6 ∧ w'.heap[7]? = G7 ∧ w'.heap[8]? = G8 :=
 ⟨(hS.ext.keep 6 (by omega) (.inl (by omega))).trans hG.1, (hS.ext.keep 7 (by omega) (.inl (by omega))).trans hG.2.1, (hS.ext.keep 8 (by omega) (.inl (by omega))).trans hG.2.2⟩
theorem maxM_of (p : Nat) : Gam.maxM (p : Int) = ((maxN p : Nat) : Int) := by
 unfold Gam.maxM maxN
 by_cases h : p = 3
 · rw [if_pos h, if_pos (by omega)]; rfl
 rw [if_neg h, if_neg (by omega)]; rfl
theorem Top_ok (B M n0 n1 n2 a0 a1 : Nat) (PT : Nat → Nat → Nat → Mtx) (hPar : ParC PT) (hPT : PTok PT) (G6 G7 G8 : Option Obj) (hLiv : LivC G6 G7 G8) (px : Option Addr) (cx : Nat) (bs : List Nat) (w : World) (hI : Inv FDx B w) (hB : 9 ≤ B) (hG : w.heap[6]? = G6 ∧ w.heap[7]? = G7 ∧ w.heap[8]? = G8) (h0 : n0 < 256) (h1 : n1 < 256) (h2 : n2 < 256) (ha0 : a0 < 256) (ha1 : a1 < 256) (hx : Row FDx B M w (.slice px bs.length cx) (byt bs)) (hM : M ≤ w.heap.size) (hb8 : ∀ x ∈ bs, x < 256) (hlm : bs.length ≤ maxLen) : Ret Tryz.prog 5 [.agg #[.int .u8 (n0 : Int), .int .u8 (n1 : Int), .int .u8 (n2 : Int)], .slice px bs.length cx, .agg #[.int .u8 (a0 : Int), .int .u8 (a1 : Int)]] w fun v w' => v = .bool true ∧ Go.RowKit.Below B w w' := by
 refine enter 122 [(0, .agg #[.int .u8 (n0 : Int), .int .u8 (n1 : Int), .int .u8 (n2 : Int)]), (1, .slice px bs.length cx), (2, .agg #[.int .u8 (a0 : Int), .int .u8 (a1 : Int)])] 6 Tryz.func5 rfl rfl rfl rfl rfl ?_; intro a hF
 have hS := St.refl hI
 have hml : maxLen ≤ 9223372036854775807 := by decide
 obtain ⟨p, hpe⟩ : ∃ p, p = 1 + n0 % 6 := ⟨_, rfl⟩
 obtain ⟨k, hke⟩ : ∃ k, k = 1 + n1 % 8 := ⟨_, rfl⟩
 obtain ⟨m, hme⟩ : ∃ m, m = 1 + n2 % maxN p := ⟨_, rfl⟩
 have hp : 1 ≤ p ∧ p ≤ 6 := by omega
 have hk : 1 ≤ k ∧ k ≤ 8 := by omega
 have hmx : 3 ≤ maxN p ∧ maxN p ≤ 4 := by unfold maxN; split <;> omega
 have hm : 1 ≤ m ∧ m ≤ maxN p := by
  have := Nat.mod_lt n2 (show 0 < maxN p by omega)
  omega
 have hm3 : p = 3 → m ≤ 3 := fun e => by have h9 := hm.2; unfold maxN at h9; rw [if_pos e] at h9; exact h9
 obtain ⟨hPl, hPr⟩ := hPT p k m hp hk (by omega) hm3
 refine W_sr rfl fun K hK => ?_
 refine s_box (D := FDx) (B := B) hF rfl (by decide) hS.inv rfl ?_; clear hF a; intro w' a hm hb3 hsz hF
 replace hx := hx.mb hm (fun _ h => by cases h)
 replace hS := hS.mb0 hm
 clear hm
 obtain ⟨g5, hg5⟩ : ∃ g, g = w'.heap.size := ⟨_, rfl⟩
 refine s_box (D := FDx) (B := B) hF rfl (by decide) hS.inv rfl ?_; clear hF a; intro w' a hm hb5 hsz hF
 replace hx := hx.mb hm (fun _ h => by cases h)
 replace hb3 := hb3.mb hm (by simp)
 replace hS := hS.mb0 hm
 clear hm
 rw [← hg5] at hb5 hF
 refine svw hK hF (v_assign rfl) rfl ?_; clear hF a hK K; intro a hF
 replace hF := hF.sub _ (c_ 6 rfl (c_ 5 rfl (c_ 3 rfl (c_ 1 rfl n_))))
 refine W_seq ?_
 refine W_sr rfl fun K hK => ?_
 refine sv2 hF (v_move rfl) (v_lenS rfl sl23 rfl) rfl rfl ?_; clear hF a; intro a hF
 refine sb hF (v_gtr rfl rfl) rfl ?_ ?_
 ·
  clear hF a; intro hc1 a hF
  try simp only [dcl] at hc1
  refine sv hF (v_move rfl) rfl ?_; clear hF a; intro a hF
  refine svn3 hF rfl rfl rfl rfl rfl rfl rfl rfl rfl ?_; clear hF a; intro a hF
  refine svw hK hF (v_pickT rfl rfl) rfl ?_; clear hF a hK K; intro a hF
  replace hF := hF.sub _ (c_ 25 rfl (c_ 6 rfl (c_ 5 rfl (c_ 3 rfl (c_ 1 rfl n_)))))
  refine W_ifT hF rfl ?_
  refine W_sr rfl fun K hK => ?_
  refine sc hF rfl rfl rfl en6 rfl (hLiv _ (glaid hS hI.1 hB hG) (Nat.le_trans hB hS.inv.1)) ?_; clear hF a; intro v w' a hv hF
  obtain ⟨rfl, hBl⟩ := hv
  have hBe := (hS.ext.below hI.1).trans (hBl.mono hS.inv.1)
  clear hBl
  refine svw hK hF (v_assign rfl) rfl ?_; clear hF a hK K; intro a hF
  replace hF := hF.sub _ (c_ 6 rfl (c_ 5 rfl (c_ 3 rfl (c_ 1 rfl n_))))
  refine W_ret ?_
  refine ⟨_, _, hF, rfl, ?_⟩
  exact ⟨rfl, hBe⟩
 clear hF a; intro hc1 a hF
 try simp only [dcl] at hc1
 refine sv hF (v_move rfl) rfl ?_; clear hF a; intro a hF
 refine svg hF rfl ?_
 refine sv hF (v_move rfl) rfl ?_; clear hF a; intro a hF
 refine svg hF rfl ?_
 refine sv hF (v_lenS rfl sl23 rfl) rfl ?_; clear hF a; intro a hF
 refine svg hF rfl ?_
 refine sv2w hK hF (v_eql rfl rfl) (v_pickF rfl rfl) rfl rfl ?_; clear hF a hK K; intro a hF
 replace hF := hF.sub _ (c_ 25 rfl (c_ 6 rfl (c_ 5 rfl (c_ 3 rfl (c_ 1 rfl n_)))))
 refine W_if hF rfl (fun hc2 => ?_) (fun hc2 => ?_)
 ·
  skip
  try simp only [dcl] at hc2
  refine W_sr rfl fun K hK => ?_
  refine sc hF rfl rfl rfl en6 rfl (hLiv _ (glaid hS hI.1 hB hG) (Nat.le_trans hB hS.inv.1)) ?_; clear hF a; intro v w' a hv hF
  obtain ⟨rfl, hBl⟩ := hv
  have hBe := (hS.ext.below hI.1).trans (hBl.mono hS.inv.1)
  clear hBl
  refine svw hK hF (v_assign rfl) rfl ?_; clear hF a hK K; intro a hF
  replace hF := hF.sub _ (c_ 6 rfl (c_ 5 rfl (c_ 3 rfl (c_ 1 rfl n_))))
  refine W_ret ?_
  refine ⟨_, _, hF, rfl, ?_⟩
  exact ⟨rfl, hBe⟩
 skip
 try simp only [dcl] at hc2
 have hl1 : 1 ≤ bs.length := by omega
 have hl2 : bs.length ≤ 200 := by omega
 refine W_skip ?_
 refine W_sr rfl fun K hK => ?_
 refine sv hF (v_loadN Tryz.underlying32 rfl (by kernel_rfl) rfl hb3) rfl ?_; clear hF a; intro a hF
 refine sc hF rfl rfl rfl en9 rfl (Some_ok B n0 n1 n2 _ hS.inv h0 h1 h2) ?_; clear hF a; intro v w' a hv hF
 obtain ⟨rfl, hS'⟩ := hv
 replace hx := hx.st hS'
 replace hb3 := hb3.st (by decide) hS'
 replace hb5 := hb5.st (by decide) hS'
 replace hS := hS.trans hS'
 clear hS'
 rw [← hpe, ← hke, maxM_of, Int.toNat_natCast, ← hme] at hF
 have hs0 := hS.ext.size
 have t5 := heap_lt hb5
 refine s_allocN (D := FDx) (B := B) (z := .agg #[.int .i64 0, .int .i64 0, .int .i64 0]) hF (by kernel_rfl) (by decide) hS.inv rfl ?_; clear hF a; intro gR7 w' a hm hI' hR7 hF
 replace hx := hx.mb hm (fun _ h => by cases h)
 replace hb5 := hb5.mb hm (by simp)
 replace hS := hS.mb0 hm
 clear hm hI'
 have hgR7 := hR7.low
 replace hR7 := hR7.le hs0
 clear hs0
 refine s_storeN (D := FDx) (B := B) hF (by kernel_rfl) rfl rfl (rfl) (by rfl) hR7 hS.inv ?_; intro w' hm hI' hrc'
 replace hx := hx.mb hm (fun k h => by cases h; exact Nat.le_trans (hM) hR7.low)
 replace hb5 := hb5.mb hm (by simp; omega)
 replace hS := hS.mb hm (fun k h => by cases h; exact hR7.low)
 replace hR7 := hrc'
 clear hm hI' hrc'
 refine wn hK ?_
 clear hK K
 replace hF := hF.sub _ (c_ 7 rfl (c_ 6 rfl (c_ 5 rfl (c_ 1 rfl n_))))
 refine W_sr rfl fun K hK => ?_
 have hs4 := hS.ext.size
 refine s_bs (D := FDx) (B := B) hF sl23 rfl rfl (by decide) (by simp [Value.cells]) (by decide) hS.inv rfl ?_; clear hF a; intro w' a hm hI' hOd hF
 replace hx := hx.mb hm (fun _ h => by cases h)
 replace hb5 := hb5.mb hm (by simp)
 replace hR7 := hR7.mb hm (by simp)
 replace hS := hS.mb0 hm
 clear hm hI'
 replace hOd := hOd.le hs4
 refine sv hF (v_move rfl) rfl ?_; clear hF a; intro a hF
 refine s_app (D := FDx) (B := B) hF rfl sl23 rfl rfl hOd (hx) (by intro u hu; obtain ⟨_, _, rfl⟩ := List.mem_map.1 hu; rfl) (by simp; omega) (by simp [maxLen]; omega) (hS.ext.size) (by decide) hS.inv rfl ?_; clear hF a; intro v' b' w' a ho' hm hI' hb' hF
 replace hx := hx.mb hm (fun k h => Nat.le_trans (hM) (hOd.lt k h).1)
 replace hb5 := hb5.mb hm (Blk.ne_own hb5 hOd (by decide))
 replace hR7 := hR7.mb hm (hR7.ne_own hOd (by decide))
 replace hS := hS.mb hm (fun k h => Nat.le_trans (Nat.le_refl _) (hOd.lt k h).1)
 replace hOd := ho'
 clear hm hI' ho'
 replace hOd := hOd.cast (List.nil_append _)
 obtain ⟨god, cod, rfl, rfl⟩ := hOd.ptr (by simp; omega)
 rw [byt_length] at hOd hF
 refine svw hK hF (v_assign rfl) rfl ?_; clear hF a hK K; intro a hF
 replace hF := hF.sub _ (c_ 8 rfl (c_ 7 rfl (c_ 6 rfl (c_ 5 rfl (c_ 1 rfl n_)))))
 refine W_sr rfl fun K hK => ?_
 refine sv5 hF (v_ixA ar67 rfl rfl (by omega) (by omega)) (v_load sc5 rfl (hb5.at 0 rfl)) (v_cv Tryz.underlying5 Tryz.underlying3 rfl (wrap_i64 _ (by omega))) (v_move rfl) (v_lenS rfl sl23 rfl) rfl rfl rfl rfl rfl ?_; clear hF a; intro a hF
 refine sv hF ((v_remI rfl rfl (by omega) (by omega)).as (show Value.int .i64 ((a0 : Int) % (bs.length : Int)) = .int .i64 ((a0 % bs.length : Nat) : Int) by simp)) rfl ?_; clear hF a; intro a hF
 refine sv hF (v_assign rfl) rfl ?_; clear hF a; intro a hF
 obtain ⟨i, hie⟩ : ∃ i, i = a0 % bs.length := ⟨_, rfl⟩
 rw [← hie] at hF
 have hil : i < bs.length := by rw [hie]; exact Nat.mod_lt _ (by omega)
 obtain ⟨c, hc⟩ : ∃ c, bs[i]? = some c := ⟨_, List.getElem?_eq_getElem hil⟩
 have hc8 := hb8 c (List.mem_of_getElem? hc)
 obtain ⟨od, hod⟩ : ∃ l, l = bs.set i (c ^^^ a1) := ⟨_, rfl⟩
 have hodl : od.length = bs.length := by rw [hod]; simp
 have hod8 : ∀ x ∈ od, x < 256 := fun x hx9 => by rw [hod] at hx9; rcases List.mem_or_eq_of_mem_set hx9 with h9 | h9; exact hb8 x h9; rw [h9]; exact Px.xor_lt (k := 8) hc8 ha1
 refine wn hK ?_
 clear hK K
 replace hF := hF.sub _ (c_ 9 rfl (c_ 8 rfl (c_ 7 rfl (c_ 6 rfl (c_ 5 rfl (c_ 1 rfl n_))))))
 refine W_seq ?_
 refine W_dS (fun w2 => w2.cell? ⟨g5, 1, none⟩ = some (.int .u8 (a1 : Int))) (m := 11) rfl hmix (fun K hK => ?_)
 have hS' := St.drew hS.inv
 replace hx := hx.st hS'
 replace hb5 := hb5.st (by decide) hS'
 replace hR7 := hR7.st hS'
 replace hOd := hOd.st (by decide) hS'
 replace hS := hS.trans hS'
 clear hS'
 have hSS : World.cell? _ ⟨g5, 1, none⟩ = some (.int .u8 (a1 : Int)) := hb5.at 1 rfl
 refine b_v (i := 0) rfl (by kernel_rfl) hF (fun w2 hx => v_move rfl) rfl hSS ?_; clear hF a; intro a hF
 refine b_v (i := 1) rfl (by kernel_rfl) hF (fun w2 hx => v_move rfl) rfl hSS ?_; clear hF a; intro a hF
 refine b_v (i := 2) rfl (by kernel_rfl) hF (fun w2 hx => v_move rfl) rfl hSS ?_; clear hF a; intro a hF
 refine b_v (i := 3) rfl (by kernel_rfl) hF (fun w2 hx => v_move rfl) rfl hSS ?_; clear hF a; intro a hF
 refine b_v (i := 4) rfl (by kernel_rfl) hF (fun w2 hx => v_ixS sl23 rfl rfl (by omega) (by omega)) rfl hSS ?_; clear hF a; intro a hF
 refine b_v (i := 6) rfl (by kernel_rfl) hF (fun w2 hx => v_ixA ar67 rfl rfl (by omega) (by omega)) rfl hSS ?_; clear hF a; intro a hF
 refine b_v (i := 7) rfl (by kernel_rfl) hF (fun w2 hx => v_load sc5 rfl hx) rfl hSS ?_; clear hF a; intro a hF
 refine b_e (i := 5) (by kernel_rfl) rfl ?_
 refine sv hF (v_load sc5 rfl (by rw [toNat_c]; exact (hOd.kc (by decide) (byt_at hc)).c)) rfl ?_; clear hF a; intro a hF
 refine WL_nil ⟨hSS, ?_⟩
 refine b_v (i := 8) rfl (by kernel_rfl) hF (fun w2 hx => v_xorN (m := c) (n := a1) rfl rfl (fits_u8 hc8) (fits_u8 ha1)) rfl hSS ?_; clear hF a; intro a hF
 refine b_v (i := 9) rfl (by kernel_rfl) hF (fun w2 hx => v_ixS sl23 rfl rfl (by omega) (by omega)) rfl hSS ?_; clear hF a; intro a hF
 refine b_e (i := 10) (by kernel_rfl) rfl ?_
 refine s_set (D := FDx) (B := B) hF on5 rfl (by rw [toNat_c]; simp; omega) rfl rfl hOd (by decide) hS.inv ?_; intro w' hm hI' ho'
 replace hx := hx.mb hm (fun k h => Nat.le_trans (hM) (hOd.lt k h).1)
 replace hb5 := hb5.mb hm (Blk.ne_own hb5 hOd (by decide))
 replace hR7 := hR7.mb hm (hR7.ne_own hOd (by decide))
 replace hS := hS.mb hm (fun k h => Nat.le_trans (Nat.le_refl _) (hOd.lt k h).1)
 replace hOd := ho'
 clear hm hI' ho'
 rw [toNat_c, Nat.zero_add, byt_set, ← hod] at hOd
 clear hSS
 have hSS : World.cell? _ ⟨g5, 1, none⟩ = some (.int .u8 (a1 : Int)) := hb5.at 1 rfl
 refine WL_nil ⟨hSS, ?_⟩
 refine b_done (by kernel_rfl) (hK _ _ ?_)
 clear hK K
 replace hF := hF.sub _ (c_ 8 rfl (c_ 7 rfl (c_ 6 rfl (c_ 1 rfl n_))))
 refine W_sr rfl fun K hK => ?_
 refine sv hF (v_loadN Tryz.underlying30 rfl (by kernel_rfl) rfl hR7.blk) rfl ?_; clear hF a; intro a hF
 refine sv hF (v_move rfl) rfl ?_; clear hF a; intro a hF
 refine sc hF rfl rfl rfl en23 rfl (Enc_ok B M p k m PT hPar px cx bs _ hS.inv hB hp hk hm hx (Nat.le_trans hM hS.ext.size) (by omega) (data_dat hb8).byte (data_len _ _ _) (fun s hs => by rw [(data_dat hb8).len s hs]; have := (size_bd (p := p) (n := bs.length) hk (by omega)).2.1; omega) hPl (fun r hr => let ⟨y, h, _⟩ := enc_dot hPr hk.1 hb8 r hr; ⟨y, h⟩)) ?_; clear hF a; intro v w' a hv hF
 obtain ⟨sl, ob1, v1, rfl, hE1, hQ1, hS'⟩ := hv
 replace hE1 := hE1.le hS.ext.size
 replace hQ1 := hQ1.le hS.ext.size
 have hvl1 := hQ1.1
 rw [enc_len hPl] at hvl1
 obtain ⟨go1, co1, rfl, rfl⟩ := hE1.ptr (by omega)
 replace hR7 := hR7.st hS'
 replace hOd := hOd.st (by decide) hS'
 replace hS := hS.trans hS'
 clear hS'
 refine sv5w hK hF (v_move rfl) (v_ext rfl rfl) (v_ext rfl rfl) (v_assign rfl) (v_assign rfl) rfl rfl rfl rfl rfl ?_; clear hF a hK K; intro a hF
 replace hF := hF.sub _ (c_ 11 rfl (c_ 10 rfl (c_ 8 rfl (c_ 7 rfl (c_ 6 rfl n_)))))
 rw [← hodl] at hF hOd
 refine W_sr rfl fun K hK => ?_
 refine sv hF (v_loadN Tryz.underlying30 rfl (by kernel_rfl) rfl hR7.blk) rfl ?_; clear hF a; intro a hF
 refine sv hF (v_move rfl) rfl ?_; clear hF a; intro a hF
 refine sc hF rfl rfl rfl en23 rfl (Enc_ok B _ p k m PT hPar (some ⟨god, 0, none⟩) cod od _ hS.inv hB hp hk hm (by have h := hOd.row (by decide); exact h) (Nat.le_refl _) (by omega) (data_dat hod8).byte (data_len _ _ _) (fun s hs => by rw [(data_dat hod8).len s hs]; have := (size_bd (p := p) (n := od.length) hk (by omega)).2.1; omega) hPl (fun r hr => let ⟨y, h, _⟩ := enc_dot hPr hk.1 hod8 r hr; ⟨y, h⟩)) ?_; clear hF a; intro v w' a hv hF
 obtain ⟨sl, ob2, v2, rfl, hE2, hQ2, hS'⟩ := hv
 replace hE2 := hE2.le hS.ext.size
 replace hQ2 := hQ2.le hS.ext.size
 have hvl2 := hQ2.1
 rw [enc_len hPl] at hvl2
 obtain ⟨go2, co2, rfl, rfl⟩ := hE2.ptr (by omega)
 replace hR7 := hR7.st hS'
 replace hOd := hOd.st (by decide) hS'
 replace hE1 := hE1.st (by decide) hS'
 replace hQ1 := hQ1.st (by decide) hS'
 replace hS := hS.trans hS'
 clear hS'
 refine sv5w hK hF (v_move rfl) (v_ext rfl rfl) (v_ext rfl rfl) (v_assign rfl) (v_assign rfl) rfl rfl rfl rfl rfl ?_; clear hF a hK K; intro a hF
 replace hF := hF.sub _ (c_ 13 rfl (c_ 12 rfl (c_ 11 rfl (c_ 10 rfl (c_ 7 rfl (c_ 6 rfl n_))))))
 refine W_seq ?_
 refine W_sr rfl fun K hK => ?_
 refine sv3 hF (v_move rfl) ((v_neq rfl rfl).as (congrArg Value.bool (decide_eq_false (fun h => h rfl)))) (v_move rfl) rfl rfl rfl ?_; clear hF a; intro a hF
 refine svg hF rfl ?_
 refine sv hF (v_move rfl) rfl ?_; clear hF a; intro a hF
 refine svg hF rfl ?_
 refine sv3 hF ((v_neq rfl rfl).as (congrArg Value.bool (decide_eq_false (fun h => h rfl)))) (v_pickF rfl rfl) (v_move rfl) rfl rfl rfl ?_; clear hF a; intro a hF
 refine svg hF rfl ?_
 refine sv hF (v_move rfl) rfl ?_; clear hF a; intro a hF
 refine svg hF rfl ?_
 refine sv hF (v_lenS rfl sl48 rfl) rfl ?_; clear hF a; intro a hF
 refine svg hF rfl ?_
 refine sv hF (v_fieldAddr fa30_1 rfl) rfl ?_; clear hF a; intro a hF
 refine svg hF rfl ?_
 refine sv hF (v_load sc3 rfl (hR7.blk.at 1 rfl)) rfl ?_; clear hF a; intro a hF
 refine svg hF rfl ?_
 refine sv hF (v_fieldAddr fa30_2 rfl) rfl ?_; clear hF a; intro a hF
 refine svg hF rfl ?_
 refine sv hF (v_load sc3 rfl (hR7.blk.at 2 rfl)) rfl ?_; clear hF a; intro a hF
 refine svg hF rfl ?_
 refine sv hF (v_addI rfl rfl (by omega)) rfl ?_; clear hF a; intro a hF
 refine svg hF rfl ?_
 refine sv3 hF ((v_neq rfl rfl).as (congrArg Value.bool (decide_eq_false (by omega)))) (v_pickF rfl rfl) (v_move rfl) rfl rfl rfl ?_; clear hF a; intro a hF
 refine svg hF rfl ?_
 refine sv hF (v_move rfl) rfl ?_; clear hF a; intro a hF
 refine svg hF rfl ?_
 refine sv hF (v_lenS rfl sl48 rfl) rfl ?_; clear hF a; intro a hF
 refine svg hF rfl ?_
 refine sv hF (v_move rfl) rfl ?_; clear hF a; intro a hF
 refine svg hF rfl ?_
 refine sv hF (v_lenS rfl sl48 rfl) rfl ?_; clear hF a; intro a hF
 refine svg hF rfl ?_
 refine sv2w hK hF ((v_neq rfl rfl).as (congrArg Value.bool (decide_eq_false (by omega)))) (v_pickF rfl rfl) rfl rfl ?_; clear hF a hK K; intro a hF
 replace hF := hF.sub _ (c_ 82 rfl (c_ 12 rfl (c_ 10 rfl (c_ 7 rfl (c_ 6 rfl n_)))))
 refine W_ifF hF rfl ?_
 refine W_skip ?_
 obtain ⟨q0, hq0⟩ := data_one p k bs i (c ^^^ a1)
 rw [← hod] at hq0
 have hlo : ∀ j, j < k → j ≠ q0 → (encL PT p k m bs)[j]? = (encL PT p k m od)[j]? := fun j hj hne => by rw [enc_lo hj, enc_lo hj]; exact hq0 j hj hne
 refine W_sr rfl fun K hK => ?_
 refine svw hK hF (v_assign rfl) rfl ?_; clear hF a hK K; intro a hF
 replace hF := hF.sub _ (c_ 14 rfl (c_ 12 rfl (c_ 10 rfl (c_ 7 rfl (c_ 6 rfl n_)))))
 refine W_seq ?_
 refine W_sr rfl fun K hK => ?_
 refine svw hK hF (v_assign rfl) rfl ?_; clear hF a hK K; intro a hF
 refine W_block ?_
 refine W_loop (fun q a w1 => ∃ (j kk : Nat), Fr 122 [(7, .pointer (some ⟨gR7, 0, none⟩)), (10, .slice (some ⟨go1, 0, none⟩) v1.length co1), (12, .slice (some ⟨go2, 0, none⟩) v2.length co2), (14, .int .i64 (kk : Int)), (15, .int .i64 (j : Int))] a ∧ (St FDx B w w1) ∧ (RecB FDx B w.heap.size w1 gR7 30 [.int .i64 (p : Int), .int .i64 (k : Int), .int .i64 (m : Int)]) ∧ (Gam.Own FDx B w.heap.size w1 23 (.slice (some ⟨go1, 0, none⟩) v1.length co1) (some go1) v1) ∧ (Owns2 FDx B w.heap.size w1 5 v1 (encL PT p k m bs)) ∧ (Gam.Own FDx B w.heap.size w1 23 (.slice (some ⟨go2, 0, none⟩) v2.length co2) (some go2) v2) ∧ (Owns2 FDx B w.heap.size w1 5 v2 (encL PT p k m od)) ∧ (kk < k) ∧ (∀ j1, j1 < j → j1 ≠ kk → (encL PT p k m bs)[j1]? = (encL PT p k m od)[j1]?) ∧ (j ≤ k) ∧ (q + j = k)) (k) ?_ ?_
 · skip
   exact ⟨0, 0, hF.sub _ (c_ 7 rfl (c_ 10 rfl (c_ 12 rfl (c_ 14 rfl (c_ 15 rfl n_))))), hS, hR7, hE1, hQ1, hE2, hQ2, by omega, fun j1 h9 => by omega, by omega, by omega⟩
 skip
 clear hF
 clear hS hR7 hE1 hQ1 hE2 hQ2
 rintro q a w1 ⟨j, kk, hF, hS, hR7, hE1, hQ1, hE2, hQ2, hkk, heq, hj, hq⟩
 refine W_seq ?_
 refine W_sr rfl fun K hK => ?_
 refine sv4w hK hF (v_move rfl) (v_fieldAddr fa30_1 rfl) (v_load sc3 rfl (hR7.blk.at 1 rfl)) (v_lss rfl rfl) rfl rfl rfl rfl ?_; clear hF a hK K; intro a hF
 replace hF := hF.sub _ (c_ 86 rfl (c_ 7 rfl (c_ 10 rfl (c_ 12 rfl (c_ 14 rfl (c_ 15 rfl n_))))))
 refine W_if hF rfl (fun hc3 => ?_) (fun hc3 => ?_)
 ·
  skip
  try simp only [dcl] at hc3
  have hlt : j < k := by omega
  obtain ⟨u, hu⟩ : ∃ z, (encL PT p k m bs)[j]? = some z := ⟨_, List.getElem?_eq_getElem (by rw [enc_len hPl]; omega)⟩
  obtain ⟨u2, hu2⟩ : ∃ z, (encL PT p k m od)[j]? = some z := ⟨_, List.getElem?_eq_getElem (by rw [enc_len hPl]; omega)⟩
  refine W_skip ?_
  refine W_seq ?_
  refine W_block ?_
  refine W_sd (m := 11) rfl hmix hS.inv (fun K hK w1 hS' hh => ?_)
  replace hR7 := hR7.st hS'
  replace hE1 := hE1.st (by decide) hS'
  replace hQ1 := hQ1.st (by decide) hS'
  replace hE2 := hE2.st (by decide) hS'
  replace hQ2 := hQ2.st (by decide) hS'
  replace hS := hS.trans hS'
  clear hS'
  clear hh
  refine a_v (i := 0) rfl (by kernel_rfl) hF (fun w2 hx => v_move rfl) rfl ?_; clear hF a; intro a hF
  refine a_v (i := 1) rfl (by kernel_rfl) hF (fun w2 hx => v_move rfl) rfl ?_; clear hF a; intro a hF
  obtain ⟨g1, o1, p1, c1, hg1, hk1, hr1, -, -⟩ := (hQ1.rows (by decide)).get (hE1.row (by decide)) hu
  obtain ⟨g2, o2, p2, c2, hg2, hk2, hr2, -, -⟩ := (hQ2.rows (by decide)).get (hE2.row (by decide)) hu2
  cases hg1
  cases hg2
  refine a_v (i := 2) rfl (by kernel_rfl) hF (fun w2 hx => v_ixS sl48 rfl rfl (by omega) (by omega)) rfl ?_; clear hF a; intro a hF
  refine a_v (i := 3) rfl (by kernel_rfl) hF (fun w2 hx => v_load sc23 rfl (by rw [toNat_c]; exact hk1.ld hx)) rfl ?_; clear hF a; intro a hF
  refine a_v (i := 4) rfl (by kernel_rfl) hF (fun w2 hx => v_bstr Tryz.underlying23 Tryz.underlying5 Tryz.underlying9 rfl (hr1.ext hx)) rfl ?_; clear hF a; intro a hF
  refine a_v (i := 5) rfl (by kernel_rfl) hF (fun w2 hx => v_move rfl) rfl ?_; clear hF a; intro a hF
  refine a_v (i := 6) rfl (by kernel_rfl) hF (fun w2 hx => v_move rfl) rfl ?_; clear hF a; intro a hF
  refine a_v (i := 7) rfl (by kernel_rfl) hF (fun w2 hx => v_ixS sl48 rfl rfl (by omega) (by omega)) rfl ?_; clear hF a; intro a hF
  refine a_v (i := 8) rfl (by kernel_rfl) hF (fun w2 hx => v_load sc23 rfl (by rw [toNat_c]; exact hk2.ld hx)) rfl ?_; clear hF a; intro a hF
  refine a_v (i := 9) rfl (by kernel_rfl) hF (fun w2 hx => v_bstr Tryz.underlying23 Tryz.underlying5 Tryz.underlying9 rfl (hr2.ext hx)) rfl ?_; clear hF a; intro a hF
  refine a_v (i := 10) rfl (by kernel_rfl) hF (fun w2 hx => (v_neqS rfl rfl).as (show Value.bool (!(bstr u == bstr u2)) = .bool (!decide (u = u2)) by rw [bstr_eq (enc_rows hPr hk.1 hb8 u (List.mem_of_getElem? hu)).2 (enc_rows hPr hk.1 hod8 u2 (List.mem_of_getElem? hu2)).2])) rfl ?_; clear hF a; intro a hF
  refine a_done (by kernel_rfl) (hK _ _ ?_)
  clear hK K
  replace hF := hF.sub _ (c_ 99 rfl (c_ 7 rfl (c_ 10 rfl (c_ 12 rfl (c_ 14 rfl (c_ 15 rfl n_))))))
  refine W_if hF rfl (fun hc4 => ?_) (fun hc4 => ?_)
  ·
   skip
   try simp only [dcl] at hc4
   have hne : u ≠ u2 := by simpa using hc4
   have hjq : j = q0 := Classical.byContradiction fun e => hne (Option.some.inj (by rw [← hu, ← hu2]; exact hlo j hlt e))
   replace hkk : j < k := hlt
   replace heq : ∀ j1, j1 < j + 1 → j1 ≠ j → (encL PT p k m bs)[j1]? = (encL PT p k m od)[j1]? := fun j1 h8 h9 => hlo j1 (by omega) (by omega)
   refine W_reg rfl fun K hK => ?_
   refine sv2w hK hF (v_move rfl) (v_assign rfl) rfl rfl ?_; clear hF a hK K; intro a hF
   replace hF := hF.sub _ (c_ 14 rfl (c_ 7 rfl (c_ 10 rfl (c_ 12 rfl (c_ 15 rfl n_)))))
   refine W_reg rfl fun K hK => ?_
   refine sv3w hK hF (v_move rfl) (v_addI rfl rfl (by omega)) (v_assign rfl) rfl rfl rfl ?_; clear hF a hK K; intro a hF
   exact ⟨q - 1, by omega, j + 1, _, hF.sub _ (c_ 7 rfl (c_ 10 rfl (c_ 12 rfl (c_ 14 rfl (c_ 15 rfl n_))))), hS, hR7, hE1, hQ1, hE2, hQ2, hkk, heq, by omega, by omega⟩
  skip
  try simp only [dcl] at hc4
  have hue : u = u2 := by simpa using hc4
  replace heq : ∀ j1, j1 < j + 1 → j1 ≠ kk → (encL PT p k m bs)[j1]? = (encL PT p k m od)[j1]? := fun j1 h8 h9 => by
   by_cases e : j1 = j
   · rw [e, hu, hu2, hue]
   exact heq j1 (by omega) h9
  refine W_skip ?_
  refine W_reg rfl fun K hK => ?_
  refine sv3w hK hF (v_move rfl) (v_addI rfl rfl (by omega)) (v_assign rfl) rfl rfl rfl ?_; clear hF a hK K; intro a hF
  replace hF := hF.sub _ (c_ 15 rfl (c_ 88 rfl (c_ 87 rfl (c_ 7 rfl (c_ 10 rfl (c_ 12 rfl (c_ 14 rfl n_)))))))
  exact ⟨q - 1, by omega, j + 1, _, hF.sub _ (c_ 7 rfl (c_ 10 rfl (c_ 12 rfl (c_ 14 rfl (c_ 15 rfl n_))))), hS, hR7, hE1, hQ1, hE2, hQ2, hkk, heq, by omega, by omega⟩
 skip
 try simp only [dcl] at hc3
 obtain rfl : k = j := by omega
 obtain ⟨y, hy⟩ : ∃ z, (encL PT p k m od)[kk]? = some z := ⟨_, List.getElem?_eq_getElem (by rw [enc_len hPl]; omega)⟩
 have hyr := enc_rows hPr hk.1 hod8 y (List.mem_of_getElem? hy)
 have hszb := (size_bd (p := p) (n := od.length) hk (by omega)).2.1
 have htop := top_eq hPl hPr hodl hb8 hod8 hkk hy heq
 refine W_exit rfl ?_
 refine W_sd (m := 13) rfl hmix hS.inv (fun K hK w1 hS' hh => ?_)
 replace hR7 := hR7.st hS'
 replace hE1 := hE1.st (by decide) hS'
 replace hQ1 := hQ1.st (by decide) hS'
 replace hE2 := hE2.st (by decide) hS'
 replace hQ2 := hQ2.st (by decide) hS'
 replace hS := hS.trans hS'
 clear hS'
 clear hh
 refine a_v (i := 0) rfl (by kernel_rfl) hF (fun w2 hx => v_loadN Tryz.underlying30 rfl (by kernel_rfl) rfl (hR7.blk.ext (by decide) hx)) rfl ?_; clear hF a; intro a hF
 refine a_v (i := 1) rfl (by kernel_rfl) hF (fun w2 hx => v_move rfl) rfl ?_; clear hF a; intro a hF
 refine a_v (i := 2) rfl (by kernel_rfl) hF (fun w2 hx => v_move rfl) rfl ?_; clear hF a; intro a hF
 refine a_v (i := 3) rfl (by kernel_rfl) hF (fun w2 hx => v_move rfl) rfl ?_; clear hF a; intro a hF
 refine a_v (i := 4) rfl (by kernel_rfl) hF (fun w2 hx => v_move rfl) rfl ?_; clear hF a; intro a hF
 obtain ⟨g2, o2, pn, cn, hg2, hk2, hr2, -, -⟩ := (hQ2.rows (by decide)).get (hE2.row (by decide)) hy
 cases hg2
 refine a_v (i := 5) rfl (by kernel_rfl) hF (fun w2 hx => v_ixS sl48 rfl rfl (by omega) (by omega)) rfl ?_; clear hF a; intro a hF
 refine a_v (i := 6) rfl (by kernel_rfl) hF (fun w2 hx => v_load sc23 rfl (by rw [toNat_c]; exact hk2.ld hx)) rfl ?_; clear hF a; intro a hF
 refine a_e (i := 7) rfl (by kernel_rfl) ?_
 refine sc hF rfl rfl rfl en24 rfl (Upd_ok B _ p k m kk PT hPar _ pn co1 cn v1 (encL PT p k m bs) y _ hS.inv hB hp hk hm (hE1.row (by decide)) (hQ1.rows (by decide)) (Nat.le_refl _) (fun s hs => (enc_rows hPr hk.1 hb8 s hs).2) hr2 hyr.2 (by omega) (fun s hs => by rw [(enc_rows hPr hk.1 hb8 s hs).1, hyr.1, hodl]) (enc_len hPl bs) hkk (fun e => by have h9 := size_even p k od.length; rw [← hyr.1] at h9; rw [e] at h9; exact h9) hPl (fun r hr => (hPr r hr).1)) ?_; clear hF a; intro v w' a hv hF
 clear hk2 hr2
 obtain ⟨sl, ob3, v3, rfl, hE3, hQ3, hS'⟩ := hv
 rw [htop] at hQ3
 obtain ⟨a3, c3, rfl⟩ := hE3.shape
 refine WL_nil ⟨hS'.ext, ?_⟩
 replace hR7 := hR7.st hS'
 replace hE1 := hE1.st (by decide) hS'
 replace hQ1 := hQ1.st (by decide) hS'
 replace hE2 := hE2.st (by decide) hS'
 replace hQ2 := hQ2.st (by decide) hS'
 replace hS := hS.trans hS'
 clear hS'
 refine a_v (i := 8) rfl (by kernel_rfl) hF (fun w2 hx => v_move rfl) rfl ?_; clear hF a; intro a hF
 refine a_v (i := 9) rfl (by kernel_rfl) hF (fun w2 hx => v_ext rfl rfl) rfl ?_; clear hF a; intro a hF
 refine a_v (i := 10) rfl (by kernel_rfl) hF (fun w2 hx => v_ext rfl rfl) rfl ?_; clear hF a; intro a hF
 refine a_v (i := 11) rfl (by kernel_rfl) hF (fun w2 hx => v_assign rfl) rfl ?_; clear hF a; intro a hF
 refine a_v (i := 12) rfl (by kernel_rfl) hF (fun w2 hx => v_assign rfl) rfl ?_; clear hF a; intro a hF
 refine a_done (by kernel_rfl) (hK _ _ ?_)
 clear hK K
 replace hF := hF.sub _ (c_ 17 rfl (c_ 16 rfl (c_ 111 rfl (c_ 110 rfl (c_ 101 rfl (c_ 109 rfl (c_ 108 rfl (c_ 107 rfl (c_ 106 rfl (c_ 105 rfl (c_ 104 rfl (c_ 103 rfl (c_ 102 rfl (c_ 7 rfl (c_ 10 rfl (c_ 12 rfl (c_ 14 rfl (c_ 15 rfl n_))))))))))))))))))
 refine W_sr rfl fun K hK => ?_
 refine sv3 hF (v_move rfl) ((v_eql rfl rfl).as (congrArg Value.bool (decide_eq_true (rfl)))) (v_move rfl) rfl rfl rfl ?_; clear hF a; intro a hF
 refine svg hF rfl ?_
 refine sv hF (v_move rfl) rfl ?_; clear hF a; intro a hF
 refine svg hF rfl ?_
 refine sv hF (v_move rfl) rfl ?_; clear hF a; intro a hF
 refine svg hF rfl ?_
 refine sc hF rfl rfl rfl en25 rfl (LSame_ok B _ a3 (some ⟨go2, 0, none⟩) c3 co2 v3 v2 (encL PT p k m od) (encL PT p k m od) _ hS.inv (hE3.row (by decide)) (hQ3.rows (by decide)) (hE2.row (by decide)) (hQ2.rows (by decide)) (fun s hs => (enc_rows hPr hk.1 hod8 s hs).2) (fun s hs => (enc_rows hPr hk.1 hod8 s hs).2) (by rw [enc_len hPl]; omega) rfl) ?_; clear hF a; intro v w' a hv hF
 obtain ⟨hv9, hS'⟩ := hv
 rw [decide_eq_true rfl] at hv9
 subst hv9
 replace hR7 := hR7.st hS'
 replace hE1 := hE1.st (by decide) hS'
 replace hQ1 := hQ1.st (by decide) hS'
 replace hE2 := hE2.st (by decide) hS'
 replace hQ2 := hQ2.st (by decide) hS'
 replace hE3 := hE3.st (by decide) hS'
 replace hQ3 := hQ3.st (by decide) hS'
 replace hS := hS.trans hS'
 clear hS'
 refine sv2 hF (v_pickT rfl rfl) (v_move rfl) rfl rfl ?_; clear hF a; intro a hF
 refine svg hF rfl ?_
 refine sc hF rfl rfl rfl en6 rfl (hLiv _ (glaid hS hI.1 hB hG) (Nat.le_trans hB hS.inv.1)) ?_; clear hF a; intro v w' a hv hF
 obtain ⟨rfl, hBl⟩ := hv
 have hBe := (hS.ext.below hI.1).trans (hBl.mono hS.inv.1)
 clear hBl
 refine sv2w hK hF (v_pickT rfl rfl) (v_assign rfl) rfl rfl ?_; clear hF a hK K; intro a hF
 refine W_ret ?_
 refine ⟨_, _, hF, rfl, ?_⟩
 exact ⟨rfl, hBe⟩
end Go.Proofs.YtoabojbpeafdkaaGreatDoor
/- The walks of package matrix: whether rows are a matrix; rows copied; the identity. -/
namespace Go.Proofs.YtoabojbpeafdkaaGreatDoor
open Go Go.Gam
namespace FxFMatA
theorem en194 : Ent Tryz.prog 194 := ent Tryz.func194 (by kernel_rfl) (by kernel_rfl)
theorem en216 : Ent Tryz.prog 216 := ent Tryz.func216 (by kernel_rfl) (by kernel_rfl)
theorem en262 : Ent Tryz.prog 262 := ent Tryz.func262 (by kernel_rfl) (by kernel_rfl)
theorem en264 : Ent Tryz.prog 264 := ent Tryz.func264 (by kernel_rfl) (by kernel_rfl)
theorem en268 : Ent Tryz.prog 268 := ent Tryz.func268 (by kernel_rfl) (by kernel_rfl)
theorem en316 : Ent Tryz.prog 316 := ent Tryz.func316 (by kernel_rfl) (by kernel_rfl)
theorem sc134 : Scalar Tryz.prog 134 := ⟨_, Tryz.underlying134, by simp, by simp⟩
theorem sc138 : Scalar Tryz.prog 138 := ⟨_, Tryz.underlying138, by simp, by simp⟩
theorem sc3 : Scalar Tryz.prog 3 := ⟨_, Tryz.underlying3, by simp, by simp⟩
theorem sc49 : Scalar Tryz.prog 49 := ⟨_, Tryz.underlying49, by simp, by simp⟩
theorem sl134 : Sl Tryz.prog 134 49 (.slice none 0 0) 24 := sl_of Tryz.underlying134 rfl (by kernel_rfl)
theorem sl49 : Sl Tryz.prog 49 3 (.int .i64 0) 8 := sl_of Tryz.underlying49 rfl (by kernel_rfl)
end FxFMatA
open FxFMatA
theorem within_ok (n : Int) (w : World) : Ret Tryz.prog 194 [.int .i64 n] w fun v w' => v = .bool (decide (1 ≤ n ∧ n ≤ 20)) ∧ w' = w := by
 refine enter 9 [(0, .int .i64 n)] 2 Tryz.func194 rfl rfl rfl rfl rfl ?_; intro a hF
 refine W_sr rfl fun K hK => ?_
 refine svw hK hF (v_assign rfl) rfl ?_; clear hF a hK K; intro a hF
 refine W_sr rfl fun K hK => ?_
 refine sv hF (v_move rfl) rfl ?_; clear hF a; intro a hF
 refine sb hF (v_geq rfl rfl) rfl ?_ ?_
 ·
  clear hF a; intro hc1 a hF
  try simp only [dcl] at hc1
  refine sv hF (v_move rfl) rfl ?_; clear hF a; intro a hF
  refine svg hF rfl ?_
  refine sv hF (v_move rfl) rfl ?_; clear hF a; intro a hF
  refine svg hF rfl ?_
  refine sv3w hK hF (v_leq rfl rfl) (v_pickT rfl rfl) (v_assign rfl) rfl rfl rfl ?_; clear hF a hK K; intro a hF
  replace hF := hF.sub _ (c_ 2 rfl n_)
  refine W_ret ?_
  refine ⟨_, _, hF, rfl, ?_⟩
  exact ⟨by congr 1; first | (rw [decide_eq_decide]; omega) | (symm; rw [decide_eq_false_iff_not]; omega) | (symm; rw [decide_eq_true_iff]; omega), rfl⟩
 clear hF a; intro hc1 a hF
 try simp only [dcl] at hc1
 refine sv hF (v_move rfl) rfl ?_; clear hF a; intro a hF
 refine svn2 hF rfl rfl rfl rfl rfl rfl ?_; clear hF a; intro a hF
 refine sv2w hK hF (v_pickF rfl rfl) (v_assign rfl) rfl rfl ?_; clear hF a hK K; intro a hF
 replace hF := hF.sub _ (c_ 2 rfl n_)
 refine W_ret ?_
 refine ⟨_, _, hF, rfl, ?_⟩
 exact ⟨by congr 1; first | (rw [decide_eq_decide]; omega) | (symm; rw [decide_eq_false_iff_not]; omega) | (symm; rw [decide_eq_true_iff]; omega), rfl⟩
theorem May11_ok (B : Nat) (o : Fq) (fv : Value) (pf : Nat) (x : Int) (w : World) (hI : Inv FDx B w) (hf : Fo FDx B w fv o) (hk : KC FDx B w ⟨pf, 0, none⟩ fv) : Ret Tryz.prog 265 [.int .i64 x, .pointer (some ⟨pf, 0, none⟩)] w fun v w' => v = .bool (!inF o x) ∧ St FDx B w w' := by
 refine enter 12 [(0, .int .i64 x), (1, .pointer (some ⟨pf, 0, none⟩))] 3 Tryz.func265 rfl rfl rfl rfl rfl ?_; intro a hF
 have hS := St.refl hI
 refine W_sr rfl fun K hK => ?_
 refine svw hK hF (v_assign rfl) rfl ?_; clear hF a hK K; intro a hF
 refine W_sr rfl fun K hK => ?_
 refine sv hF (v_move rfl) rfl ?_; clear hF a; intro a hF
 refine sb hF (v_lss rfl rfl) rfl ?_ ?_
 ·
  clear hF a; intro hc1 a hF
  try simp only [dcl] at hc1
  refine sv hF (v_move rfl) rfl ?_; clear hF a; intro a hF
  refine svn4 hF rfl rfl rfl rfl rfl rfl rfl rfl rfl rfl rfl rfl ?_; clear hF a; intro a hF
  refine sv2w hK hF (v_pickT rfl rfl) (v_assign rfl) rfl rfl ?_; clear hF a hK K; intro a hF
  replace hF := hF.sub _ (c_ 3 rfl n_)
  refine W_ret ?_
  refine ⟨_, _, hF, rfl, ?_⟩
  exact ⟨by congr 1; unfold inF; first | (symm; rw [Bool.not_eq_true', decide_eq_false_iff_not]; omega) | (rw [← decide_not, decide_eq_decide]; omega), hS⟩
 clear hF a; intro hc1 a hF
 try simp only [dcl] at hc1
 refine sv hF (v_move rfl) rfl ?_; clear hF a; intro a hF
 refine svg hF rfl ?_
 refine sv hF (v_move rfl) rfl ?_; clear hF a; intro a hF
 refine svg hF rfl ?_
 refine sv hF (v_load sc138 rfl (by first | assumption | (rw [toNat_c]; assumption) | exact KC.c (by assumption) | (rw [toNat_c]; exact KC.c (by assumption)) | exact Box.at (by assumption))) rfl ?_; clear hF a; intro a hF
 refine svg hF rfl ?_
 refine sc hF rfl rfl rfl en216 rfl (Size_ok B o fv _ hf) ?_; clear hF a; intro v w' a hv hF
 obtain ⟨rfl, hw⟩ := hv
 obtain rfl := hw.symm
 have hS' := St.refl hS.inv
 replace hS := hS.trans hS'
 clear hS'
 refine svg hF rfl ?_
 refine sv3w hK hF (v_geq rfl rfl) (v_pickF rfl rfl) (v_assign rfl) rfl rfl rfl ?_; clear hF a hK K; intro a hF
 replace hF := hF.sub _ (c_ 3 rfl n_)
 refine W_ret ?_
 refine ⟨_, _, hF, rfl, ?_⟩
 exact ⟨by congr 1; unfold inF; first | (symm; rw [Bool.not_eq_true', decide_eq_false_iff_not]; omega) | (rw [← decide_not, decide_eq_decide]; omega), hS⟩
theorem IdxI_ok (B M : Nat) (g : FuncId) (lb : List Value) (p : Int → Bool) (pxs : Option Addr) (cxs : Nat) (xs : List Int) (w : World) (hI : Inv FDx B w) (hx : Row FDx B M w (.slice pxs xs.length cxs) (zints xs)) (hl : xs.length ≤ maxLen) (eg : Ent Tryz.prog g) (hc : ∀ x ∈ xs, ∀ w1, St FDx B w w1 → Ret Tryz.prog g (.int .i64 x :: lb) w1 fun v w' => v = .bool (p x) ∧ St FDx B w1 w') : Ret Tryz.prog 316 [.slice pxs xs.length cxs, .func (.func g) ([] : List Value).toArray (lb : List Value).toArray] w fun v w' => v = .int .i64 (idxZ p xs) ∧ St FDx B w w' := by
 refine enter 19 [(0, .slice pxs xs.length cxs), (1, .func (.func g) ([] : List Value).toArray (lb : List Value).toArray)] 4 Tryz.func316 rfl rfl rfl rfl rfl ?_; intro a hF
 have hS := St.refl hI
 have hl2 := hl
 simp only [maxLen] at hl2
 refine W_sr rfl fun K hK => ?_
 refine svw hK hF (v_assign rfl) rfl ?_; clear hF a hK K; intro a hF
 refine W_seq ?_
 refine W_sr rfl fun K hK => ?_
 refine sv3w hK hF (v_move rfl) (v_lenS rfl sl49 rfl) (v_move rfl) rfl rfl rfl ?_; clear hF a hK K; intro a hF
 replace hF := hF.sub _ (c_ 8 rfl (c_ 7 rfl (c_ 4 rfl (c_ 0 rfl (c_ 1 rfl n_)))))
 refine W_block ?_
 refine W_loop (fun m a w1 => ∃ (i : Nat), Fr 19 [(0, .slice pxs xs.length cxs), (1, .func (.func g) ([] : List Value).toArray (lb : List Value).toArray), (7, .int .i64 (xs.length : Int)), (8, .int .i64 (i : Int))] a ∧ (St FDx B w w1) ∧ (Row FDx B M w1 (.slice pxs xs.length cxs) (zints xs)) ∧ (i ≤ xs.length) ∧ (∀ y ∈ xs.take i, p y = false) ∧ (m + i = xs.length)) (xs.length) ?_ ?_
 · skip
   exact ⟨0, hF.sub _ (c_ 0 rfl (c_ 1 rfl (c_ 7 rfl (c_ 8 rfl n_)))), hS, hx, by omega, by simp, by omega⟩
 skip
 clear hF
 clear hS hx
 rintro m a w1 ⟨i, hF, hS, hx, hi, hn, hm⟩
 refine W_sr rfl fun K hK => ?_
 refine svw hK hF (v_lss rfl rfl) rfl ?_; clear hF a hK K; intro a hF
 refine W_seq ?_
 refine W_if hF rfl (fun hc1 => ?_) (fun hc1 => ?_)
 ·
  skip
  try simp only [dcl] at hc1
  have hlt : i < xs.length := by omega
  obtain ⟨z, hz⟩ : ∃ z, xs[i]? = some z := ⟨_, List.getElem?_eq_getElem hlt⟩
  obtain ⟨gx, ox, hgx, hkc, -⟩ := hx.kat (zints_at hz)
  subst hgx
  refine W_skip ?_
  refine W_seq ?_
  refine W_block ?_
  refine W_sr rfl fun K hK => ?_
  refine sv2w hK hF (v_move rfl) (v_assign rfl) rfl rfl ?_; clear hF a hK K; intro a hF
  replace hF := hF.sub _ (c_ 5 rfl (c_ 0 rfl (c_ 1 rfl (c_ 7 rfl (c_ 8 rfl n_)))))
  refine W_sr rfl fun K hK => ?_
  refine sv4 hF (v_move rfl) (v_move rfl) (v_move rfl) (v_ixS sl49 rfl rfl (by omega) (by omega)) rfl rfl rfl rfl ?_; clear hF a; intro a hF
  refine sv hF (v_load sc3 rfl (by first | assumption | (rw [toNat_c]; assumption) | exact KC.c (by assumption) | (rw [toNat_c]; exact KC.c (by assumption)) | exact Box.at (by assumption))) rfl ?_; clear hF a; intro a hF
  refine sc hF rfl rfl rfl eg rfl (hc z (List.mem_of_getElem? hz) _ hS) ?_; clear hF a; intro v w' a hv hF
  obtain ⟨rfl, hS'⟩ := hv
  replace hx := hx.st hS'
  replace hS := hS.trans hS'
  clear hS'
  refine wn hK ?_
  clear hK K
  replace hF := hF.sub _ (c_ 16 rfl (c_ 5 rfl (c_ 0 rfl (c_ 1 rfl (c_ 7 rfl (c_ 8 rfl n_))))))
  refine W_if hF rfl (fun hc2 => ?_) (fun hc2 => ?_)
  ·
   skip
   try simp only [dcl] at hc2
   refine W_sr rfl fun K hK => ?_
   refine sv2w hK hF (v_move rfl) (v_assign rfl) rfl rfl ?_; clear hF a hK K; intro a hF
   replace hF := hF.sub _ (c_ 4 rfl (c_ 0 rfl (c_ 1 rfl (c_ 7 rfl (c_ 8 rfl n_)))))
   refine W_ret ?_
   refine ⟨_, _, hF, rfl, ?_⟩
   exact ⟨by rw [idxZ_at hn hz hc2], hS⟩
  skip
  try simp only [dcl] at hc2
  refine W_skip ?_
  refine W_reg rfl fun K hK => ?_
  refine sv2w hK hF (v_addI rfl rfl (by omega)) (v_move rfl) rfl rfl ?_; clear hF a hK K; intro a hF
  replace hF := hF.sub _ (c_ 8 rfl (c_ 18 rfl (c_ 0 rfl (c_ 1 rfl (c_ 7 rfl n_)))))
  exact ⟨m - 1, by omega, i + 1, hF.sub _ (c_ 0 rfl (c_ 1 rfl (c_ 7 rfl (c_ 8 rfl n_)))), hS, hx, by omega, take_snoc_no hn hz hc2, by omega⟩
 skip
 try simp only [dcl] at hc1
 refine W_exit rfl ?_
 refine W_sr rfl fun K hK => ?_
 refine svw hK hF (v_assign rfl) rfl ?_; clear hF a hK K; intro a hF
 replace hF := hF.sub _ (c_ 4 rfl (c_ 0 rfl (c_ 1 rfl (c_ 7 rfl (c_ 8 rfl n_)))))
 refine W_ret ?_
 refine ⟨_, _, hF, rfl, ?_⟩
 exact ⟨by rw [idxZ_no (p := p) (xs := xs) (by rw [List.take_of_length_le (by omega)] at hn; exact hn)], hS⟩
theorem AnyI_ok (B M : Nat) (g : FuncId) (lb : List Value) (p : Int → Bool) (pxs : Option Addr) (cxs : Nat) (xs : List Int) (w : World) (hI : Inv FDx B w) (hx : Row FDx B M w (.slice pxs xs.length cxs) (zints xs)) (hl : xs.length ≤ maxLen) (eg : Ent Tryz.prog g) (hc : ∀ x ∈ xs, ∀ w1, St FDx B w w1 → Ret Tryz.prog g (.int .i64 x :: lb) w1 fun v w' => v = .bool (p x) ∧ St FDx B w1 w') : Ret Tryz.prog 264 [.slice pxs xs.length cxs, .func (.func g) ([] : List Value).toArray (lb : List Value).toArray] w fun v w' => v = .bool (xs.any p) ∧ St FDx B w w' := by
 refine enter 9 [(0, .slice pxs xs.length cxs), (1, .func (.func g) ([] : List Value).toArray (lb : List Value).toArray)] 4 Tryz.func264 rfl rfl rfl rfl rfl ?_; intro a hF
 have hS := St.refl hI
 refine W_sr rfl fun K hK => ?_
 refine svw hK hF (v_assign rfl) rfl ?_; clear hF a hK K; intro a hF
 refine W_sr rfl fun K hK => ?_
 refine sv2 hF (v_move rfl) (v_move rfl) rfl rfl ?_; clear hF a; intro a hF
 refine sc hF rfl rfl rfl en316 rfl (IdxI_ok B M g lb p pxs cxs xs _ hS.inv hx hl eg hc) ?_; clear hF a; intro v w' a hv hF
 obtain ⟨rfl, hS'⟩ := hv
 replace hS := hS.trans hS'
 clear hS'
 refine sv2w hK hF (v_geq rfl rfl) (v_assign rfl) rfl rfl ?_; clear hF a hK K; intro a hF
 replace hF := hF.sub _ (c_ 4 rfl n_)
 refine W_ret ?_
 refine ⟨_, _, hF, rfl, ?_⟩
 exact ⟨by rw [← idxZ_any], hS⟩
theorem IdxR_ok (B M : Nat) (g : FuncId) (lb : List Value) (p : List Int → Bool) (pmt : Option Addr) (cmt : Nat) (mt : Mtx) (w : World) (hI : Inv FDx B w) (hA : Mat FDx B M w pmt cmt mt) (hl : mt.length ≤ maxLen) (eg : Ent Tryz.prog g) (hc : ∀ r ∈ mt, ∀ pr cr w1, St FDx B w w1 → Row FDx B M w1 (.slice pr r.length cr) (zints r) → Ret Tryz.prog g (.slice pr r.length cr :: lb) w1 fun v w' => v = .bool (p r) ∧ St FDx B w1 w') : Ret Tryz.prog 268 [.slice pmt mt.length cmt, .func (.func g) ([] : List Value).toArray (lb : List Value).toArray] w fun v w' => v = .int .i64 (idxZ p mt) ∧ St FDx B w w' := by
 refine enter 19 [(0, .slice pmt mt.length cmt), (1, .func (.func g) ([] : List Value).toArray (lb : List Value).toArray)] 4 Tryz.func268 rfl rfl rfl rfl rfl ?_; intro a hF
 have hS := St.refl hI
 have hl2 := hl
 simp only [maxLen] at hl2
 refine W_sr rfl fun K hK => ?_
 refine svw hK hF (v_assign rfl) rfl ?_; clear hF a hK K; intro a hF
 refine W_seq ?_
 refine W_sr rfl fun K hK => ?_
 refine sv3w hK hF (v_move rfl) (v_lenS rfl sl134 rfl) (v_move rfl) rfl rfl rfl ?_; clear hF a hK K; intro a hF
 replace hF := hF.sub _ (c_ 8 rfl (c_ 7 rfl (c_ 4 rfl (c_ 0 rfl (c_ 1 rfl n_)))))
 refine W_block ?_
 refine W_loop (fun m a w1 => ∃ (i : Nat), Fr 19 [(0, .slice pmt mt.length cmt), (1, .func (.func g) ([] : List Value).toArray (lb : List Value).toArray), (7, .int .i64 (mt.length : Int)), (8, .int .i64 (i : Int))] a ∧ (St FDx B w w1) ∧ (Mat FDx B M w1 pmt cmt mt) ∧ (i ≤ mt.length) ∧ (∀ y ∈ mt.take i, p y = false) ∧ (m + i = mt.length)) (mt.length) ?_ ?_
 · skip
   exact ⟨0, hF.sub _ (c_ 0 rfl (c_ 1 rfl (c_ 7 rfl (c_ 8 rfl n_)))), hS, hA, by omega, by simp, by omega⟩
 skip
 clear hF
 clear hS hA
 rintro m a w1 ⟨i, hF, hS, hA, hi, hn, hm⟩
 refine W_sr rfl fun K hK => ?_
 refine svw hK hF (v_lss rfl rfl) rfl ?_; clear hF a hK K; intro a hF
 refine W_seq ?_
 refine W_if hF rfl (fun hc1 => ?_) (fun hc1 => ?_)
 ·
  skip
  try simp only [dcl] at hc1
  have hlt : i < mt.length := by omega
  obtain ⟨r, hr⟩ : ∃ z, mt[i]? = some z := ⟨_, List.getElem?_eq_getElem hlt⟩
  obtain ⟨gx, ox, pr, cr, hgx, hkc, hrow, -⟩ := hA.row hr
  subst hgx
  refine W_skip ?_
  refine W_seq ?_
  refine W_block ?_
  refine W_sr rfl fun K hK => ?_
  refine sv2w hK hF (v_move rfl) (v_assign rfl) rfl rfl ?_; clear hF a hK K; intro a hF
  replace hF := hF.sub _ (c_ 5 rfl (c_ 0 rfl (c_ 1 rfl (c_ 7 rfl (c_ 8 rfl n_)))))
  refine W_sr rfl fun K hK => ?_
  refine sv4 hF (v_move rfl) (v_move rfl) (v_move rfl) (v_ixS sl134 rfl rfl (by omega) (by omega)) rfl rfl rfl rfl ?_; clear hF a; intro a hF
  refine sv hF (v_load sc49 rfl (by first | assumption | (rw [toNat_c]; assumption) | exact KC.c (by assumption) | (rw [toNat_c]; exact KC.c (by assumption)) | exact Box.at (by assumption))) rfl ?_; clear hF a; intro a hF
  refine sc hF rfl rfl rfl eg rfl (hc r (List.mem_of_getElem? hr) pr cr _ hS hrow) ?_; clear hF a; intro v w' a hv hF
  obtain ⟨rfl, hS'⟩ := hv
  replace hA := hA.st hS'
  replace hS := hS.trans hS'
  clear hS'
  refine wn hK ?_
  clear hK K
  replace hF := hF.sub _ (c_ 16 rfl (c_ 5 rfl (c_ 0 rfl (c_ 1 rfl (c_ 7 rfl (c_ 8 rfl n_))))))
  refine W_if hF rfl (fun hc2 => ?_) (fun hc2 => ?_)
  ·
   skip
   try simp only [dcl] at hc2
   refine W_sr rfl fun K hK => ?_
   refine sv2w hK hF (v_move rfl) (v_assign rfl) rfl rfl ?_; clear hF a hK K; intro a hF
   replace hF := hF.sub _ (c_ 4 rfl (c_ 0 rfl (c_ 1 rfl (c_ 7 rfl (c_ 8 rfl n_)))))
   refine W_ret ?_
   refine ⟨_, _, hF, rfl, ?_⟩
   exact ⟨by rw [idxZ_at hn hr hc2], hS⟩
  skip
  try simp only [dcl] at hc2
  refine W_skip ?_
  refine W_reg rfl fun K hK => ?_
  refine sv2w hK hF (v_addI rfl rfl (by omega)) (v_move rfl) rfl rfl ?_; clear hF a hK K; intro a hF
  replace hF := hF.sub _ (c_ 8 rfl (c_ 18 rfl (c_ 0 rfl (c_ 1 rfl (c_ 7 rfl n_)))))
  exact ⟨m - 1, by omega, i + 1, hF.sub _ (c_ 0 rfl (c_ 1 rfl (c_ 7 rfl (c_ 8 rfl n_)))), hS, hA, by omega, take_snoc_no hn hr hc2, by omega⟩
 skip
 try simp only [dcl] at hc1
 refine W_exit rfl ?_
 refine W_sr rfl fun K hK => ?_
 refine svw hK hF (v_assign rfl) rfl ?_; clear hF a hK K; intro a hF
 replace hF := hF.sub _ (c_ 4 rfl (c_ 0 rfl (c_ 1 rfl (c_ 7 rfl (c_ 8 rfl n_)))))
 refine W_ret ?_
 refine ⟨_, _, hF, rfl, ?_⟩
 exact ⟨by rw [idxZ_no (p := p) (xs := mt) (by rw [List.take_of_length_le (by omega)] at hn; exact hn)], hS⟩
theorem AnyR_ok (B M : Nat) (g : FuncId) (lb : List Value) (p : List Int → Bool) (pmt : Option Addr) (cmt : Nat) (mt : Mtx) (w : World) (hI : Inv FDx B w) (hA : Mat FDx B M w pmt cmt mt) (hl : mt.length ≤ maxLen) (eg : Ent Tryz.prog g) (hc : ∀ r ∈ mt, ∀ pr cr w1, St FDx B w w1 → Row FDx B M w1 (.slice pr r.length cr) (zints r) → Ret Tryz.prog g (.slice pr r.length cr :: lb) w1 fun v w' => v = .bool (p r) ∧ St FDx B w1 w') : Ret Tryz.prog 262 [.slice pmt mt.length cmt, .func (.func g) ([] : List Value).toArray (lb : List Value).toArray] w fun v w' => v = .bool (mt.any p) ∧ St FDx B w w' := by
 refine enter 9 [(0, .slice pmt mt.length cmt), (1, .func (.func g) ([] : List Value).toArray (lb : List Value).toArray)] 4 Tryz.func262 rfl rfl rfl rfl rfl ?_; intro a hF
 have hS := St.refl hI
 refine W_sr rfl fun K hK => ?_
 refine svw hK hF (v_assign rfl) rfl ?_; clear hF a hK K; intro a hF
 refine W_sr rfl fun K hK => ?_
 refine sv2 hF (v_move rfl) (v_move rfl) rfl rfl ?_; clear hF a; intro a hF
 refine sc hF rfl rfl rfl en268 rfl (IdxR_ok B M g lb p pmt cmt mt _ hS.inv hA hl eg hc) ?_; clear hF a; intro v w' a hv hF
 obtain ⟨rfl, hS'⟩ := hv
 replace hS := hS.trans hS'
 clear hS'
 refine sv2w hK hF (v_geq rfl rfl) (v_assign rfl) rfl rfl ?_; clear hF a hK K; intro a hF
 replace hF := hF.sub _ (c_ 4 rfl n_)
 refine W_ret ?_
 refine ⟨_, _, hF, rfl, ?_⟩
 exact ⟨by rw [← idxZ_any], hS⟩
theorem May1_ok (B M : Nat) (o : Fq) (fv : Value) (pf pa : Nat) (sa : Option Addr) (ca : Nat) (mt : Mtx) (r0 : List Int) (pr : Option Addr) (cr : Nat) (r : List Int) (w : World) (hI : Inv FDx B w) (hf : Fo FDx B w fv o) (hkf : KC FDx B w ⟨pf, 0, none⟩ fv) (hka : KC FDx B w ⟨pa, 0, none⟩ (.slice sa mt.length ca)) (hA : Mat FDx B M w sa ca mt) (h0 : mt[0]? = some r0) (hr : Row FDx B M w (.slice pr r.length cr) (zints r)) (hrl : r.length ≤ maxLen) : Ret Tryz.prog 263 [.slice pr r.length cr, .pointer (some ⟨pa, 0, none⟩), .pointer (some ⟨pf, 0, none⟩)] w fun v w' => v = .bool ((fun r => decide (r.length ≠ r0.length) || r.any fun x => !inF o x) r) ∧ St FDx B w w' := by
 refine enter 17 [(0, .slice pr r.length cr), (1, .pointer (some ⟨pa, 0, none⟩)), (2, .pointer (some ⟨pf, 0, none⟩))] 4 Tryz.func263 rfl rfl rfl rfl rfl ?_; intro a hF
 have hS := St.refl hI
 obtain ⟨g0, o0, pr0, cr0, hg0, hk0, hrow0, -⟩ := hA.row h0
 subst hg0
 have hml := (List.getElem?_eq_some_iff.1 h0).1
 refine W_sr rfl fun K hK => ?_
 refine svw hK hF (v_assign rfl) rfl ?_; clear hF a hK K; intro a hF
 refine W_sr rfl fun K hK => ?_
 refine sv2 hF (v_move rfl) (v_lenS rfl sl49 rfl) rfl rfl ?_; clear hF a; intro a hF
 refine sv hF (v_load sc134 rfl (by first | assumption | (rw [toNat_c]; assumption) | exact KC.c (by assumption) | (rw [toNat_c]; exact KC.c (by assumption)) | exact Box.at (by assumption))) rfl ?_; clear hF a; intro a hF
 refine sv3 hF (v_ixS sl134 rfl rfl (by decide) (by omega)) (v_load sc49 rfl hk0.c) (v_lenS rfl sl49 rfl) rfl rfl rfl ?_; clear hF a; intro a hF
 refine sb hF (v_neq rfl rfl) rfl ?_ ?_
 ·
  clear hF a; intro hc1 a hF
  try simp only [dcl] at hc1
  refine sv hF (v_move rfl) rfl ?_; clear hF a; intro a hF
  refine svn3 hF rfl rfl rfl rfl rfl rfl rfl rfl rfl ?_; clear hF a; intro a hF
  refine sv2w hK hF (v_pickT rfl rfl) (v_assign rfl) rfl rfl ?_; clear hF a hK K; intro a hF
  replace hF := hF.sub _ (c_ 4 rfl n_)
  refine W_ret ?_
  refine ⟨_, _, hF, rfl, ?_⟩
  have hd : decide (r.length ≠ r0.length) = true := by rw [decide_eq_true_iff]; omega
  exact ⟨by simp only [hd, Bool.true_or], hS⟩
 clear hF a; intro hc1 a hF
 try simp only [dcl] at hc1
 refine sv hF (v_move rfl) rfl ?_; clear hF a; intro a hF
 refine svg hF rfl ?_
 refine sv hF (v_move rfl) rfl ?_; clear hF a; intro a hF
 refine svg hF rfl ?_
 refine sv hF (v_mkf (cs := [.tmp 2]) (vs := [.pointer (some ⟨pf, 0, none⟩)]) rfl) rfl ?_; clear hF a; intro a hF
 refine svg hF rfl ?_
 refine sc hF rfl rfl rfl en264 rfl (AnyI_ok B M 265 [.pointer (some ⟨pf, 0, none⟩)] (fun x => !inF o x) pr cr r _ hS.inv hr hrl (ent Tryz.func265 (by kernel_rfl) (by kernel_rfl)) (fun x _ w1 hs => May11_ok B o fv pf x w1 hs.inv (hf.st (hS.trans hs)) (hkf.st (hS.trans hs)))) ?_; clear hF a; intro v w' a hv hF
 obtain ⟨rfl, hS'⟩ := hv
 replace hS := hS.trans hS'
 clear hS'
 refine sv2w hK hF (v_pickF rfl rfl) (v_assign rfl) rfl rfl ?_; clear hF a hK K; intro a hF
 replace hF := hF.sub _ (c_ 4 rfl n_)
 refine W_ret ?_
 refine ⟨_, _, hF, rfl, ?_⟩
 have hd : decide (r.length ≠ r0.length) = false := by rw [decide_eq_false_iff_not]; omega
 exact ⟨by simp only [hd, Bool.false_or], hS⟩
theorem May_ok (B M : Nat) (o : Fq) (fv : Value) (pmt : Option Addr) (cmt : Nat) (mt : Mtx) (w : World) (hI : Inv FDx B w) (hf : Fo FDx B w fv o) (hA : Mat FDx B M w pmt cmt mt) (hl : mt.length ≤ maxLen) (hb : ∀ r ∈ mt, r.length ≤ maxLen) : Ret Tryz.prog 193 [fv, .slice pmt mt.length cmt] w fun v w' => v = .bool (mayM o mt) ∧ St FDx B w w' := by
 refine enter 21 [(0, fv), (1, .slice pmt mt.length cmt)] 4 Tryz.func193 rfl rfl rfl rfl rfl ?_; intro a hF
 have hS := St.refl hI
 have hl2 := hl
 simp only [maxLen] at hl2
 refine W_sr rfl fun K hK => ?_
 refine s_boxN (D := FDx) (B := B) hF rfl (hf.cells1) (by decide) hS.inv rfl ?_; clear hF a; intro w' a hm hI' hbf hsz hF
 replace hf := hf.mb hm
 replace hA := hA.mb hm (fun _ h => by cases h)
 replace hS := hS.mb0 hm
 clear hm hI' hsz
 obtain ⟨pf, hpf⟩ : ∃ pf, pf = w.heap.size := ⟨_, rfl⟩
 rw [← hpf] at hbf hF
 obtain ⟨pa, hpa⟩ : ∃ pa, pa = w'.heap.size := ⟨_, rfl⟩
 refine s_boxN (D := FDx) (B := B) hF rfl (rfl) (by decide) hS.inv rfl ?_; clear hF a; intro w' a hm hI' hba hsz hF
 replace hf := hf.mb hm
 replace hA := hA.mb hm (fun _ h => by cases h)
 replace hbf := hbf.mb hm (by simp)
 replace hS := hS.mb0 hm
 clear hm hI' hsz
 rw [← hpa] at hba hF
 have hkf := hbf.kc
 have hka := hba.kc
 clear hba hbf
 refine svw hK hF (v_assign rfl) rfl ?_; clear hF a hK K; intro a hF
 replace hF := hF.sub _ (c_ 4 rfl (c_ 3 rfl (c_ 2 rfl n_)))
 refine W_seq ?_
 refine W_sr rfl fun K hK => ?_
 refine sv2 hF (v_load sc134 rfl hka.c) (v_lenS rfl sl134 rfl) rfl rfl ?_; clear hF a; intro a hF
 refine sc hF rfl rfl rfl en194 rfl (within_ok (mt.length : Int) _) ?_; clear hF a; intro v w' a hv hF
 obtain ⟨rfl, hw⟩ := hv
 obtain rfl := hw.symm
 have hS' := St.refl hS.inv
 replace hf := hf.st hS'
 replace hA := hA.st hS'
 replace hkf := hkf.st hS'
 replace hka := hka.st hS'
 replace hS := hS.trans hS'
 clear hS'
 refine sb hF (v_not rfl) rfl ?_ ?_
 ·
  clear hF a; intro hc1 a hF
  try simp only [dcl] at hc1
  refine sv hF (v_move rfl) rfl ?_; clear hF a; intro a hF
  refine svn5 hF rfl rfl rfl rfl rfl rfl rfl rfl rfl rfl rfl rfl rfl rfl rfl ?_; clear hF a; intro a hF
  refine svn hF rfl rfl rfl ?_; clear hF a; intro a hF
  refine svw hK hF (v_pickT rfl rfl) rfl ?_; clear hF a hK K; intro a hF
  replace hF := hF.sub _ (c_ 16 rfl (c_ 4 rfl (c_ 3 rfl (c_ 2 rfl n_))))
  refine W_ifT hF rfl ?_
  refine W_sr rfl fun K hK => ?_
  refine svw hK hF (v_assign rfl) rfl ?_; clear hF a hK K; intro a hF
  replace hF := hF.sub _ (c_ 4 rfl (c_ 3 rfl (c_ 2 rfl n_)))
  refine W_ret ?_
  refine ⟨_, _, hF, rfl, ?_⟩
  have hno : mayM o mt = false := mayM_no (fun h => by omega)
  rw [hno]
  exact ⟨rfl, hS⟩
 clear hF a; intro hc1 a hF
 try simp only [dcl] at hc1
 refine sv hF (v_move rfl) rfl ?_; clear hF a; intro a hF
 refine svg hF rfl ?_
 have hm20 : 1 ≤ mt.length ∧ mt.length ≤ 20 := by omega
 obtain ⟨r0, h0⟩ : ∃ r, mt[0]? = some r := ⟨_, List.getElem?_eq_getElem (by omega)⟩
 obtain ⟨g0, o0, pr0, cr0, hg0, hk0, hrow0, -⟩ := hA.row h0
 subst hg0
 refine sv hF (v_load sc134 rfl hka.c) rfl ?_; clear hF a; intro a hF
 refine svg hF rfl ?_
 refine sv hF (v_ixS sl134 rfl rfl (by decide) (by omega)) rfl ?_; clear hF a; intro a hF
 refine svg hF rfl ?_
 refine sv hF (v_load sc49 rfl hk0.c) rfl ?_; clear hF a; intro a hF
 refine svg hF rfl ?_
 refine sv hF (v_lenS rfl sl49 rfl) rfl ?_; clear hF a; intro a hF
 refine svg hF rfl ?_
 refine sc hF rfl rfl rfl en194 rfl (within_ok (r0.length : Int) _) ?_; clear hF a; intro v w' a hv hF
 obtain ⟨rfl, hw⟩ := hv
 obtain rfl := hw.symm
 have hS' := St.refl hS.inv
 replace hf := hf.st hS'
 replace hA := hA.st hS'
 replace hkf := hkf.st hS'
 replace hka := hka.st hS'
 replace hS := hS.trans hS'
 clear hS'
 refine svg hF rfl ?_
 refine sv2w hK hF (v_not rfl) (v_pickF rfl rfl) rfl rfl ?_; clear hF a hK K; intro a hF
 replace hF := hF.sub _ (c_ 16 rfl (c_ 4 rfl (c_ 3 rfl (c_ 2 rfl n_))))
 refine W_if hF rfl (fun hc2 => ?_) (fun hc2 => ?_)
 ·
  skip
  try simp only [dcl] at hc2
  refine W_sr rfl fun K hK => ?_
  refine svw hK hF (v_assign rfl) rfl ?_; clear hF a hK K; intro a hF
  replace hF := hF.sub _ (c_ 4 rfl (c_ 3 rfl (c_ 2 rfl n_)))
  refine W_ret ?_
  refine ⟨_, _, hF, rfl, ?_⟩
  have hno : mayM o mt = false := mayM_no (fun h => by rw [wid_at h0] at h; omega)
  rw [hno]
  exact ⟨rfl, hS⟩
 skip
 try simp only [dcl] at hc2
 refine W_skip ?_
 refine W_sr rfl fun K hK => ?_
 refine sv2 hF (v_load sc134 rfl hka.c) (v_mkf (cs := [.tmp 3, .tmp 2]) (vs := [.pointer (some ⟨pa, 0, none⟩), .pointer (some ⟨pf, 0, none⟩)]) rfl) rfl rfl ?_; clear hF a; intro a hF
 refine sc hF rfl rfl rfl en262 rfl (AnyR_ok B M 263 [.pointer (some ⟨pa, 0, none⟩), .pointer (some ⟨pf, 0, none⟩)] (fun r => decide (r.length ≠ r0.length) || r.any fun x => !inF o x) _ cmt mt _ hS.inv hA hl (ent Tryz.func263 (by kernel_rfl) (by kernel_rfl)) (fun r hr pr cr w1 hs hrow => May1_ok B M o fv pf pa _ cmt mt r0 pr cr r w1 hs.inv (hf.st hs) (hkf.st hs) (hka.st hs) (hA.st hs) h0 hrow (hb r hr))) ?_; clear hF a; intro v w' a hv hF
 obtain ⟨rfl, hS'⟩ := hv
 replace hf := hf.st hS'
 replace hA := hA.st hS'
 replace hkf := hkf.st hS'
 replace hka := hka.st hS'
 replace hS := hS.trans hS'
 clear hS'
 refine sv2w hK hF (v_not rfl) (v_assign rfl) rfl rfl ?_; clear hF a hK K; intro a hF
 replace hF := hF.sub _ (c_ 4 rfl n_)
 refine W_ret ?_
 refine ⟨_, _, hF, rfl, ?_⟩
 have hr20 : 1 ≤ r0.length ∧ r0.length ≤ 20 := by omega
 exact ⟨by rw [← mayM_eq h0 hm20.2 hr20], hS⟩
end Go.Proofs.YtoabojbpeafdkaaGreatDoor
/- The walks of package matrix: products. -/
namespace Go.Proofs.YtoabojbpeafdkaaGreatDoor
open Go Go.Gam
namespace FxFMatC
theorem en141 : Ent Tryz.prog 141 := ent Tryz.func141 (by kernel_rfl) (by kernel_rfl)
theorem on3 : Gam.One Tryz.prog 3 := by unfold Gam.One; kernel_rfl
theorem sc134 : Scalar Tryz.prog 134 := ⟨_, Tryz.underlying134, by simp, by simp⟩
theorem sc3 : Scalar Tryz.prog 3 := ⟨_, Tryz.underlying3, by simp, by simp⟩
theorem sc49 : Scalar Tryz.prog 49 := ⟨_, Tryz.underlying49, by simp, by simp⟩
theorem sl134 : Sl Tryz.prog 134 49 (.slice none 0 0) 24 := sl_of Tryz.underlying134 rfl (by kernel_rfl)
theorem sl49 : Sl Tryz.prog 49 3 (.int .i64 0) 8 := sl_of Tryz.underlying49 rfl (by kernel_rfl)
end FxFMatC
open FxFMatC
theorem dot_ok (B M1 M2 : Nat) (o : Fq) (fv : Value) (pr : Option Addr) (cr : Nat) (r : List Int) (pc : Option Addr) (cc : Nat) (c : List Int) (w : World) (hI : Inv FDx B w) (hf : Fo FDx B w fv o) (hr : Row FDx B M1 w (.slice pr r.length cr) (zints r)) (hc : Row FDx B M2 w (.slice pc c.length cc) (zints c)) (hrc : r.length = c.length) (hl : r.length ≤ 100000) : Ret Tryz.prog 322 [fv, .slice pr r.length cr, .slice pc c.length cc] w fun v w' => v = .int .i64 (dotN o r c : Int) ∧ St FDx B w w' := by
 refine enter 28 [(0, fv), (1, .slice pr r.length cr), (2, .slice pc c.length cc)] 6 Tryz.func322 rfl rfl rfl rfl rfl ?_; intro a hF
 have hS := St.refl hI
 refine W_sr rfl fun K hK => ?_
 refine svw hK hF (v_assign rfl) rfl ?_; clear hF a hK K; intro a hF
 refine W_sr rfl fun K hK => ?_
 refine svw hK hF (v_assign rfl) rfl ?_; clear hF a hK K; intro a hF
 refine W_seq ?_
 refine W_sr rfl fun K hK => ?_
 refine sv3w hK hF (v_move rfl) (v_lenS rfl sl49 rfl) (v_move rfl) rfl rfl rfl ?_; clear hF a hK K; intro a hF
 replace hF := hF.sub _ (c_ 12 rfl (c_ 11 rfl (c_ 10 rfl (c_ 7 rfl (c_ 6 rfl (c_ 0 rfl (c_ 2 rfl n_)))))))
 refine W_block ?_
 refine W_loop (fun m a w1 => ∃ (i : Nat), Fr 28 [(0, fv), (2, .slice pc c.length cc), (7, .int .i64 (dotP o r c i : Int)), (10, .slice pr r.length cr), (11, .int .i64 (r.length : Int)), (12, .int .i64 (i : Int))] a ∧ (St FDx B w w1) ∧ (Fo FDx B w1 fv o) ∧ (Row FDx B M1 w1 (.slice pr r.length cr) (zints r)) ∧ (Row FDx B M2 w1 (.slice pc c.length cc) (zints c)) ∧ (i ≤ r.length) ∧ (m + i = r.length)) (r.length) ?_ ?_
 · skip
   exact ⟨0, hF.sub _ (c_ 0 rfl (c_ 2 rfl (c_ 7 rfl (c_ 10 rfl (c_ 11 rfl (c_ 12 rfl n_)))))), hS, hf, hr, hc, by omega, by omega⟩
 skip
 clear hF
 clear hS hf hr hc
 rintro m a w1 ⟨i, hF, hS, hf, hr, hc, hi, hm⟩
 refine W_sr rfl fun K hK => ?_
 refine svw hK hF (v_lss rfl rfl) rfl ?_; clear hF a hK K; intro a hF
 refine W_seq ?_
 refine W_if hF rfl (fun hc1 => ?_) (fun hc1 => ?_)
 ·
  skip
  try simp only [dcl] at hc1
  have hlt : i < r.length := by omega
  obtain ⟨x, hx⟩ : ∃ z, r[i]? = some z := ⟨_, List.getElem?_eq_getElem hlt⟩
  obtain ⟨y, hy⟩ : ∃ z, c[i]? = some z := ⟨_, List.getElem?_eq_getElem (by omega)⟩
  obtain ⟨gx, ox, hgx, hkx, -⟩ := hr.kat (zints_at hx)
  obtain ⟨gy, oy, hgy, hky, -⟩ := hc.kat (zints_at hy)
  subst hgx hgy
  have hst := dotP_step (o := o) hx hy
  have hdl := dotN_lt hf (r.take i) (c.take i)
  refine W_skip ?_
  refine W_seq ?_
  refine W_block ?_
  refine W_sr rfl fun K hK => ?_
  refine sv2 hF (v_move rfl) (v_ixS sl49 rfl rfl (by omega) (by omega)) rfl rfl ?_; clear hF a; intro a hF
  refine sv hF (v_load sc3 rfl (by first | assumption | (rw [toNat_c]; assumption) | exact KC.c (by assumption) | (rw [toNat_c]; exact KC.c (by assumption)) | exact Box.at (by assumption))) rfl ?_; clear hF a; intro a hF
  refine sv2w hK hF (v_assign rfl) (v_assign rfl) rfl rfl ?_; clear hF a hK K; intro a hF
  replace hF := hF.sub _ (c_ 9 rfl (c_ 8 rfl (c_ 0 rfl (c_ 2 rfl (c_ 7 rfl (c_ 10 rfl (c_ 11 rfl (c_ 12 rfl n_))))))))
  refine W_reg rfl fun K hK => ?_
  refine sv6 hF (v_move rfl) (v_move rfl) (v_move rfl) (v_move rfl) (v_move rfl) (v_ixS sl49 rfl rfl (by omega) (by omega)) rfl rfl rfl rfl rfl rfl ?_; clear hF a; intro a hF
  refine sv hF (v_load sc3 rfl (by first | assumption | (rw [toNat_c]; assumption) | exact KC.c (by assumption) | (rw [toNat_c]; exact KC.c (by assumption)) | exact Box.at (by assumption))) rfl ?_; clear hF a; intro a hF
  refine sc hF rfl rfl rfl en141 rfl (Mul_gf B o fv x y _ hS.inv hf) ?_; clear hF a; intro v w' a hv hF
  obtain ⟨rfl, hS'⟩ := hv
  replace hf := hf.st hS'
  replace hr := hr.st hS'
  replace hc := hc.st hS'
  replace hS := hS.trans hS'
  clear hS'
  obtain ⟨z, hz, hzl⟩ := gmul_nn hf x y
  rw [hz, Int.toNat_natCast] at hst
  rw [hz] at hF
  refine sv2w hK hF ((v_xorN (m := dotP o r c i) (n := z) rfl rfl (fits_i64 (Nat.lt_of_lt_of_le hdl (by decide))) (fits_i64 (by omega))).as (congrArg (fun (q : Nat) => Value.int .i64 (q : Int)) hst.symm)) (v_assign rfl) rfl rfl ?_; clear hF a hK K; intro a hF
  replace hF := hF.sub _ (c_ 7 rfl (c_ 0 rfl (c_ 2 rfl (c_ 10 rfl (c_ 11 rfl (c_ 12 rfl n_))))))
  refine W_reg rfl fun K hK => ?_
  refine sv2w hK hF (v_addI rfl rfl (by omega)) (v_move rfl) rfl rfl ?_; clear hF a hK K; intro a hF
  exact ⟨m - 1, by omega, i + 1, hF.sub _ (c_ 0 rfl (c_ 2 rfl (c_ 7 rfl (c_ 10 rfl (c_ 11 rfl (c_ 12 rfl n_)))))), hS, hf, hr, hc, by omega, by omega⟩
 skip
 try simp only [dcl] at hc1
 refine W_exit rfl ?_
 refine W_sr rfl fun K hK => ?_
 refine sv2w hK hF (v_move rfl) (v_assign rfl) rfl rfl ?_; clear hF a hK K; intro a hF
 replace hF := hF.sub _ (c_ 6 rfl (c_ 27 rfl (c_ 0 rfl (c_ 2 rfl (c_ 7 rfl (c_ 10 rfl (c_ 11 rfl (c_ 12 rfl n_))))))))
 refine W_ret ?_
 refine ⟨_, _, hF, rfl, ?_⟩
 obtain rfl : i = r.length := by omega
 exact ⟨by rw [dotP_all o hrc], hS⟩
theorem columns_ok (B : Nat) (pmt : Option Addr) (cmt : Nat) (mt : Mtx) (w : World) (hI : Inv FDx B w) : Ret Tryz.prog 321 [.slice pmt mt.length cmt] w fun v w' => ∃ pb, v = .func (.func 362) ([] : List Value).toArray ([.pointer (some ⟨pb, 0, none⟩)] : List Value).toArray ∧ w.heap.size ≤ pb ∧ KC FDx B w' ⟨pb, 0, none⟩ (.slice pmt mt.length cmt) ∧ St FDx B w w' := by
 refine enter 4 [(0, .slice pmt mt.length cmt)] 2 Tryz.func321 rfl rfl rfl rfl rfl ?_; intro a hF
 have hS := St.refl hI
 refine W_sr rfl fun K hK => ?_
 refine s_boxN (D := FDx) (B := B) hF rfl (rfl) (by decide) hS.inv rfl ?_; clear hF a; intro w' a hm hI' hbx hsz hF
 replace hS := hS.mb0 hm
 clear hm hI' hsz
 have hkb := hbx.kc
 clear hbx
 refine svw hK hF (v_assign rfl) rfl ?_; clear hF a hK K; intro a hF
 replace hF := hF.sub _ (c_ 2 rfl (c_ 1 rfl n_))
 refine W_sr rfl fun K hK => ?_
 refine sv2w hK hF (v_mkf (cs := [.tmp 1]) (vs := [.pointer (some ⟨w.heap.size, 0, none⟩)]) rfl) (v_assign rfl) rfl rfl ?_; clear hF a hK K; intro a hF
 replace hF := hF.sub _ (c_ 2 rfl n_)
 refine W_ret ?_
 refine ⟨_, _, hF, rfl, ?_⟩
 exact ⟨w.heap.size, rfl, Nat.le_refl _, hkb, hS⟩
theorem columns1_ok (B M pb l : Nat) (pmt : Option Addr) (cmt : Nat) (mt : Mtx) (Z : Nat → Prop) (J Jx : Nat → World → Prop) (w0 w : World) (h0S : StZ FDx B Z w0 w) (hk : KC FDx B w ⟨pb, 0, none⟩ (.slice pmt mt.length cmt)) (hA : Mat FDx B M w pmt cmt mt) (hzp : ¬ Z pb) (hzM : ∀ k, k < M → ¬ Z k) (hZ : ∀ k, w0.heap.size ≤ k → Z k) (hMw : M ≤ w0.heap.size) (hwd : ∀ r ∈ mt, r.length = wid mt) (hml : 1 ≤ mt.length ∧ mt.length ≤ 1000) (hwl : wid mt ≤ 1000) (hJs : ∀ i A C, J i A → St FDx B A C → J i C) (hY : ∀ i x v A, ((List.range (wid mt)).map (colAt mt))[i]? = some x → J i A → StZ FDx B Z w0 A → encR FDx B x A v → YieldOk Tryz.prog l v A fun b A' => (b = true ∧ J (i + 1) A' ∧ StZ FDx B Z A A') ∨ (b = false ∧ Jx (i + 1) A')) (h0 : J 0 w) : Ret Tryz.prog 362 [.func (.yield l) #[] #[], .pointer (some ⟨pb, 0, none⟩)] w fun v A' => (J (wid mt) A' ∧ StZ FDx B Z w0 A') ∨ ∃ i, Jx i A' := by
 refine enter0 37 [(0, .func (.yield l) #[] #[]), (1, .pointer (some ⟨pb, 0, none⟩))]  Tryz.func362 rfl rfl rfl rfl rfl ?_; intro a hF
 have hS := h0S
 obtain ⟨r0, hr0⟩ : ∃ r, mt[0]? = some r := ⟨_, List.getElem?_eq_getElem (by omega)⟩
 obtain ⟨g0, o0, pr0, cr0, hg0, hk0, hrow0, hg0M⟩ := hA.row hr0
 have hw0 := wid_at hr0
 refine W_sr rfl fun K hK => ?_
 refine sv hF (v_load sc134 rfl hk.c) rfl ?_; clear hF a; intro a hF
 rw [hg0] at hF
 refine sv4w hK hF (v_ixS sl134 rfl rfl (by decide) (by omega)) (v_load sc49 rfl hk0.c) (v_lenS rfl sl49 rfl) (v_move rfl) rfl rfl rfl rfl ?_; clear hF a hK K; intro a hF
 replace hF := hF.sub _ (c_ 10 rfl (c_ 9 rfl (c_ 0 rfl (c_ 1 rfl n_))))
 rw [← hw0] at hF
 clear hk0 hrow0
 refine W_block ?_
 refine W_loop (fun m a w1 => ∃ (j : Nat), Fr 37 [(0, .func (.yield l) #[] #[]), (1, .pointer (some ⟨pb, 0, none⟩)), (9, .int .i64 (wid mt : Int)), (10, .int .i64 (j : Int))] a ∧ (StZ FDx B Z w0 w1) ∧ (KC FDx B w1 ⟨pb, 0, none⟩ (.slice pmt mt.length cmt)) ∧ (Mat FDx B M w1 pmt cmt mt) ∧ (J j w1) ∧ (j ≤ wid mt) ∧ (m + j = wid mt)) (wid mt) ?_ ?_
 · skip
   exact ⟨0, hF.sub _ (c_ 0 rfl (c_ 1 rfl (c_ 9 rfl (c_ 10 rfl n_)))), hS, hk, hA, h0, by omega, by omega⟩
 skip
 clear hF
 clear hS hk hA
 rintro m a w1 ⟨j, hF, hS, hk, hA, hJ, hi, hm⟩
 obtain ⟨wJ, hwJ⟩ : ∃ x, x = w1 := ⟨_, rfl⟩
 rw [← hwJ] at hJ
 have hSJ : St FDx B wJ w1 := by rw [hwJ]; exact St.refl hS.inv
 have hz0 : w0.heap.size ≤ wJ.heap.size := by rw [hwJ]; exact hS.ext.size
 clear hwJ
 refine W_sr rfl fun K hK => ?_
 refine svw hK hF (v_lss rfl rfl) rfl ?_; clear hF a hK K; intro a hF
 refine W_seq ?_
 refine W_if hF rfl (fun hc1 => ?_) (fun hc1 => ?_)
 ·
  skip
  try simp only [dcl] at hc1
  have hlt : j < wid mt := by omega
  refine W_skip ?_
  refine W_seq ?_
  refine W_block ?_
  refine W_sr rfl fun K hK => ?_
  refine sv2w hK hF (v_move rfl) (v_assign rfl) rfl rfl ?_; clear hF a hK K; intro a hF
  replace hF := hF.sub _ (c_ 3 rfl (c_ 0 rfl (c_ 1 rfl (c_ 9 rfl (c_ 10 rfl n_)))))
  refine W_sr rfl fun K hK => ?_
  refine sv2 hF (v_load sc134 rfl hk.c) (v_lenS rfl sl134 rfl) rfl rfl ?_; clear hF a; intro a hF
  have hszJ := hSJ.ext.size
  obtain ⟨gO, hgO⟩ : ∃ g, g = w1.heap.size := ⟨_, rfl⟩
  refine s_mk (D := FDx) (B := B) (m := mt.length) hF sl49 rfl rfl rfl (by omega) (by simp only [maxLen]; omega) (by decide) hS.inv rfl ?_; clear hF a; intro w' a hm hI' hO hF
  rw [← hgO] at hO hF
  replace hO := hO.le (show wJ.heap.size ≤ gO by omega)
  replace hk := hk.mb hm (by simp)
  replace hA := hA.mb hm (fun _ h => by cases h)
  replace hSJ := hSJ.mb0 hm
  replace hS := hS.mb0 hm
  clear hm hI'
  replace hO := hO.cast (show List.replicate mt.length (Value.int .i64 0) = zints (cfill mt j 0) by rw [cfill_zero]; simp [zints])
  clear hgO hszJ
  refine svw hK hF (v_assign rfl) rfl ?_; clear hF a hK K; intro a hF
  replace hF := hF.sub _ (c_ 4 rfl (c_ 3 rfl (c_ 0 rfl (c_ 1 rfl (c_ 9 rfl (c_ 10 rfl n_))))))
  refine W_seq ?_
  refine W_sr rfl fun K hK => ?_
  refine sv3w hK hF (v_load sc134 rfl hk.c) (v_lenS rfl sl134 rfl) (v_move rfl) rfl rfl rfl ?_; clear hF a hK K; intro a hF
  replace hF := hF.sub _ (c_ 18 rfl (c_ 17 rfl (c_ 4 rfl (c_ 3 rfl (c_ 0 rfl (c_ 1 rfl (c_ 9 rfl (c_ 10 rfl n_))))))))
  refine W_block ?_
  refine W_loop (fun m2 a w2 => ∃ (i : Nat), Fr 37 [(0, .func (.yield l) #[] #[]), (1, .pointer (some ⟨pb, 0, none⟩)), (3, .int .i64 (j : Int)), (4, .slice (some ⟨gO, 0, none⟩) mt.length mt.length), (9, .int .i64 (wid mt : Int)), (10, .int .i64 (j : Int)), (17, .int .i64 (mt.length : Int)), (18, .int .i64 (i : Int))] a ∧ (StZ FDx B Z w0 w2) ∧ (KC FDx B w2 ⟨pb, 0, none⟩ (.slice pmt mt.length cmt)) ∧ (Mat FDx B M w2 pmt cmt mt) ∧ (St FDx B wJ w2) ∧ (Gam.Own FDx B wJ.heap.size w2 FDx.E (.slice (some ⟨gO, 0, none⟩) mt.length mt.length) (some gO) (zints (cfill mt j i))) ∧ (i ≤ mt.length) ∧ (m2 + i = mt.length)) (mt.length) ?_ ?_
  · skip
    exact ⟨0, hF.sub _ (c_ 0 rfl (c_ 1 rfl (c_ 3 rfl (c_ 4 rfl (c_ 9 rfl (c_ 10 rfl (c_ 17 rfl (c_ 18 rfl n_)))))))), hS, hk, hA, hSJ, hO, by omega, by omega⟩
  skip
  clear hF
  clear hS hk hA hSJ hO
  rintro m2 a w2 ⟨i, hF, hS, hk, hA, hSJ, hO, hi2, hm2⟩
  refine W_sr rfl fun K hK => ?_
  refine svw hK hF (v_lss rfl rfl) rfl ?_; clear hF a hK K; intro a hF
  refine W_seq ?_
  refine W_if hF rfl (fun hc2 => ?_) (fun hc2 => ?_)
  ·
   skip
   try simp only [dcl] at hc2
   have hlt2 : i < mt.length := by omega
   obtain ⟨r, hr⟩ : ∃ r, mt[i]? = some r := ⟨_, List.getElem?_eq_getElem hlt2⟩
   obtain ⟨gr, or_, pr, cr, hgr, hkr, hrow, hgrM⟩ := hA.row hr
   have hrl := hwd r (List.mem_of_getElem? hr)
   obtain ⟨x, hx⟩ : ∃ x, r[j]? = some x := ⟨_, List.getElem?_eq_getElem (by omega)⟩
   obtain ⟨gx, ox, hgx, hkx, -⟩ := hrow.kat (zints_at hx)
   have hcl := cfill_len (j := j) (show i ≤ mt.length by omega)
   subst hgx
   refine W_skip ?_
   refine W_seq ?_
   refine W_block ?_
   refine W_sr rfl fun K hK => ?_
   refine sv2w hK hF (v_move rfl) (v_assign rfl) rfl rfl ?_; clear hF a hK K; intro a hF
   replace hF := hF.sub _ (c_ 5 rfl (c_ 0 rfl (c_ 1 rfl (c_ 3 rfl (c_ 4 rfl (c_ 9 rfl (c_ 10 rfl (c_ 17 rfl (c_ 18 rfl n_)))))))))
   refine W_reg rfl fun K hK => ?_
   refine sv3 hF (v_move rfl) (v_move rfl) (v_load sc134 rfl hk.c) rfl rfl rfl ?_; clear hF a; intro a hF
   rw [hgr] at hF
   refine sv2 hF (v_move rfl) (v_ixS sl134 rfl rfl (by omega) (by omega)) rfl rfl ?_; clear hF a; intro a hF
   refine sv hF (v_load sc49 rfl (by rw [toNat_c]; exact hkr.c)) rfl ?_; clear hF a; intro a hF
   refine sv2 hF (v_move rfl) (v_ixS sl49 rfl rfl (by omega) (by omega)) rfl rfl ?_; clear hF a; intro a hF
   refine sv hF (v_load sc3 rfl (by rw [toNat_c]; exact hkx.c)) rfl ?_; clear hF a; intro a hF
   refine sv hF (v_ixS sl49 rfl rfl (by omega) (by omega)) rfl ?_; clear hF a; intro a hF
   refine s_set (D := FDx) (B := B) hF on3 rfl (by rw [toNat_c, zints_length, hcl]; omega) rfl rfl hO (by decide) hS.inv ?_; intro w' hm hI' ho'
   replace hk := hk.mb hm (fun e => hzp (by cases e; exact hZ _ (Nat.le_trans hz0 (hO.lt _ rfl).1)))
   replace hA := hA.mb hm (fun k h => Nat.le_trans (by omega) (hO.lt k h).1)
   replace hSJ := hSJ.mb hm (fun k h => Nat.le_trans (Nat.le_refl _) (hO.lt k h).1)
   replace hS := hS.mb hm (fun k e => ⟨hZ k (by have := (hO.lt k e).1; omega), hO.isrow k e⟩)
   replace hO := ho'
   clear hm hI' ho'
   rw [toNat_c, Nat.zero_add, zints_set, cfill_step hr hx] at hO
   refine wn hK ?_
   clear hK K
   replace hF := hF.sub _ (c_ 0 rfl (c_ 1 rfl (c_ 3 rfl (c_ 4 rfl (c_ 9 rfl (c_ 10 rfl (c_ 17 rfl (c_ 18 rfl n_))))))))
   refine W_reg rfl fun K hK => ?_
   refine sv2w hK hF (v_addI rfl rfl (by omega)) (v_move rfl) rfl rfl ?_; clear hF a hK K; intro a hF
   exact ⟨m2 - 1, by omega, i + 1, hF.sub _ (c_ 0 rfl (c_ 1 rfl (c_ 3 rfl (c_ 4 rfl (c_ 9 rfl (c_ 10 rfl (c_ 17 rfl (c_ 18 rfl n_)))))))), hS, hk, hA, hSJ, hO, by omega, by omega⟩
  skip
  try simp only [dcl] at hc2
  refine W_exit rfl ?_
  obtain rfl : i = mt.length := by omega
  rw [cfill_all] at hO
  refine W_srY rfl (fun K hK => ?_)
  refine svI hF rfl (v_move rfl) rfl ?_; clear hF a; intro a hF
  refine svI hF rfl (v_move rfl) rfl ?_; clear hF a; intro a hF
  refine syI hF rfl rfl rfl ((hY j _ _ _ (cols_at hlt) (hJs _ _ _ hJ hSJ) hS ⟨_, hO.le (Nat.zero_le _)⟩).mono (fun b w' hb => ?_))
  rcases hb with ⟨rfl, hJ', hz⟩ | ⟨rfl, hX'⟩
  ·
   skip
   clear hF; intro a hF
   refine WLI_of rfl ?_
   replace hk := hk.stz hz hzp
   replace hA := hA.stz hz hzM
   replace hS := hS.transZ hz
   replace hJ := hJ'
   clear hSJ hO
   refine svw hK hF (v_not rfl) rfl ?_; clear hF a hK K; intro a hF
   replace hF := hF.sub _ (c_ 35 rfl (c_ 34 rfl (c_ 33 rfl (c_ 32 rfl (c_ 0 rfl (c_ 1 rfl (c_ 3 rfl (c_ 4 rfl (c_ 9 rfl (c_ 10 rfl (c_ 17 rfl (c_ 18 rfl n_))))))))))))
   refine W_ifF hF rfl ?_
   refine W_skip ?_
   refine W_reg rfl fun K hK => ?_
   refine sv2w hK hF (v_addI rfl rfl (by omega)) (v_move rfl) rfl rfl ?_; clear hF a hK K; intro a hF
   exact ⟨m - 1, by omega, j + 1, hF.sub _ (c_ 0 rfl (c_ 1 rfl (c_ 9 rfl (c_ 10 rfl n_)))), hS, hk, hA, hJ, by omega, by omega⟩
  skip
  clear hF; intro a hF
  refine WLI_of rfl ?_
  clear hSJ hO
  refine svw hK hF (v_not rfl) rfl ?_; clear hF a hK K; intro a hF
  replace hF := hF.sub _ (c_ 35 rfl (c_ 34 rfl (c_ 33 rfl (c_ 32 rfl (c_ 0 rfl (c_ 1 rfl (c_ 3 rfl (c_ 4 rfl (c_ 9 rfl (c_ 10 rfl (c_ 17 rfl (c_ 18 rfl n_))))))))))))
  refine W_ifT hF rfl ?_
  refine W_ret ?_
  refine ⟨_, hF, ?_⟩
  exact .inr ⟨_, hX'⟩
 skip
 try simp only [dcl] at hc1
 refine W_exit rfl ?_
 refine ⟨_, hF, ?_⟩
 obtain rfl : j = wid mt := by omega
 exact .inl ⟨hJs _ _ _ hJ hSJ, hS⟩
theorem columns_seq (B M pb : Nat) (pmt : Option Addr) (cmt : Nat) (mt : Mtx) (Z : Nat → Prop) (w0 : World) (hk : KC FDx B w0 ⟨pb, 0, none⟩ (.slice pmt mt.length cmt)) (hA : Mat FDx B M w0 pmt cmt mt) (hzp : ¬ Z pb) (hzM : ∀ k, k < M → ¬ Z k) (hZ : ∀ k, w0.heap.size ≤ k → Z k) (hMw : M ≤ w0.heap.size) (hwd : ∀ r ∈ mt, r.length = wid mt) (hml : 1 ≤ mt.length ∧ mt.length ≤ 1000) (hwl : wid mt ≤ 1000) :
  Seq Tryz.prog FDx B 362 [.pointer (some ⟨pb, 0, none⟩)] (encR FDx B) ((List.range (wid mt)).map (colAt mt)) Z w0 := by
 intro l J Jx W hl hW hJs hY h0
 have := columns1_ok B M pb l pmt cmt mt Z J Jx w0 W hW.z (hk.st hW) (hA.st hW) hzp hzM hZ hMw hwd hml hwl hJs hY h0
 refine Calls.mono this ?_
 rintro e A' ⟨v, rfl, h⟩
 refine ⟨v, rfl, ?_⟩
 rw [show ((List.range (wid mt)).map (colAt mt)).length = wid mt by simp]
 exact h
end Go.Proofs.YtoabojbpeafdkaaGreatDoor
/- The walk of package matrix: Mul. -/
namespace Go.Proofs.YtoabojbpeafdkaaGreatDoor
open Go Go.Gam
namespace FxFMatD
theorem en193 : Ent Tryz.prog 193 := ent Tryz.func193 (by kernel_rfl) (by kernel_rfl)
theorem en321 : Ent Tryz.prog 321 := ent Tryz.func321 (by kernel_rfl) (by kernel_rfl)
theorem en322 : Ent Tryz.prog 322 := ent Tryz.func322 (by kernel_rfl) (by kernel_rfl)
theorem hmix : Tryz.prog.follows .mixedOrders = true := by kernel_rfl
theorem on49 : Gam.One Tryz.prog 49 := by unfold Gam.One; kernel_rfl
theorem sc138 : Scalar Tryz.prog 138 := ⟨_, Tryz.underlying138, by simp, by simp⟩
theorem sc49 : Scalar Tryz.prog 49 := ⟨_, Tryz.underlying49, by simp, by simp⟩
theorem sl134 : Sl Tryz.prog 134 49 (.slice none 0 0) 24 := sl_of Tryz.underlying134 rfl (by kernel_rfl)
theorem sl49 : Sl Tryz.prog 49 3 (.int .i64 0) 8 := sl_of Tryz.underlying49 rfl (by kernel_rfl)
theorem zv49 : Zv Tryz.prog 49 (.slice none 0 0) := zv_of rfl (by kernel_rfl)
end FxFMatD
open FxFMatD
theorem MulM_ok (B M : Nat) (o : Fq) (fv : Value) (pma : Option Addr) (cma : Nat) (ma : Mtx) (pmb : Option Addr) (cmb : Nat) (mb : Mtx) (w : World) (hI : Inv FDx B w) (hM : M ≤ w.heap.size) (hf : Fo FDx B w fv o) (hAma : Mat FDx B M w pma cma ma) (hlma : ma.length ≤ maxLen) (hbma : ∀ r ∈ ma, r.length ≤ maxLen) (hAmb : Mat FDx B M w pmb cmb mb) (hlmb : mb.length ≤ maxLen) (hbmb : ∀ r ∈ mb, r.length ≤ maxLen) : Ret Tryz.prog 277 [fv, .slice pma ma.length cma, .slice pmb mb.length cmb] w fun v w' => ∃ ob u, v = .tuple #[u, .int .i64 (errV (mulM o ma mb))] ∧ MOwn FDx B w.heap.size w.heap.size w'.heap.size w' 49 u ob ((mulM o ma mb).getD []) ∧ St FDx B w w' := by
 refine enterM2 (D := FDx) (B := B) w.heap.size 54 [(0, fv), (1, .slice pma ma.length cma), (2, .slice pmb mb.length cmb)] 6 7 Tryz.func277 rfl rfl rfl rfl rfl ?_; intro a hF
 have hS := St.refl hI
 have hl2 := hlma
 have hl3 := hlmb
 simp only [maxLen] at hl2 hl3
 have hMk := Mk.nil w.heap.size w
 refine W_sr rfl fun K hK => ?_
 obtain ⟨g3, hg3⟩ : ∃ g, g = w.heap.size := ⟨_, rfl⟩
 refine s_boxN (D := FDx) (B := B) hF rfl (hf.cells1) (by decide) hS.inv rfl ?_; clear hF a; intro w' a hm hI' hb3 hsz hF
 replace hf := hf.mb hm
 replace hAma := hAma.mb hm (fun _ h => by cases h)
 replace hAmb := hAmb.mb hm (fun _ h => by cases h)
 replace hMk := hMk.mb hm (fun k e => by cases e)
 replace hS := hS.mb0 hm
 clear hm hI' hsz
 rw [← hg3] at hb3 hF
 refine sv2w hK hF (v_assign rfl) (v_assign rfl) rfl rfl ?_; clear hF a hK K; intro a hF
 replace hF := hF.sub _ (c_ 7 rfl (c_ 6 rfl (c_ 3 rfl (c_ 1 rfl (c_ 2 rfl n_)))))
 refine W_seq ?_
 refine W_sr rfl fun K hK => ?_
 refine sv hF (v_load sc138 rfl (by first | assumption | (rw [toNat_c]; assumption) | exact KC.c (by assumption) | (rw [toNat_c]; exact KC.c (by assumption)) | exact Box.at (by assumption))) rfl ?_; clear hF a; intro a hF
 refine sv hF (v_move rfl) rfl ?_; clear hF a; intro a hF
 refine sc hF rfl rfl rfl en193 rfl (May_ok B M o fv pma cma ma _ hS.inv hf hAma hlma hbma) ?_; clear hF a; intro v w' a hv hF
 obtain ⟨rfl, hS'⟩ := hv
 replace hf := hf.st hS'
 replace hAma := hAma.st hS'
 replace hAmb := hAmb.st hS'
 replace hMk := hMk.st hS'
 replace hb3 := hb3.st hS'
 replace hS := hS.trans hS'
 clear hS'
 refine sb hF (v_not rfl) rfl ?_ ?_
 ·
  clear hF a; intro hc1 a hF
  try simp only [dcl] at hc1
  refine sv hF (v_move rfl) rfl ?_; clear hF a; intro a hF
  refine svn4 hF rfl rfl rfl rfl rfl rfl rfl rfl rfl rfl rfl rfl ?_; clear hF a; intro a hF
  refine sv2 hF (v_pickT rfl rfl) (v_move rfl) rfl rfl ?_; clear hF a; intro a hF
  refine svn5 hF rfl rfl rfl rfl rfl rfl rfl rfl rfl rfl rfl rfl rfl rfl rfl ?_; clear hF a; intro a hF
  refine svn2 hF rfl rfl rfl rfl rfl rfl ?_; clear hF a; intro a hF
  refine svw hK hF (v_pickT rfl rfl) rfl ?_; clear hF a hK K; intro a hF
  replace hF := hF.sub _ (c_ 31 rfl (c_ 7 rfl (c_ 6 rfl (c_ 3 rfl (c_ 1 rfl (c_ 2 rfl n_))))))
  refine W_ifT hF rfl ?_
  refine W_sr rfl fun K hK => ?_
  refine sv2w hK hF (v_assign rfl) (v_assign rfl) rfl rfl ?_; clear hF a hK K; intro a hF
  replace hF := hF.sub _ (c_ 7 rfl (c_ 6 rfl (c_ 3 rfl (c_ 1 rfl (c_ 2 rfl n_)))))
  refine W_ret ?_
  refine ⟨_, _, _, _, hMk, hS.inv, hF, rfl, rfl, fun w2 hX => ?_⟩
  have hno : mulM o ma mb = none := mulM_f (.inl (by simpa using hc1))
  rw [hno]
  exact ⟨none, _, rfl, MOwn.nil _ _ _ _ _ _ _ (Nat.le_refl _), hS.thenX hX (Nat.le_refl _)⟩
 clear hF a; intro hc1 a hF
 try simp only [dcl] at hc1
 refine sv hF (v_move rfl) rfl ?_; clear hF a; intro a hF
 refine svg hF rfl ?_
 refine sv hF (v_load sc138 rfl (by first | assumption | (rw [toNat_c]; assumption) | exact KC.c (by assumption) | (rw [toNat_c]; exact KC.c (by assumption)) | exact Box.at (by assumption))) rfl ?_; clear hF a; intro a hF
 refine svg hF rfl ?_
 refine sv hF (v_move rfl) rfl ?_; clear hF a; intro a hF
 refine svg hF rfl ?_
 refine sc hF rfl rfl rfl en193 rfl (May_ok B M o fv pmb cmb mb _ hS.inv hf hAmb hlmb hbmb) ?_; clear hF a; intro v w' a hv hF
 obtain ⟨rfl, hS'⟩ := hv
 replace hf := hf.st hS'
 replace hAma := hAma.st hS'
 replace hAmb := hAmb.st hS'
 replace hMk := hMk.st hS'
 replace hb3 := hb3.st hS'
 replace hS := hS.trans hS'
 clear hS'
 refine svg hF rfl ?_
 refine sb hF (v_not rfl) rfl ?_ ?_
 ·
  clear hF a; intro hc2 a hF
  try simp only [dcl] at hc2
  refine sv2 hF (v_pickF rfl rfl) (v_move rfl) rfl rfl ?_; clear hF a; intro a hF
  refine svn5 hF rfl rfl rfl rfl rfl rfl rfl rfl rfl rfl rfl rfl rfl rfl rfl ?_; clear hF a; intro a hF
  refine svn2 hF rfl rfl rfl rfl rfl rfl ?_; clear hF a; intro a hF
  refine svw hK hF (v_pickT rfl rfl) rfl ?_; clear hF a hK K; intro a hF
  replace hF := hF.sub _ (c_ 31 rfl (c_ 7 rfl (c_ 6 rfl (c_ 3 rfl (c_ 1 rfl (c_ 2 rfl n_))))))
  refine W_ifT hF rfl ?_
  refine W_sr rfl fun K hK => ?_
  refine sv2w hK hF (v_assign rfl) (v_assign rfl) rfl rfl ?_; clear hF a hK K; intro a hF
  replace hF := hF.sub _ (c_ 7 rfl (c_ 6 rfl (c_ 3 rfl (c_ 1 rfl (c_ 2 rfl n_)))))
  refine W_ret ?_
  refine ⟨_, _, _, _, hMk, hS.inv, hF, rfl, rfl, fun w2 hX => ?_⟩
  have hno : mulM o ma mb = none := mulM_f (.inr (.inl (by simpa using hc2)))
  rw [hno]
  exact ⟨none, _, rfl, MOwn.nil _ _ _ _ _ _ _ (Nat.le_refl _), hS.thenX hX (Nat.le_refl _)⟩
 clear hF a; intro hc2 a hF
 try simp only [dcl] at hc2
 refine sv2 hF (v_pickF rfl rfl) (v_move rfl) rfl rfl ?_; clear hF a; intro a hF
 refine svg hF rfl ?_
 have hm1 : mayM o ma = true := by simpa using hc1
 have hm2 : mayM o mb = true := by simpa using hc2
 have hp1 := mayM_pos hm1
 have hp2 := mayM_pos hm2
 obtain ⟨rma, hrma⟩ : ∃ r, ma[0]? = some r := ⟨_, List.getElem?_eq_getElem (by omega)⟩
 obtain ⟨gma, oma, prma, crma, hgma, hkma, hrowma, -⟩ := hAma.row hrma
 have hwma := wid_at hrma
 rw [hgma] at hF
 refine sv hF (v_move rfl) rfl ?_; clear hF a; intro a hF
 refine svg hF rfl ?_
 refine sv hF (v_ixS sl134 rfl rfl (by decide) (by omega)) rfl ?_; clear hF a; intro a hF
 refine svg hF rfl ?_
 refine sv hF (v_load sc49 rfl hkma.c) rfl ?_; clear hF a; intro a hF
 refine svg hF rfl ?_
 refine sv hF (v_lenS rfl sl49 rfl) rfl ?_; clear hF a; intro a hF
 refine svg hF rfl ?_
 refine sv hF (v_move rfl) rfl ?_; clear hF a; intro a hF
 refine svg hF rfl ?_
 refine sv hF (v_lenS rfl sl134 rfl) rfl ?_; clear hF a; intro a hF
 refine svg hF rfl ?_
 refine sv2w hK hF (v_neq rfl rfl) (v_pickF rfl rfl) rfl rfl ?_; clear hF a hK K; intro a hF
 replace hF := hF.sub _ (c_ 31 rfl (c_ 7 rfl (c_ 6 rfl (c_ 3 rfl (c_ 1 rfl (c_ 2 rfl n_))))))
 refine W_if hF rfl (fun hc3 => ?_) (fun hc3 => ?_)
 ·
  skip
  try simp only [dcl] at hc3
  refine W_sr rfl fun K hK => ?_
  refine sv2w hK hF (v_assign rfl) (v_assign rfl) rfl rfl ?_; clear hF a hK K; intro a hF
  replace hF := hF.sub _ (c_ 7 rfl (c_ 6 rfl (c_ 3 rfl (c_ 1 rfl (c_ 2 rfl n_)))))
  refine W_ret ?_
  refine ⟨_, _, _, _, hMk, hS.inv, hF, rfl, rfl, fun w2 hX => ?_⟩
  have hno : mulM o ma mb = none := mulM_f (.inr (.inr (by rw [hwma]; omega)))
  rw [hno]
  exact ⟨none, _, rfl, MOwn.nil _ _ _ _ _ _ _ (Nat.le_refl _), hS.thenX hX (Nat.le_refl _)⟩
 skip
 try simp only [dcl] at hc3
 refine W_skip ?_
 rw [← hgma] at hF
 have hyes := mulM_t hm1 hm2 (by rw [hwma]; omega)
 refine W_sr rfl fun K hK => ?_
 refine svw hK hF (v_assign rfl) rfl ?_; clear hF a hK K; intro a hF
 replace hF := hF.sub _ (c_ 8 rfl (c_ 7 rfl (c_ 6 rfl (c_ 3 rfl (c_ 1 rfl (c_ 2 rfl n_))))))
 refine W_seq ?_
 refine W_sr rfl fun K hK => ?_
 refine sv3w hK hF (v_move rfl) (v_lenS rfl sl134 rfl) (v_move rfl) rfl rfl rfl ?_; clear hF a hK K; intro a hF
 replace hF := hF.sub _ (c_ 34 rfl (c_ 33 rfl (c_ 32 rfl (c_ 8 rfl (c_ 7 rfl (c_ 6 rfl (c_ 3 rfl (c_ 2 rfl n_))))))))
 refine W_block ?_
 refine W_loop (fun m a w1 => ∃ (i : Nat) (v8 : Value) (b8 : Option Nat) (ds : List Nat), Fr ⟨54, ds⟩ [(2, .slice pmb mb.length cmb), (3, .pointer (some ⟨g3, 0, none⟩)), (8, v8), (32, .slice pma ma.length cma), (33, .int .i64 (ma.length : Int)), (34, .int .i64 (i : Int))] a ∧ (St FDx B w w1) ∧ (Fo FDx B w1 fv o) ∧ (Mat FDx B M w1 pma cma ma) ∧ (Mat FDx B M w1 pmb cmb mb) ∧ (MOwn FDx B w.heap.size w.heap.size w1.heap.size w1 49 v8 b8 ((ma.take i).map (mulRow o mb))) ∧ (Mk w.heap.size ds w1) ∧ (Box FDx B g3 w1 g3 138 fv) ∧ (i ≤ ma.length) ∧ (m + i = ma.length)) (ma.length) ?_ ?_
 · skip
   exact ⟨0, _, none, _, hF.sub _ (c_ 2 rfl (c_ 3 rfl (c_ 8 rfl (c_ 32 rfl (c_ 33 rfl (c_ 34 rfl n_)))))), hS, hf, hAma, hAmb, MOwn.nil _ _ _ _ _ _ _ (Nat.le_refl _), hMk, hb3, by omega, by omega⟩
 skip
 clear hF
 clear hS hf hAma hAmb hMk hb3
 rintro m a w1 ⟨i, v8, b8, ds, hF, hS, hf, hAma, hAmb, hMO, hMk, hb3, hi, hm⟩
 obtain ⟨KM, hKe⟩ : ∃ KM, KM = w1.heap.size := ⟨_, rfl⟩
 rw [← hKe] at hMO
 have hKs : KM ≤ w1.heap.size := by omega
 have hNK : w.heap.size ≤ KM := by have := hS.ext.size; omega
 clear hKe
 refine W_sr rfl fun K hK => ?_
 refine svw hK hF (v_lss rfl rfl) rfl ?_; clear hF a hK K; intro a hF
 refine W_seq ?_
 refine W_if hF rfl (fun hc4 => ?_) (fun hc4 => ?_)
 ·
  skip
  try simp only [dcl] at hc4
  have hlt : i < ma.length := by omega
  obtain ⟨r, hr⟩ : ∃ z, ma[i]? = some z := ⟨_, List.getElem?_eq_getElem hlt⟩
  obtain ⟨gx, ox, pr, cr, hgx, hkc, hrow, -⟩ := hAma.row hr
  have hrl := (hp1.2.2.2.2 r (List.mem_of_getElem? hr)).1
  have hrz : (zints r).length = r.length := zints_length r
  refine W_skip ?_
  refine W_seq ?_
  refine W_block ?_
  have hg3l : g3 < w1.heap.size := heap_lt hb3.blk
  rw [hgx] at hF
  refine W_sr rfl fun K hK => ?_
  refine sv hF (v_ixS sl134 rfl rfl (by omega) (by omega)) rfl ?_; clear hF a; intro a hF
  rw [← hgx] at hF
  refine sv hF (v_load sc49 rfl (by rw [toNat_c]; exact hkc.c)) rfl ?_; clear hF a; intro a hF
  obtain ⟨g10, hg10⟩ : ∃ g, g = w1.heap.size := ⟨_, rfl⟩
  have hn10 : b8 ≠ some g10 := fun e => by have := (hMO.lt _ e).2; omega
  have hKg : KM ≤ g10 := by omega
  clear hkc
  refine s_alloc (D := FDx) (B := B) hF zv49 (by decide) hS.inv rfl ?_; clear hF a; intro w' a hm hI' hb10 hsz hF
  replace hf := hf.mb hm
  replace hAma := hAma.mb hm (fun _ h => by cases h)
  replace hAmb := hAmb.mb hm (fun _ h => by cases h)
  replace hMO := hMO.mb0 hm
  replace hMk := hMk.mb hm (fun k e => by cases e)
  replace hb3 := hb3.mb hm (by simp)
  replace hKs := Nat.le_trans hKs hm.size
  replace hrow := hrow.mb hm (fun _ h => by cases h)
  replace hS := hS.mb0 hm
  clear hm hI' hsz
  rw [← hg10] at hb10 hF
  refine s_stb (D := FDx) (B := B) hF on49 rfl rfl (rfl) hb10 hS.inv ?_; intro w' hm hI' hbx'
  replace hf := hf.mb hm
  replace hAma := hAma.mb hm (fun k h => by cases h; exact Nat.le_trans (by omega) hb10.low)
  replace hAmb := hAmb.mb hm (fun k h => by cases h; exact Nat.le_trans (by omega) hb10.low)
  replace hMO := hMO.mbx hm (by assumption) (by omega) (by omega)
  replace hMk := hMk.mb hm (fun k e => by cases e; exact ⟨_, _, _, hb10.blk⟩)
  replace hb3 := hb3.mb hm (by simp; omega)
  replace hKs := Nat.le_trans hKs hm.size
  replace hrow := hrow.mb hm (fun k h => by cases h; exact Nat.le_trans (by omega) hb10.low)
  replace hS := hS.mb hm (fun k h => by cases h; omega)
  replace hb10 := hbx'
  clear hm hI' hbx'
  have hl10 := heap_lt hb10.blk
  refine wn hK ?_
  clear hK K
  replace hF := hF.sub _ (c_ 10 rfl (c_ 2 rfl (c_ 3 rfl (c_ 8 rfl (c_ 32 rfl (c_ 33 rfl (c_ 34 rfl n_)))))))
  refine W_sr rfl fun K hK => ?_
  obtain ⟨g11, hg11⟩ : ∃ g, g = w'.heap.size := ⟨_, rfl⟩
  have hn11 : b8 ≠ some g11 := fun e => by have := (hMO.lt _ e).2; omega
  refine s_alloc (D := FDx) (B := B) hF zv49 (by decide) hS.inv rfl ?_; clear hF a; intro w' a hm hI' hb11 hsz hF
  replace hf := hf.mb hm
  replace hAma := hAma.mb hm (fun _ h => by cases h)
  replace hAmb := hAmb.mb hm (fun _ h => by cases h)
  replace hMO := hMO.mb0 hm
  replace hMk := hMk.mb hm (fun k e => by cases e)
  replace hb3 := hb3.mb hm (by simp)
  replace hKs := Nat.le_trans hKs hm.size
  replace hrow := hrow.mb hm (fun _ h => by cases h)
  replace hb10 := hb10.mb hm (by simp)
  replace hS := hS.mb0 hm
  clear hm hI' hsz
  rw [← hg11] at hb11 hF
  have hl11 := heap_lt hb11.blk
  refine wn hK ?_
  clear hK K
  refine W_seq ?_
  refine W_sr rfl fun K hK => ?_
  refine sv hF (v_move rfl) rfl ?_; clear hF a; intro a hF
  refine sc hF rfl rfl rfl en321 rfl (columns_ok B pmb cmb mb _ hS.inv) ?_; clear hF a; intro v w' a hv hF
  obtain ⟨pb, rfl, hpb, hkb, hS'⟩ := hv
  replace hf := hf.st hS'
  replace hAma := hAma.st hS'
  replace hAmb := hAmb.st hS'
  replace hMO := hMO.st (by decide) hS'
  replace hMk := hMk.st hS'
  replace hb3 := hb3.st hS'
  replace hKs := Nat.le_trans hKs hS'.ext.size
  replace hrow := hrow.st hS'
  replace hb10 := hb10.st hS'
  replace hb11 := hb11.st hS'
  replace hS := hS.trans hS'
  clear hS'
  refine wn hK ?_
  clear hK K
  replace hF := hF.sub _ (c_ 39 rfl (c_ 11 rfl (c_ 10 rfl (c_ 2 rfl (c_ 3 rfl (c_ 8 rfl (c_ 32 rfl (c_ 33 rfl (c_ 34 rfl n_)))))))))
  obtain ⟨nr, hnr⟩ : ∃ n, n = w'.heap.size := ⟨_, rfl⟩
  have hsw := hS.ext.size
  have hds : ∀ d ∈ ds, d < w'.heap.size := fun d hd => heap_lt (hMk.2 d hd).2
  have hpl := hkb.2.1
  have hpl2 : pb < w'.heap.size := hpl
  refine W_block ?_
  refine W_rf (D := FDx) (B := B) (fun k A => ∃ v11 b11, Box FDx B g11 A g11 49 v11 ∧ Gam.Own FDx B nr A FDx.E v11 b11 (zints ((mulRow o mb r).take k)) ∧ St FDx B w A ∧ Mk w.heap.size ds A ∧ Box FDx B g3 A g3 138 fv ∧ Box FDx B g10 A g10 49 (.slice pr r.length cr) ∧ Fo FDx B A fv o ∧ Row FDx B M A (.slice pr r.length cr) (zints r) ∧ Mat FDx B M A pma cma ma ∧ Mat FDx B M A pmb cmb mb ∧ MOwn FDx B w.heap.size w.heap.size KM A 49 v8 b8 ((ma.take i).map (mulRow o mb))) (fun _ => False) (fun v a2 _ => Fr ⟨54, []⟩ [(3, .pointer (some ⟨g3, 0, none⟩)), (10, .pointer (some ⟨g10, 0, none⟩)), (11, .pointer (some ⟨g11, 0, none⟩)), (12, v)] a2) hF rfl rfl (ent Tryz.func362 (by kernel_rfl) (by kernel_rfl)) hS.inv (columns_seq B M pb _ cmb mb (fun k => k = g11 ∨ w'.heap.size ≤ k) _ hkb hAmb (by rintro (h | h) <;> omega) (by rintro k h (h2 | h2) <;> omega) (fun k h => .inr h) (by omega) (fun r hr => (hp2.2.2.2.2 r hr).1) (by omega) (by omega)) (fun k h => .inr h) ?_ ?_ ?_ ?_ (⟨_, none, hb11, Gam.Own.nil _ _ _ _ _, hS, hMk, hb3, hb10, hf, hrow, hAma, hAmb, hMO⟩) ?_ ?_ ?_ ?_
  · rintro k A C ⟨v11, b11, h1, h2, h3, h4, h5, h6, h7, h8, h9, h10, h11⟩ hX
    exact ⟨v11, b11, h1.xt hX, h2.xt (by decide) hX, h3.thenX hX hsw, h4.xt hX hds, h5.xt hX, h6.xt hX, h7.xt hX, h8.xt hX, h9.xt hX, h10.xt hX, h11.xt (by decide) hX⟩
  · exact fun _ _ h _ => h
  · exact fun _ _ _ _ h _ => h
  · exact fun x v A C h hX => h.xt hX
  ·
   skip
   clear hF hS
   intro l i x v A a hx hJ hIA he hF
   have hS := St.refl hIA
   refine Rd.W_reg rfl rfl (fun K hK => ?_)
   refine svw hK hF (v_assign rfl) rfl ?_; clear hF a hK K; intro a hF
   replace hF := hF.sub _ (c_ 12 rfl (c_ 11 rfl (c_ 10 rfl (c_ 3 rfl n_))))
   exact ⟨hS, hF.sub _ (c_ 3 rfl (c_ 10 rfl (c_ 11 rfl (c_ 12 rfl n_))))⟩
  ·
   skip
   clear hF hS hMk hb3 hb10 hb11 hf hrow hAma hAmb hMO
   rintro l k x v A a hx ⟨v11, b11, hb11, hO, hSw, hMk, hb3, hb10, hf, hrow, hAma, hAmb, hMO⟩ hz0 he hF
   obtain ⟨hk, rfl⟩ := cols_get hx
   obtain ⟨bc, hC⟩ := he
   obtain ⟨pc, cc, rfl⟩ := hC.shape
   have hc := hC.row (by decide)
   clear hC
   have hcl : (zints (colAt mb k)).length = (colAt mb k).length := zints_length _
   have hcl2 := colAt_length mb k
   have hml := mulRow_length o mb r
   have hnA : nr ≤ A.heap.size := by have := hz0.ext.size; omega
   have hS : StZ FDx B (fun k => k = g11 ∨ w'.heap.size ≤ k) A A := StZ.refl hSw.inv
   rw [hcl] at hc hF
   refine Rd.W_block ?_
   refine Rd.W_dS (fun w2 => w2.cell? ⟨g3, 0, none⟩ = some fv ∧ w2.cell? ⟨g10, 0, none⟩ = some (.slice pr r.length cr)) (m := 8) rfl hmix rfl (fun K hK => ?_)
   have hS' := St.drew hS.inv
   replace hb11 := hb11.st hS'
   replace hO := hO.st (by decide) hS'
   replace hSw := hSw.trans hS'
   replace hMk := hMk.st hS'
   replace hb3 := hb3.st hS'
   replace hb10 := hb10.st hS'
   replace hf := hf.st hS'
   replace hrow := hrow.st hS'
   replace hAma := hAma.st hS'
   replace hAmb := hAmb.st hS'
   replace hMO := hMO.st (by decide) hS'
   replace hc := (hc.st hS').mono hS'.ext.size
   replace hnA := Nat.le_trans hnA hS'.ext.size
   replace hS := hS.trans hS'
   clear hS'
   have hSS := And.intro hb3.at hb10.at
   refine b_v (i := 1) rfl (by kernel_rfl) hF (fun w2 hx => v_load sc138 rfl hx.1) rfl hSS ?_; clear hF a; intro a hF
   refine b_v (i := 2) rfl (by kernel_rfl) hF (fun w2 hx => v_load sc49 rfl hx.2) rfl hSS ?_; clear hF a; intro a hF
   refine b_v (i := 3) rfl (by kernel_rfl) hF (fun w2 hx => v_move rfl) rfl hSS ?_; clear hF a; intro a hF
   refine b_e2 (i := 0) (i' := 4) (by kernel_rfl) rfl rfl ?_ ?_
   ·
    skip
    refine sv hF (v_load sc49 rfl hb11.at) rfl ?_; clear hF a; intro a hF
    refine WL_nil ⟨hSS, ?_⟩
    refine b_e (i := 4) (by kernel_rfl) rfl ?_
    refine sc hF rfl rfl rfl en322 rfl (dot_ok B M _ o fv pr cr r pc cc (colAt mb k) _ hS.inv hf hrow hc (by omega) (by omega)) ?_; clear hF a; intro v w' a hv hF
    obtain ⟨rfl, hS'⟩ := hv
    replace hb11 := hb11.st hS'
    replace hO := hO.st (by decide) hS'
    replace hSw := hSw.trans hS'
    replace hMk := hMk.st hS'
    replace hb3 := hb3.st hS'
    replace hb10 := hb10.st hS'
    replace hf := hf.st hS'
    replace hrow := hrow.st hS'
    replace hAma := hAma.st hS'
    replace hAmb := hAmb.st hS'
    replace hMO := hMO.st (by decide) hS'
    replace hc := (hc.st hS').mono hS'.ext.size
    replace hnA := Nat.le_trans hnA hS'.ext.size
    replace hS := hS.trans hS'
    clear hS'
    clear hSS
    have hSS := And.intro hb3.at hb10.at
    refine WL_nil ⟨hSS, ?_⟩
    refine b_e (i := 5) (by kernel_rfl) rfl ?_
    refine s_bs (D := FDx) (B := B) hF sl49 rfl rfl (by decide) (by simp [Value.cells]) (by decide) hS.inv rfl ?_; clear hF a; intro w' a hm hI' hL hF
    replace hb11 := hb11.mb hm (by simp)
    replace hO := hO.mb hm (fun _ _ => by simp)
    replace hSw := hSw.mb0 hm
    replace hMk := hMk.mb hm (fun k e => by cases e)
    replace hb3 := hb3.mb hm (by simp)
    replace hb10 := hb10.mb hm (by simp)
    replace hf := hf.mb hm
    replace hrow := hrow.mb hm (fun _ h => by cases h)
    replace hAma := hAma.mb hm (fun _ h => by cases h)
    replace hAmb := hAmb.mb hm (fun _ h => by cases h)
    replace hMO := hMO.mb0 hm
    replace hnA := Nat.le_trans hnA hm.size
    replace hS := hS.mb0 hm
    clear hm hI'
    clear hSS
    have hSS := And.intro hb3.at hb10.at
    refine WL_nil ⟨hSS, ?_⟩
    refine b_e (i := 6) (by kernel_rfl) rfl ?_
    refine s_app (D := FDx) (B := B) hF rfl sl49 rfl rfl hO (hL.row (by decide)) (by simp [Value.oneCell']) (by simp; omega) (by simp [maxLen]; omega) (hnA) (by decide) hS.inv rfl ?_; clear hF a; intro v' b' w' a ho' hm hI' hb' hF
    replace hb11 := hb11.mb hm (hb11.ne_own hO (by decide))
    replace hSw := hSw.mb hm (fun k h => Nat.le_trans (by omega) (hO.lt k h).1)
    replace hMk := hMk.mb hm hO.isrow
    replace hb3 := hb3.mb hm (hb3.ne_own hO (by decide))
    replace hb10 := hb10.mb hm (hb10.ne_own hO (by decide))
    replace hf := hf.mb hm
    replace hrow := hrow.mb hm (fun k h => Nat.le_trans (by omega) (hO.lt k h).1)
    replace hAma := hAma.mb hm (fun k h => Nat.le_trans (by omega) (hO.lt k h).1)
    replace hAmb := hAmb.mb hm (fun k h => Nat.le_trans (by omega) (hO.lt k h).1)
    replace hMO := hMO.mbo hm hO (by decide) (by omega) (by omega)
    replace hnA := Nat.le_trans hnA hm.size
    replace hS := hS.mb hm (fun k h => ⟨.inr (by have := (hO.lt k h).1; omega), hO.isrow k h⟩)
    replace hO := ho'
    clear hm hI' ho'
    clear hSS
    have hSS := And.intro hb3.at hb10.at
    refine WL_nil ⟨hSS, ?_⟩
    refine b_e (i := 7) (by kernel_rfl) rfl ?_
    refine s_stb (D := FDx) (B := B) hF on49 rfl rfl (by obtain ⟨_, _, rfl⟩ := hO.shape; rfl) hb11 hS.inv ?_; intro w' hm hI' hbx'
    replace hO := hO.mb hm ((fun k e e2 => hb11.ne_own hO (by decide) (e.trans e2.symm)))
    replace hSw := hSw.mb hm (fun k h => by cases h; omega)
    replace hMk := hMk.mb hm (fun k e => by cases e; exact ⟨_, _, _, hb11.blk⟩)
    replace hb3 := hb3.mb hm (by simp; omega)
    replace hb10 := hb10.mb hm (by simp; omega)
    replace hf := hf.mb hm
    replace hrow := hrow.mb hm (fun k h => by cases h; exact Nat.le_trans (by omega) hb11.low)
    replace hAma := hAma.mb hm (fun k h => by cases h; exact Nat.le_trans (by omega) hb11.low)
    replace hAmb := hAmb.mb hm (fun k h => by cases h; exact Nat.le_trans (by omega) hb11.low)
    replace hMO := hMO.mbx hm (by assumption) (by omega) (by omega)
    replace hnA := Nat.le_trans hnA hm.size
    replace hS := hS.mb hm (fun k h => ⟨.inl (by cases h; rfl), by cases h; exact ⟨_, _, _, hb11.blk⟩⟩)
    replace hb11 := hbx'
    clear hm hI' hbx'
    clear hSS
    have hSS := And.intro hb3.at hb10.at
    refine WL_nil ⟨hSS, ?_⟩
    refine b_done (by kernel_rfl) (hK _ _ ?_)
    clear hK K
    replace hF := hF.sub _ n_
    exact ⟨⟨_, _, hb11, hO.cast (by rw [mulRow_snoc hk]; simp [zints]), hSw, hMk, hb3, hb10, hf, hrow, hAma, hAmb, hMO⟩, hS⟩
   skip
   refine sc hF rfl rfl rfl en322 rfl (dot_ok B M _ o fv pr cr r pc cc (colAt mb k) _ hS.inv hf hrow hc (by omega) (by omega)) ?_; clear hF a; intro v w' a hv hF
   obtain ⟨rfl, hS'⟩ := hv
   replace hb11 := hb11.st hS'
   replace hO := hO.st (by decide) hS'
   replace hSw := hSw.trans hS'
   replace hMk := hMk.st hS'
   replace hb3 := hb3.st hS'
   replace hb10 := hb10.st hS'
   replace hf := hf.st hS'
   replace hrow := hrow.st hS'
   replace hAma := hAma.st hS'
   replace hAmb := hAmb.st hS'
   replace hMO := hMO.st (by decide) hS'
   replace hc := (hc.st hS').mono hS'.ext.size
   replace hnA := Nat.le_trans hnA hS'.ext.size
   replace hS := hS.trans hS'
   clear hS'
   clear hSS
   have hSS := And.intro hb3.at hb10.at
   refine WL_nil ⟨hSS, ?_⟩
   refine b_e2 (i := 0) (i' := 5) (by kernel_rfl) rfl rfl ?_ ?_
   ·
    skip
    refine sv hF (v_load sc49 rfl hb11.at) rfl ?_; clear hF a; intro a hF
    refine WL_nil ⟨hSS, ?_⟩
    refine b_e (i := 5) (by kernel_rfl) rfl ?_
    refine s_bs (D := FDx) (B := B) hF sl49 rfl rfl (by decide) (by simp [Value.cells]) (by decide) hS.inv rfl ?_; clear hF a; intro w' a hm hI' hL hF
    replace hb11 := hb11.mb hm (by simp)
    replace hO := hO.mb hm (fun _ _ => by simp)
    replace hSw := hSw.mb0 hm
    replace hMk := hMk.mb hm (fun k e => by cases e)
    replace hb3 := hb3.mb hm (by simp)
    replace hb10 := hb10.mb hm (by simp)
    replace hf := hf.mb hm
    replace hrow := hrow.mb hm (fun _ h => by cases h)
    replace hAma := hAma.mb hm (fun _ h => by cases h)
    replace hAmb := hAmb.mb hm (fun _ h => by cases h)
    replace hMO := hMO.mb0 hm
    replace hnA := Nat.le_trans hnA hm.size
    replace hS := hS.mb0 hm
    clear hm hI'
    clear hSS
    have hSS := And.intro hb3.at hb10.at
    refine WL_nil ⟨hSS, ?_⟩
    refine b_e (i := 6) (by kernel_rfl) rfl ?_
    refine s_app (D := FDx) (B := B) hF rfl sl49 rfl rfl hO (hL.row (by decide)) (by simp [Value.oneCell']) (by simp; omega) (by simp [maxLen]; omega) (hnA) (by decide) hS.inv rfl ?_; clear hF a; intro v' b' w' a ho' hm hI' hb' hF
    replace hb11 := hb11.mb hm (hb11.ne_own hO (by decide))
    replace hSw := hSw.mb hm (fun k h => Nat.le_trans (by omega) (hO.lt k h).1)
    replace hMk := hMk.mb hm hO.isrow
    replace hb3 := hb3.mb hm (hb3.ne_own hO (by decide))
    replace hb10 := hb10.mb hm (hb10.ne_own hO (by decide))
    replace hf := hf.mb hm
    replace hrow := hrow.mb hm (fun k h => Nat.le_trans (by omega) (hO.lt k h).1)
    replace hAma := hAma.mb hm (fun k h => Nat.le_trans (by omega) (hO.lt k h).1)
    replace hAmb := hAmb.mb hm (fun k h => Nat.le_trans (by omega) (hO.lt k h).1)
    replace hMO := hMO.mbo hm hO (by decide) (by omega) (by omega)
    replace hnA := Nat.le_trans hnA hm.size
    replace hS := hS.mb hm (fun k h => ⟨.inr (by have := (hO.lt k h).1; omega), hO.isrow k h⟩)
    replace hO := ho'
    clear hm hI' ho'
    clear hSS
    have hSS := And.intro hb3.at hb10.at
    refine WL_nil ⟨hSS, ?_⟩
    refine b_e (i := 7) (by kernel_rfl) rfl ?_
    refine s_stb (D := FDx) (B := B) hF on49 rfl rfl (by obtain ⟨_, _, rfl⟩ := hO.shape; rfl) hb11 hS.inv ?_; intro w' hm hI' hbx'
    replace hO := hO.mb hm ((fun k e e2 => hb11.ne_own hO (by decide) (e.trans e2.symm)))
    replace hSw := hSw.mb hm (fun k h => by cases h; omega)
    replace hMk := hMk.mb hm (fun k e => by cases e; exact ⟨_, _, _, hb11.blk⟩)
    replace hb3 := hb3.mb hm (by simp; omega)
    replace hb10 := hb10.mb hm (by simp; omega)
    replace hf := hf.mb hm
    replace hrow := hrow.mb hm (fun k h => by cases h; exact Nat.le_trans (by omega) hb11.low)
    replace hAma := hAma.mb hm (fun k h => by cases h; exact Nat.le_trans (by omega) hb11.low)
    replace hAmb := hAmb.mb hm (fun k h => by cases h; exact Nat.le_trans (by omega) hb11.low)
    replace hMO := hMO.mbx hm (by assumption) (by omega) (by omega)
    replace hnA := Nat.le_trans hnA hm.size
    replace hS := hS.mb hm (fun k h => ⟨.inl (by cases h; rfl), by cases h; exact ⟨_, _, _, hb11.blk⟩⟩)
    replace hb11 := hbx'
    clear hm hI' hbx'
    clear hSS
    have hSS := And.intro hb3.at hb10.at
    refine WL_nil ⟨hSS, ?_⟩
    refine b_done (by kernel_rfl) (hK _ _ ?_)
    clear hK K
    replace hF := hF.sub _ n_
    exact ⟨⟨_, _, hb11, hO.cast (by rw [mulRow_snoc hk]; simp [zints]), hSw, hMk, hb3, hb10, hf, hrow, hAma, hAmb, hMO⟩, hS⟩
   skip
   refine s_bs (D := FDx) (B := B) hF sl49 rfl rfl (by decide) (by simp [Value.cells]) (by decide) hS.inv rfl ?_; clear hF a; intro w' a hm hI' hL hF
   replace hb11 := hb11.mb hm (by simp)
   replace hO := hO.mb hm (fun _ _ => by simp)
   replace hSw := hSw.mb0 hm
   replace hMk := hMk.mb hm (fun k e => by cases e)
   replace hb3 := hb3.mb hm (by simp)
   replace hb10 := hb10.mb hm (by simp)
   replace hf := hf.mb hm
   replace hrow := hrow.mb hm (fun _ h => by cases h)
   replace hAma := hAma.mb hm (fun _ h => by cases h)
   replace hAmb := hAmb.mb hm (fun _ h => by cases h)
   replace hMO := hMO.mb0 hm
   replace hnA := Nat.le_trans hnA hm.size
   replace hS := hS.mb0 hm
   clear hm hI'
   clear hSS
   have hSS := And.intro hb3.at hb10.at
   refine WL_nil ⟨hSS, ?_⟩
   refine b_e (i := 0) (by kernel_rfl) rfl ?_
   refine sv hF (v_load sc49 rfl hb11.at) rfl ?_; clear hF a; intro a hF
   refine WL_nil ⟨hSS, ?_⟩
   refine b_e (i := 6) (by kernel_rfl) rfl ?_
   refine s_app (D := FDx) (B := B) hF rfl sl49 rfl rfl hO (hL.row (by decide)) (by simp [Value.oneCell']) (by simp; omega) (by simp [maxLen]; omega) (hnA) (by decide) hS.inv rfl ?_; clear hF a; intro v' b' w' a ho' hm hI' hb' hF
   replace hb11 := hb11.mb hm (hb11.ne_own hO (by decide))
   replace hSw := hSw.mb hm (fun k h => Nat.le_trans (by omega) (hO.lt k h).1)
   replace hMk := hMk.mb hm hO.isrow
   replace hb3 := hb3.mb hm (hb3.ne_own hO (by decide))
   replace hb10 := hb10.mb hm (hb10.ne_own hO (by decide))
   replace hf := hf.mb hm
   replace hrow := hrow.mb hm (fun k h => Nat.le_trans (by omega) (hO.lt k h).1)
   replace hAma := hAma.mb hm (fun k h => Nat.le_trans (by omega) (hO.lt k h).1)
   replace hAmb := hAmb.mb hm (fun k h => Nat.le_trans (by omega) (hO.lt k h).1)
   replace hMO := hMO.mbo hm hO (by decide) (by omega) (by omega)
   replace hnA := Nat.le_trans hnA hm.size
   replace hS := hS.mb hm (fun k h => ⟨.inr (by have := (hO.lt k h).1; omega), hO.isrow k h⟩)
   replace hO := ho'
   clear hm hI' ho'
   clear hSS
   have hSS := And.intro hb3.at hb10.at
   refine WL_nil ⟨hSS, ?_⟩
   refine b_e (i := 7) (by kernel_rfl) rfl ?_
   refine s_stb (D := FDx) (B := B) hF on49 rfl rfl (by obtain ⟨_, _, rfl⟩ := hO.shape; rfl) hb11 hS.inv ?_; intro w' hm hI' hbx'
   replace hO := hO.mb hm ((fun k e e2 => hb11.ne_own hO (by decide) (e.trans e2.symm)))
   replace hSw := hSw.mb hm (fun k h => by cases h; omega)
   replace hMk := hMk.mb hm (fun k e => by cases e; exact ⟨_, _, _, hb11.blk⟩)
   replace hb3 := hb3.mb hm (by simp; omega)
   replace hb10 := hb10.mb hm (by simp; omega)
   replace hf := hf.mb hm
   replace hrow := hrow.mb hm (fun k h => by cases h; exact Nat.le_trans (by omega) hb11.low)
   replace hAma := hAma.mb hm (fun k h => by cases h; exact Nat.le_trans (by omega) hb11.low)
   replace hAmb := hAmb.mb hm (fun k h => by cases h; exact Nat.le_trans (by omega) hb11.low)
   replace hMO := hMO.mbx hm (by assumption) (by omega) (by omega)
   replace hnA := Nat.le_trans hnA hm.size
   replace hS := hS.mb hm (fun k h => ⟨.inl (by cases h; rfl), by cases h; exact ⟨_, _, _, hb11.blk⟩⟩)
   replace hb11 := hbx'
   clear hm hI' hbx'
   clear hSS
   have hSS := And.intro hb3.at hb10.at
   refine WL_nil ⟨hSS, ?_⟩
   refine b_done (by kernel_rfl) (hK _ _ ?_)
   clear hK K
   replace hF := hF.sub _ n_
   exact ⟨⟨_, _, hb11, hO.cast (by rw [mulRow_snoc hk]; simp [zints]), hSw, hMk, hb3, hb10, hf, hrow, hAma, hAmb, hMO⟩, hS⟩
  ·
   skip
   clear hF hS hb3 hb10 hb11 hf hrow hAma hAmb hMO
   rintro a W hF hD ⟨v11, b11, hb11, hO, hS, hMk2, hb3, hb10, hf, hrow, hAma, hAmb, hMO⟩ hz0
   replace hMk := Mk.cons (D := FDx) (B := B) hMk (Nat.le_refl _) hsw hMk2 hD
   clear hMk2 hD
   replace hO := hO.cast (show zints ((mulRow o mb r).take _) = zints (mulRow o mb r) by rw [List.length_map, List.length_range, List.take_of_length_le (by rw [mulRow_length]; omega)])
   replace hKs := Nat.le_trans hKs hz0.ext.size
   clear hz0
   refine W_reg rfl fun K hK => ?_
   refine sv hF (v_move rfl) rfl ?_; clear hF a; intro a hF
   refine sv hF (v_load sc49 rfl (by first | assumption | (rw [toNat_c]; assumption) | exact KC.c (by assumption) | (rw [toNat_c]; exact KC.c (by assumption)) | exact Box.at (by assumption))) rfl ?_; clear hF a; intro a hF
   obtain ⟨a_, c_r, rfl⟩ := hO.shape
   refine s_bs (D := FDx) (B := B) hF sl134 rfl rfl (by decide) (by simp [Value.cells]) (by decide) hS.inv rfl ?_; clear hF a; intro w' a hm hI' hL hF
   replace hb11 := hb11.mb hm (by simp)
   replace hO := hO.mb hm (fun _ _ => by simp)
   replace hMk := hMk.mb hm (fun k e => by cases e)
   replace hb3 := hb3.mb hm (by simp)
   replace hf := hf.mb hm
   replace hAma := hAma.mb hm (fun _ h => by cases h)
   replace hAmb := hAmb.mb hm (fun _ h => by cases h)
   replace hMO := hMO.mb0 hm
   replace hKs := Nat.le_trans hKs hm.size
   replace hS := hS.mb0 hm
   clear hm hI'
   replace hMO := hMO.up hKs
   clear hKs
   refine s_appM (D := FDx) (B := B) hF rfl sl134 rfl rfl hMO hL (.of hO (by omega)) rfl rfl (by simp; omega) (hS.ext.size) (by decide) (by decide) hS.inv rfl ?_; clear hF a; intro v' b' w' a ho' hm hI' hF
   replace hMk := hMk.mb hm hMO.isrow
   replace hb3 := hb3.mb hm (by obtain ⟨_, _, hO2, _⟩ := hMO.ex; exact hb3.ne_own hO2 (by decide))
   replace hf := hf.mb hm
   replace hAma := hAma.mb hm (fun k h => Nat.le_trans (by omega) (hMO.lt k h).1)
   replace hAmb := hAmb.mb hm (fun k h => Nat.le_trans (by omega) (hMO.lt k h).1)
   replace hS := hS.mb hm (fun k h => Nat.le_trans (Nat.le_refl _) (hMO.lt k h).1)
   have hKm := hm.size
   replace hMO := ho'
   clear hm hI' ho' hL
   refine svw hK hF (v_assign rfl) rfl ?_; clear hF a hK K; intro a hF
   replace hF := hF.sub _ (c_ 8 rfl (c_ 51 rfl (c_ 50 rfl (c_ 49 rfl (c_ 48 rfl (c_ 11 rfl (c_ 2 rfl (c_ 3 rfl (c_ 32 rfl (c_ 33 rfl (c_ 34 rfl n_)))))))))))
   refine W_reg rfl fun K hK => ?_
   refine sv2w hK hF (v_addI rfl rfl (by omega)) (v_move rfl) rfl rfl ?_; clear hF a hK K; intro a hF
   exact ⟨m - 1, by omega, i + 1, _, _, _, hF.sub _ (c_ 2 rfl (c_ 3 rfl (c_ 8 rfl (c_ 32 rfl (c_ 33 rfl (c_ 34 rfl n_)))))), hS, hf, hAma, hAmb, (hMO.up hKm).cast (map_snoc hr).symm, hMk, hb3, by omega, by omega⟩
  intro a1 w1 hF hD hj; exact hj.elim
 skip
 try simp only [dcl] at hc4
 refine W_exit rfl ?_
 refine W_sr rfl fun K hK => ?_
 refine sv3w hK hF (v_move rfl) (v_assign rfl) (v_assign rfl) rfl rfl rfl ?_; clear hF a hK K; intro a hF
 replace hF := hF.sub _ (c_ 7 rfl (c_ 6 rfl (c_ 53 rfl (c_ 2 rfl (c_ 3 rfl (c_ 8 rfl (c_ 32 rfl (c_ 33 rfl (c_ 34 rfl n_)))))))))
 refine W_ret ?_
 refine ⟨_, _, _, _, hMk, hS.inv, hF, rfl, rfl, fun w2 hX => ?_⟩
 obtain rfl : i = ma.length := by omega
 rw [List.take_length] at hMO
 rw [hyes]
 exact ⟨_, _, rfl, (hMO.xt (by decide) hX).up (Nat.le_trans hKs hX.size), hS.thenX hX (Nat.le_refl _)⟩
end Go.Proofs.YtoabojbpeafdkaaGreatDoor
/- Rows that a walk has made get the interpreter's names. No program in sight. -/
namespace Go.Iv
open Go Go.Gam
variable {W0 : Option Asked}
theorem hw_give {e : Env} {h : AH} {w : World} {r s : Nat} {c : AO} (hH : HW W0 e h w) (hr : r < w.heap.size) (hc : OR e s c w.heap[r]?)
  (hin : ∀ b o s', h.at b = some o → e b = some (r, s') → isRo o = true ∧ isRo c = true) (hpv : ∀ W, W0 = some W → PV W w r c) :
  Gr e h (ext e h.nx (r, s)) (h.new c) ∧ HW W0 (ext e h.nx (r, s)) (h.new c) w := by
 have hle := le_ext (x := (r, s)) (fresh hH)
 have old : ∀ b x, b ≠ h.nx → ext e h.nx (r, s) b = some x → e b = some x := fun b x hb hx => by simpa [ext, hb] using hx
 have new : ∀ x, ext e h.nx (r, s) h.nx = some x → x = (r, s) := fun x hx => by rw [ext_at] at hx; exact (Option.some.inj hx).symm
 refine ⟨gr_ext (fresh hH) rfl, ⟨⟨fun b o' hb r' s' he => ?_, fun b b' o1 o2 r1 s1 s2 h1 h2 e1 e2 hne => ?_, fun b r' s' he => ?_, hH.gl.mono hle⟩, fun b x hx => ?_, hH.st, fun W hW b o' hb r' s' he => ?_⟩⟩
 ·
  rcases at_new hb with ⟨rfl, rfl⟩ | ⟨hne, hb⟩
  · obtain ⟨rfl, rfl⟩ := Prod.mk.inj (new _ he)
    exact hc.mono hle
  exact (hH.obj b o' hb r' s' (old _ _ hne he)).mono hle
 ·
  rcases at_new h1 with ⟨rfl, rfl⟩ | ⟨hn1, g1⟩
  ·
   rcases at_new h2 with ⟨rfl, rfl⟩ | ⟨hn2, g2⟩
   · exact absurd rfl hne
   obtain ⟨rfl, rfl⟩ := Prod.mk.inj (new _ e1)
   have := hin _ _ _ g2 (old _ _ hn2 e2)
   exact ⟨this.2, this.1⟩
  rcases at_new h2 with ⟨rfl, rfl⟩ | ⟨hn2, g2⟩
  · obtain ⟨rfl, rfl⟩ := Prod.mk.inj (new _ e2)
    have := hin _ _ _ g1 (old _ _ hn1 e1)
    exact ⟨this.1, this.2⟩
  exact hH.inj b b' o1 o2 r1 s1 s2 g1 g2 (old _ _ hn1 e1) (old _ _ hn2 e2) hne
 ·
  by_cases hb : b = h.nx
  · subst hb
    obtain ⟨rfl, rfl⟩ := Prod.mk.inj (new _ he)
    exact hr
  exact hH.bnd _ _ _ (old _ _ hb he)
 ·
  rw [nx_new]
  by_cases hb : b = h.nx
  · omega
  have := hH.dom _ _ (old _ _ hb hx); omega
 rcases at_new hb with ⟨rfl, rfl⟩ | ⟨hne, hb⟩
 · obtain ⟨rfl, rfl⟩ := Prod.mk.inj (new _ he)
   exact hpv W hW
 exact hH.prv W hW b o' hb _ _ (old _ _ hne he)
theorem hw_name {e : Env} {h : AH} {w : World} {r : Nat} {c : Array Value} {t : TypeId} {l : List AV} {ro : Bool} (hH : HW W0 e h w) (hr : w.heap[r]? = some (.cells c t (0, 0))) (hlen : l.length ≤ c.size) (hl : VRL e l (c.toList.take l.length))
  (hin : ∀ b o s, h.at b = some o → e b = some (r, s) → isRo o = true ∧ ro = true) (hpv : ∀ W, W0 = some W → PV W w r (.row l ro)) :
  Gr e h (ext e h.nx (r, c.size)) (h.new (.row l ro)) ∧ HW W0 (ext e h.nx (r, c.size)) (h.new (.row l ro)) w :=
 hw_give hH (heap_lt hr) ⟨c, t, (0, 0), hr, rfl, hlen, hl, fun _ => rfl⟩ hin hpv
theorem HW.later {W : World} {B : Nat} {e : Env} {h : AH} {w w' : World} (hH : HW (some (W, some B)) e h w) (hs : St FDi B w w') : HW (some (W, some B)) e h w' := by
 have hS := hH.st _ rfl
 have keep : ∀ b o r s, h.at b = some o → e b = some (r, s) → (r < B ∨ notT FDi w r) → w'.heap[r]? = w.heap[r]? := fun b o r s hb he hn => hs.ext.keep r (hH.bnd _ _ _ he) hn
 refine ⟨⟨fun b o hb r s he => ?_, hH.inj, fun b r s he => Nat.lt_of_lt_of_le (hH.bnd b r s he) hs.ext.size, hH.gl⟩, hH.dom, fun W' hW => ?_, fun W' hW b o hb r s he => ?_⟩
 ·
  have hp := (hH.prv _ rfl b o hb r s he).1 B rfl
  have ho := hH.obj b o hb r s he
  cases o with
  | fld wb p =>
   have hf := hs.ext.fld _ _ _ hp
   obtain ⟨-, h2 | ⟨_, _, h2, -, -⟩⟩ := hf
   · exact ⟨_, h2⟩
   exact ⟨_, h2⟩
  | row l ro => rw [keep b _ r s hb he hp.1]; exact ho
  | mp l => rw [keep b _ r s hb he (.inr hp.1)]; exact ho
 · obtain rfl := Option.some.inj hW
   exact ⟨hS.le, fun B' hB' => by cases hB'; exact (hS.st B rfl).trans hs, fun h => by cases h⟩
 obtain rfl := Option.some.inj hW
 have hp := hH.prv _ rfl b o hb r s he
 refine ⟨fun B' hB' => ?_, hp.2⟩
 cases hB'
 have hp1 := hp.1 B rfl
 cases o with
 | fld wb p => exact hs.ext.fld _ _ _ hp1
 | row l ro => exact ⟨hp1.1.imp id (notT_of (keep b _ r s hb he hp1.1)), fun h2 => ⟨notT_of (keep b _ r s hb he hp1.1) (hp1.2 h2).1, (hp1.2 h2).2.1, hs.ext.priv r (hH.bnd _ _ _ he) (hp1.2 h2).2.2⟩⟩
 | mp l => exact ⟨notT_of (keep b _ r s hb he (.inr hp1.1)) hp1.1, hp1.2.1, hs.ext.priv r (hH.bnd _ _ _ he) hp1.2.2⟩
theorem hw_fld {W : World} {B : Nat} {e : Env} {h : AH} {w : World} {k wb p : Nat} (hH : HW (some (W, some B)) e h w) (hf : FOK FDi B w k wb p) :
  Gr e h (ext e h.nx (k, 7)) (h.new (.fld wb p)) ∧ HW (some (W, some B)) (ext e h.nx (k, 7)) (h.new (.fld wb p)) w := by
 have hc : ∃ c : Array Value, w.heap[k]? = some (.cells c fT (0, 0)) := by
  obtain ⟨-, h2 | ⟨_, _, h2, -, -⟩⟩ := hf
  · exact ⟨_, h2⟩
  exact ⟨_, h2⟩
 refine hw_give hH hf.lt hc (fun b o s' hb he => ⟨?_, rfl⟩) (fun W' hW => ?_)
 ·
  cases ho : isRo o with
  | true => rfl
  | false =>
   obtain ⟨c, hc⟩ := hc
   exact absurd hc ((((hH.prv _ rfl b o hb _ _ he).1 B rfl).own ho).1 c (0, 0))
 obtain rfl := Option.some.inj hW
 exact ⟨fun B' hB' => by cases hB'; exact hf, fun h => by cases h⟩
theorem ofBytes_len : ∀ l : List Nat, (ofBytes l).length = l.length
 | [] => rfl
 | n :: l => by simp [ofBytes, ofBytes_len l]
theorem vr_bytes (e : Env) : ∀ l : List Nat, VRL e (ofBytes l) (byt l)
 | [] => VRL.nil
 | n :: l => VRL.cons rfl (vr_bytes e l)
def shards : List (List Nat) → AH → List AV × AH
 | [], h => ([], h)
 | x :: l, h => (match shards l (h.new (.row (ofBytes x) true)) with | (vs, h') => (.sl h.nx 0 (ln x) none 1 :: vs, h'))
def oRows (l : List (List Nat)) (h : AH) : Option (AV × AH) :=
 match shards l h with | (vs, h) => some (.tup [.sl h.nx 0 (ln l) none 1, .int .i64 (.ofNat 0)], h.new (.row vs false))
structure Nmd (N : Nat) (S : Nat → Prop) (e : Env) (h : AH) : Prop where
 low : ∀ b r s, e b = some (r, s) → r < N ∨ S r
 turn : ∀ b o r s, h.at b = some o → e b = some (r, s) → isRo o = false → r < N
theorem vr_slice {e : Env} {b r s n : Nat} (he : e b = some (r, s)) (hs : s ≤ maxLen) : VR e (.sl b 0 n none 1) (.slice (some ⟨r, 0, none⟩) n s) :=
 ⟨r, s, he, by omega, by simpa using hs, by simp⟩
def RowsN (S : Nat → Prop) (N : Nat) (w : World) (vals : List Value) (rows : List (List Nat)) : Prop := vals.length = rows.length ∧
 ∀ (j : Nat) (u : Value) (x : List Nat), vals[j]? = some u → rows[j]? = some x → ∃ (g : Nat) (cur : Array Value) (t : TypeId), u = .slice (some ⟨g, 0, none⟩) x.length cur.size ∧ S g ∧ N ≤ g ∧ w.heap[g]? = some (.cells cur t (0, 0)) ∧ x.length ≤ cur.size ∧ cur.size ≤ maxLen ∧ cur.toList.take x.length = byt x
theorem shards_ok {S : Nat → Prop} {N : Nat} {w : World} (hW0 : ∀ W B, W0 ≠ some (W, some B)) : ∀ (rows : List (List Nat)) (vals : List Value) (e : Env) (h : AH), HW W0 e h w → Nmd N S e h → RowsN S N w vals rows →
  ∃ e', Gr e h e' (shards rows h).2 ∧ VRL e' (shards rows h).1 vals ∧ HW W0 e' (shards rows h).2 w ∧ Nmd N S e' (shards rows h).2
 | [], vals, e, h, hH, hN, hQ => by
  have : vals = [] := by have := hQ.1; cases vals with | nil => rfl | cons => simp at this
  subst this
  exact ⟨e, Gr.refl e h, VRL.nil, hH, hN⟩
 | x :: rows, vals, e, h, hH, hN, hQ => by
  cases vals with
  | nil => have := hQ.1; simp at this
  | cons v vals =>
   obtain ⟨g, cur, t, rfl, hS, hg, hc, h3, h4, h6⟩ := hQ.2 0 v x rfl rfl
   obtain ⟨g1, g2⟩ := hw_name (l := ofBytes x) (ro := true) hH hc (by rw [ofBytes_len]; exact h3) (by rw [ofBytes_len, h6]; exact vr_bytes e x) (fun b' o s hb' he' => ⟨by
     cases hr : isRo o with
     | true => rfl
     | false => have := hN.turn b' o _ _ hb' he' hr; omega, rfl⟩) (fun W hW => ⟨fun B h2 => absurd (by rw [hW, ← h2]) (hW0 W.1 B), fun h => by cases h⟩)
   have old : ∀ b' y, b' ≠ h.nx → ext e h.nx (g, cur.size) b' = some y → e b' = some y := fun b' y hb hy => by simpa [ext, hb] using hy
   have hN2 : Nmd N S (ext e h.nx (g, cur.size)) (h.new (.row (ofBytes x) true)) := by
    refine ⟨fun b' r s he => ?_, fun b' o r s hb' he hr => ?_⟩
    ·
     by_cases e1 : b' = h.nx
     · subst e1
       rw [ext_at] at he
       obtain ⟨rfl, -⟩ := Prod.mk.inj (Option.some.inj he)
       exact .inr hS
     exact hN.low b' r s (old _ _ e1 he)
    rcases at_new hb' with ⟨rfl, rfl⟩ | ⟨hne', hb'⟩
    · cases hr
    exact hN.turn b' o r s hb' (old _ _ hne' he) hr
   have hQ2 : RowsN S N w vals rows := ⟨by have := hQ.1; simpa using this, fun j u c hu hc => hQ.2 (j + 1) u c (by simpa using hu) (by simpa using hc)⟩
   obtain ⟨e', k1, k2, k3, k4⟩ := shards_ok hW0 rows vals _ _ g2 hN2 hQ2
   refine ⟨e', g1.trans k1, ?_, k3, k4⟩
   refine VRL.cons ?_ k2
   have hat : e' h.nx = some (g, cur.size) := k1.le _ _ (ext_at e h.nx (g, cur.size))
   have := vr_slice (n := x.length) hat (by omega)
   rw [ln_eq]
   exact this
theorem rowsN_ok {S : Nat → Prop} {N : Nat} {e : Env} {h : AH} {w : World} {vals : List Value} {rows : List (List Nat)} {g t : Nat} {cur : Array Value} (hW0 : ∀ W B, W0 ≠ some (W, some B)) (hH : HW W0 e h w) (hlow : ∀ b r s, e b = some (r, s) → r < N) (hQ : RowsN S N w vals rows)
  (hc : w.heap[g]? = some (.cells cur t (0, 0))) (hl : vals.length ≤ cur.size) (hm : cur.size ≤ maxLen) (h6 : cur.toList.take vals.length = vals) (hg : N ≤ g) (hS : ¬ S g) (hWN : ∀ W, W0 = some W → W.1.heap.size ≤ N) {a : AV} {h' : AH} (hq : oRows rows h = some (a, h')) :
  ∃ e', Gr e h e' h' ∧ VR e' a (.tuple #[.slice (some ⟨g, 0, none⟩) vals.length cur.size, .int .i64 0]) ∧ HW W0 e' h' w := by
 have hN : Nmd N S e h := ⟨fun b r s he => .inl (hlow b r s he), fun b o r s _ he _ => hlow b r s he⟩
 obtain ⟨e1, k1, k2, k3, k4⟩ := shards_ok hW0 rows vals e h hH hN hQ
 unfold oRows at hq
 cases hs : shards rows h with
 | mk vs h1 =>
  rw [hs] at hq k1 k2 k3 k4
  obtain ⟨rfl, rfl⟩ := Prod.mk.inj (Option.some.inj hq)
  have hvl := VRL.length k2
  simp only at hvl
  obtain ⟨g1, g2⟩ := hw_name (l := vs) (ro := false) k3 hc (by omega) (by rw [← hvl, h6]; exact k2) (fun b' o s hb' he' => by
    rcases k4.low b' _ _ he' with h7 | h7
    · omega
    exact absurd h7 hS) (fun W hW => ⟨fun B h2 => absurd (by rw [hW, ← h2]) (hW0 W.1 B), fun _ => by have := hWN W hW; omega⟩)
  refine ⟨_, k1.trans g1, ⟨_, rfl, VRL.cons ?_ (VRL.cons rfl VRL.nil)⟩, g2⟩
  have := vr_slice (n := vals.length) (ext_at e1 h1.nx (g, cur.size)) (by omega)
  rw [ln_eq, ← hQ.1]
  exact this
theorem rows_ok {D : FD} {tU tR : Nat} (ht : tU ≠ tR) {e : Env} {h : AH} {w w' : World} {sl : Value} {ob : Option Nat} {vals : List Value} {rows : List (List Nat)} (hW0 : ∀ W B, W0 ≠ some (W, some B)) (hH : HW W0 e h w) (hb : Go.RowKit.Below w.heap.size w w')
  (hO : Gam.Own D w.heap.size w.heap.size w' tR sl ob vals) (hQ : Owns2 D w.heap.size w.heap.size w' tU vals rows) (hne : ∀ x ∈ rows, x ≠ []) (hn0 : rows ≠ []) {a : AV} {h' : AH} (hq : oRows rows h = some (a, h')) :
  ∃ e', Gr e h e' h' ∧ VR e' a (.tuple #[sl, .int .i64 0]) ∧ HW W0 e' h' w' := by
 have hH' : HW W0 e h w' := hH.over hb (fun W B h => absurd h (hW0 W B))
 have hQ' : RowsN (fun r => ∃ c fz, w'.heap[r]? = some (.cells c tU fz)) w.heap.size w' vals rows := ⟨hQ.1, fun j u x hu hx => by
  obtain ⟨b, hO⟩ := hQ.2 j u x hu hx
  rcases hO with ⟨-, -, h0⟩ | ⟨g, cap, cur, rfl, -, hg, hB, hc, h3, h4, h5, h6, -⟩
  · exact absurd (by cases x with | nil => rfl | cons => simp [byt] at h0) (hne x (List.mem_of_getElem? hx))
  rw [byt_length] at h3 h6
  exact ⟨g, cur, tU, by rw [h5, byt_length], ⟨cur, _, hc⟩, hg, hc, by omega, by omega, h6⟩⟩
 rcases hO with ⟨-, -, h0⟩ | ⟨g, cap, cur, rfl, -, hg, hB, hc, h3, h4, h5, h6, -⟩
 ·
  have := hQ.1
  rw [h0] at this
  exact absurd (List.eq_nil_of_length_eq_zero this.symm) hn0
 subst h5
 refine rowsN_ok hW0 hH' hH.bnd hQ' hc h3 h4 h6 hg (fun ⟨c, fz, h7⟩ => ?_) (fun W hW => (hH.st W hW).size) hq
 rw [hc] at h7
 exact absurd (Obj.cells.inj (Option.some.inj h7)).2.1.symm ht
end Go.Iv
/- A field's functions as the interpreter's answers: what they reckon. No program in sight. -/
namespace Go.Iv
open Go Go.Gam Go.Gam.Px
def mulS : Nat → Nat → Nat → Nat
 | 0, _, _ => 0
 | f + 1, a, b => bif Nat.beq b 0 then 0 else Nat.xor (bif Nat.beq (Nat.mod b 2) 1 then a else 0) (Nat.mul 2 (mulS f a (Nat.div b 2)))
theorem mulS_eq : ∀ (f a b : Nat), b < 2 ^ f → mulS f a b = mul a b
 | 0, a, b, h => by
  obtain rfl : b = 0 := by simpa using h
  unfold mul; simp [mulS]
 | f + 1, a, b, h => by
  simp only [mulS]
  cases hb : Nat.beq b 0 with
  | true =>
   obtain rfl := Nat.eq_of_beq_eq_true hb
   unfold mul; simp
  | false =>
   have h0 : b ≠ 0 := fun e => by rw [e] at hb; cases hb
   have ih := mulS_eq f a (b / 2) (by rw [Nat.pow_succ] at h; omega)
   have e1 : Nat.div b 2 = b / 2 := rfl
   have e2 : Nat.mod b 2 = b % 2 := rfl
   rw [e1, ih, e2]
   conv => rhs; unfold mul
   rw [dif_neg h0]
   simp only [cond_false]
   cases hc : Nat.beq (b % 2) 1 with
   | true =>
    rw [if_pos (Nat.eq_of_beq_eq_true hc)]
    rfl
   | false =>
    rw [if_neg (fun e => by rw [e] at hc; cases hc)]
    rfl
def mulF (p a b : Nat) : Nat := Px.mod (mulS 17 a b) p
theorem mulF_eq {p a b : Nat} (h : b < 131072) : mulF p a b = mulMod a b p := by unfold mulF mulMod; rw [mulS_eq 17 a b h]
def powF (p a : Nat) : Nat → Nat → Nat
 | 0, _ => 1
 | f + 1, n => bif Nat.beq n 0 then 1 else
  (match powF p a f (Nat.div n 2) with
  | s => bif Nat.beq (Nat.mod n 2) 1 then mulF p (mulF p s s) a else mulF p s s)
theorem powF_eq {wb p : Nat} (h : Prm wb p) {a : Nat} (ha : a < 2 ^ wb) : ∀ (f n : Nat), n < 2 ^ f → powF p a f n = Px.pow a p n
 | 0, n, hn => by
  obtain rfl : n = 0 := by simpa using hn
  show 1 = Px.mod 1 p
  rw [h.mod1]
 | f + 1, n, hn => by
  have hsz := h.size
  have hlt : ∀ n, Px.pow a p n < 131072 := fun n => by have := h.pow_lt a n; omega
  have ih := powF_eq h ha f (n / 2) (by rw [Nat.pow_succ] at hn; omega)
  have sum : ∀ x y, mulMod (Px.pow a p x) (Px.pow a p y) p = Px.pow a p (x + y) := fun x y => by
   have h1 := gpow_sum h ha x y
   rw [gpow_in ha, gpow_in ha, gmul_in (h.pow_lt a x) (h.pow_lt a y)] at h1
   have h2 : gpow (some (wb, p)) (a : Int) (((x + y : Nat)) : Int) = _ := gpow_in ha
   have h3 : ((x + y : Nat) : Int) = (x : Int) + (y : Int) := by omega
   rw [← h3, h2] at h1
   exact (Int.ofNat_inj.1 h1).symm
  simp only [powF]
  cases hb : Nat.beq n 0 with
  | true =>
   obtain rfl := Nat.eq_of_beq_eq_true hb
   show 1 = Px.mod 1 p
   rw [h.mod1]
  | false =>
   have e1 : Nat.div n 2 = n / 2 := rfl
   have e2 : Nat.mod n 2 = n % 2 := rfl
   simp only [cond_false, e1, e2, ih]
   rw [mulF_eq (hlt _), sum]
   cases hc : Nat.beq (n % 2) 1 with
   | true =>
    have h4 := Nat.eq_of_beq_eq_true hc
    simp only [cond_true]
    rw [mulF_eq (by omega), show n = (n / 2 + n / 2) + 1 by omega]
    show mulMod _ _ _ = mulMod (Px.pow a p _) a p
    congr 2
    omega
   | false =>
    have h4 : n % 2 ≠ 1 := fun e => by rw [e] at hc; cases hc
    simp only [cond_false]
    congr 1
    omega
def fok? (w p : Nat) : Bool := (Nat.beq w 8 && Nat.beq p 285) || (Nat.beq w 16 && Nat.beq p 69643)
theorem fok_prm {w p : Nat} (h : fok? w p = true) : Prm w p := by
 unfold fok? at h
 simp only [Bool.or_eq_true, Bool.and_eq_true] at h
 rcases h with ⟨h1, h2⟩ | ⟨h1, h2⟩
 · rw [Nat.eq_of_beq_eq_true h1, Nat.eq_of_beq_eq_true h2]; exact prm_285
 rw [Nat.eq_of_beq_eq_true h1, Nat.eq_of_beq_eq_true h2]; exact prm_69643
def gfl (h : AH) (b : Nat) : Option (Nat × Nat) := match h.at b with | some (.fld w p) => bif fok? w p then some (w, p) else none | _ => none
theorem gfl_at {h : AH} {b w p : Nat} (hg : gfl h b = some (w, p)) : h.at b = some (.fld w p) ∧ Prm w p := by
 unfold gfl at hg
 split at hg
 ·
  rename_i w' p' hb
  cases hf : fok? w' p' with
  | false => rw [hf] at hg; cases hg
  | true =>
   rw [hf] at hg
   obtain ⟨rfl, rfl⟩ := Prod.mk.inj (Option.some.inj hg)
   exact ⟨hb, fok_prm hf⟩
 cases hg
def iN (n : Nat) : AV := .int .i64 (.ofNat n)
def inN (w : Nat) (a : Int) : Option Nat := match a with | .ofNat n => bif Nat.blt n (Nat.pow 2 w) then some n else none | _ => none
theorem inN_lt {w n : Nat} {a : Int} (h : inN w a = some n) : a = (n : Int) ∧ n < 2 ^ w := by
 unfold inN at h
 split at h
 ·
  rename_i m
  cases hb : Nat.blt m (Nat.pow 2 w) with
  | false => rw [hb] at h; cases h
  | true =>
   rw [hb] at h
   obtain rfl := Option.some.inj h
   exact ⟨rfl, by simpa [Nat.blt_eq] using hb⟩
 cases h
def oNew : List AV → AH → Option (AV × AH)
 | [.int .i64 (.ofNat w), .int .u32 (.ofNat p)], h => bif fok? w p then some (.ptr h.nx 0, h.new (.fld w p)) else none
 | _, _ => none
def oGMul : List AV → AH → Option (AV × AH)
 | [.ptr b 0, .int .i64 x, .int .i64 y], h => (match gfl h b with
  | some (w, p) => (match inN w x with | some x => (match inN w y with | some y => some (iN (mulF p x y), h) | none => none) | none => none)
  | none => none)
 | _, _ => none
def oGPow : List AV → AH → Option (AV × AH)
 | [.ptr b 0, .int .i64 x, .int .i64 (.ofNat n)], h => (match gfl h b with
  | some (w, p) => (match inN w x with | some x => bif Nat.blt n 1000000 then some (iN (powF p x 20 n), h) else none | none => none)
  | none => none)
 | _, _ => none
def oGInv : List AV → AH → Option (AV × AH)
 | [.ptr b 0, .int .i64 x], h => (match gfl h b with
  | some (w, p) => (match inN w x with | some x => (bif Nat.beq x 0 then none else some (.tup [iN (powF p x 20 (Nat.sub (Nat.pow 2 w) 2)), .bool true], h)) | none => none)
  | none => none)
 | _, _ => none
def oGSize : List AV → AH → Option (AV × AH)
 | [.ptr b 0], h => (match gfl h b with | some (w, p) => some (iN (Nat.pow 2 w), h) | none => none)
 | _, _ => none
theorem fo_of {W : World} {B : Nat} {e : Env} {h : AH} {w : World} {b wb p : Nat} {V : Value} (hH : HW (some (W, some B)) e h w) (hg : gfl h b = some (wb, p)) (hv : VR e (.ptr b 0) V) : Gam.Inv FDi B w ∧ Fo FDi B w V (some (wb, p)) := by
 obtain ⟨hb, hp⟩ := gfl_at hg
 obtain ⟨r, s, he, rfl⟩ := hv
 exact ⟨((hH.st _ rfl).st B rfl).inv, hp, r, rfl, (hH.prv _ rfl b _ hb r s he).1 B rfl⟩
end Go.Iv
