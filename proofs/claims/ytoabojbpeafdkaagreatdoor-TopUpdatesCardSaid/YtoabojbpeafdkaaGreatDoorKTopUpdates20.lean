/- Texts of the claim TopUpdates (part 20), put together in the order of their imports. -/
import Derived.Test.YtoabojbpeafdkaaGreatDoorKTopUpdates2
import Derived.Test.YtoabojbpeafdkaaGreatDoorKTopUpdates5
import Derived.Test.YtoabojbpeafdkaaGreatDoorKTopUpdates9
import Derived.Test.YtoabojbpeafdkaaGreatDoorKTopUpdates10
import Derived.Test.YtoabojbpeafdkaaGreatDoorKTopUpdates12
import Derived.Test.YtoabojbpeafdkaaGreatDoorKTopUpdates13
import Derived.Test.YtoabojbpeafdkaaGreatDoorKTopUpdates14
import Derived.Test.YtoabojbpeafdkaaGreatDoorKTopUpdates15
import Derived.Test.YtoabojbpeafdkaaGreatDoorKTopUpdates16
import Derived.Test.YtoabojbpeafdkaaGreatDoorKTopUpdates17
import Derived.Test.YtoabojbpeafdkaaGreatDoorKTopUpdates18
import Derived.Test.YtoabojbpeafdkaaGreatDoorKTopUpdates19
set_option linter.all false
set_option maxRecDepth 100000
set_option maxHeartbeats 1000000
/- Parity rows, by reckoning: all of them. -/
set_option maxRecDepth 100000
namespace Go.Proofs.YtoabojbpeafdkaaGreatDoor
open Go Go.Gam Go.Iv
theorem inv_all : ∀ k, 1 ≤ k → k ≤ 8 → invOk Tryz.prog k = true := by
 intro k h1 h2
 have : k = 1 ∨ k = 2 ∨ k = 3 ∨ k = 4 ∨ k = 5 ∨ k = 6 ∨ k = 7 ∨ k = 8 := by omega
 rcases this with rfl | rfl | rfl | rfl | rfl | rfl | rfl | rfl
 · exact inv_1
 · exact inv_2
 · exact inv_3
 · exact inv_4
 · exact inv_5
 · exact inv_6
 · exact inv_7
 exact inv_8
theorem par_all {p k m : Nat} (hp : 1 ≤ p ∧ p ≤ 6) (hk : 1 ≤ k ∧ k ≤ 8) (hm : 1 ≤ m ∧ m ≤ maxN p) : parOk Tryz.prog p k m = true := by
 have hp6 : p = 1 ∨ p = 2 ∨ p = 3 ∨ p = 4 ∨ p = 5 ∨ p = 6 := by omega
 unfold maxN at hm
 rcases hp6 with rfl | rfl | rfl | rfl | rfl | rfl
 ·
  rw [if_neg (by decide)] at hm
  have hc : (k ∈ ([1, 2, 3, 4] : List Nat) ∧ m ∈ ([1, 2, 3, 4] : List Nat)) ∨ (k ∈ ([5] : List Nat) ∧ m ∈ ([1, 2, 3, 4] : List Nat)) ∨ (k ∈ ([6] : List Nat) ∧ m ∈ ([1, 2] : List Nat)) ∨ (k ∈ ([6] : List Nat) ∧ m ∈ ([3, 4] : List Nat)) ∨ (k ∈ ([7] : List Nat) ∧ m ∈ ([1] : List Nat)) ∨ (k ∈ ([7] : List Nat) ∧ m ∈ ([2] : List Nat)) ∨ (k ∈ ([7] : List Nat) ∧ m ∈ ([3] : List Nat)) ∨ (k ∈ ([7] : List Nat) ∧ m ∈ ([4] : List Nat)) ∨ (k ∈ ([8] : List Nat) ∧ m ∈ ([1] : List Nat)) ∨ (k ∈ ([8] : List Nat) ∧ m ∈ ([2] : List Nat)) ∨ (k ∈ ([8] : List Nat) ∧ m ∈ ([3] : List Nat)) ∨ (k ∈ ([8] : List Nat) ∧ m ∈ ([4] : List Nat)) := by
   simp only [List.mem_cons, List.not_mem_nil, or_false]
   omega
  rcases hc with ⟨h1, h2⟩ | ⟨h1, h2⟩ | ⟨h1, h2⟩ | ⟨h1, h2⟩ | ⟨h1, h2⟩ | ⟨h1, h2⟩ | ⟨h1, h2⟩ | ⟨h1, h2⟩ | ⟨h1, h2⟩ | ⟨h1, h2⟩ | ⟨h1, h2⟩ | ⟨h1, h2⟩
  · exact rng_at par_1_1234_1234 h1 h2
  · exact rng_at par_1_5_1234 h1 h2
  · exact rng_at par_1_6_12 h1 h2
  · exact rng_at par_1_6_34 h1 h2
  · exact rng_at par_1_7_1 h1 h2
  · exact rng_at par_1_7_2 h1 h2
  · exact rng_at par_1_7_3 h1 h2
  · exact rng_at par_1_7_4 h1 h2
  · exact rng_at par_1_8_1 h1 h2
  · exact rng_at par_1_8_2 h1 h2
  · exact rng_at par_1_8_3 h1 h2
  exact rng_at par_1_8_4 h1 h2
 ·
  rw [if_neg (by decide)] at hm
  have hc : (k ∈ ([1, 2, 3, 4, 5] : List Nat) ∧ m ∈ ([1, 2, 3, 4] : List Nat)) ∨ (k ∈ ([6, 7, 8] : List Nat) ∧ m ∈ ([1, 2, 3, 4] : List Nat)) := by
   simp only [List.mem_cons, List.not_mem_nil, or_false]
   omega
  rcases hc with ⟨h1, h2⟩ | ⟨h1, h2⟩
  · exact rng_at par_2_12345_1234 h1 h2
  exact rng_at par_2_678_1234 h1 h2
 ·
  simp only [if_pos] at hm
  have hc : (k ∈ ([1, 2, 3, 4, 5] : List Nat) ∧ m ∈ ([1, 2, 3] : List Nat)) ∨ (k ∈ ([6, 7, 8] : List Nat) ∧ m ∈ ([1, 2, 3] : List Nat)) := by
   simp only [List.mem_cons, List.not_mem_nil, or_false]
   omega
  rcases hc with ⟨h1, h2⟩ | ⟨h1, h2⟩
  · exact rng_at par_3_12345_123 h1 h2
  exact rng_at par_3_678_123 h1 h2
 ·
  rw [if_neg (by decide)] at hm
  have hc : (k ∈ ([1, 2, 3, 4, 5] : List Nat) ∧ m ∈ ([1, 2, 3, 4] : List Nat)) ∨ (k ∈ ([6, 7, 8] : List Nat) ∧ m ∈ ([1, 2, 3, 4] : List Nat)) := by
   simp only [List.mem_cons, List.not_mem_nil, or_false]
   omega
  rcases hc with ⟨h1, h2⟩ | ⟨h1, h2⟩
  · exact rng_at par_4_12345_1234 h1 h2
  exact rng_at par_4_678_1234 h1 h2
 ·
  rw [if_neg (by decide)] at hm
  have hc : (k ∈ ([1, 2, 3, 4] : List Nat) ∧ m ∈ ([1, 2, 3, 4] : List Nat)) ∨ (k ∈ ([5, 6] : List Nat) ∧ m ∈ ([1, 2, 3, 4] : List Nat)) ∨ (k ∈ ([7, 8] : List Nat) ∧ m ∈ ([1, 2, 3, 4] : List Nat)) := by
   simp only [List.mem_cons, List.not_mem_nil, or_false]
   omega
  rcases hc with ⟨h1, h2⟩ | ⟨h1, h2⟩ | ⟨h1, h2⟩
  · exact rng_at par_5_1234_1234 h1 h2
  · exact rng_at par_5_56_1234 h1 h2
  exact rng_at par_5_78_1234 h1 h2
 rw [if_neg (by decide)] at hm
 have hc : (k ∈ ([1, 2, 3, 4] : List Nat) ∧ m ∈ ([1, 2, 3, 4] : List Nat)) ∨ (k ∈ ([5, 6] : List Nat) ∧ m ∈ ([1, 2, 3, 4] : List Nat)) ∨ (k ∈ ([7, 8] : List Nat) ∧ m ∈ ([1, 2, 3, 4] : List Nat)) := by
  simp only [List.mem_cons, List.not_mem_nil, or_false]
  omega
 rcases hc with ⟨h1, h2⟩ | ⟨h1, h2⟩ | ⟨h1, h2⟩
 · exact rng_at par_6_1234_1234 h1 h2
 · exact rng_at par_6_56_1234 h1 h2
 exact rng_at par_6_78_1234 h1 h2
end Go.Proofs.YtoabojbpeafdkaaGreatDoor
/- The walk of recon.Data, where all shards are there. -/
namespace Go.Proofs.YtoabojbpeafdkaaGreatDoor
open Go Go.Gam
namespace FxFDat
theorem sc23 : Scalar Tryz.prog 23 := ⟨_, Tryz.underlying23, by simp, by simp⟩
theorem sc4 : Scalar Tryz.prog 4 := ⟨_, Tryz.underlying4, by simp, by simp⟩
theorem sc43 : Scalar Tryz.prog 43 := ⟨_, Tryz.underlying43, by simp, by simp⟩
theorem sc48 : Scalar Tryz.prog 48 := ⟨_, Tryz.underlying48, by simp, by simp⟩
theorem sl43 : Sl Tryz.prog 43 4 (.bool false) 1 := sl_of Tryz.underlying43 rfl (by kernel_rfl)
theorem sl48 : Sl Tryz.prog 48 23 (.slice none 0 0) 24 := sl_of Tryz.underlying48 rfl (by kernel_rfl)
end FxFDat
open FxFDat
def prsV (L : List Value) : List (Nat × Value) := (List.range L.length).map fun i => (i, L.getD i (.bool false))
theorem prsV_at {L : List Value} {i : Nat} {c : Value} (h : L[i]? = some c) : (prsV L)[i]? = some (i, c) := by
 obtain ⟨hl, hg⟩ := List.getElem?_eq_some_iff.1 h
 simp [prsV, hl, hg]
theorem prsV_get {L : List Value} {i : Nat} {x : Nat × Value} (h : (prsV L)[i]? = some x) : x.1 = i ∧ i < L.length ∧ L[i]? = some x.2 := by
 have hl : i < L.length := by simpa [prsV] using (List.getElem?_eq_some_iff.1 h).1
 simp [prsV, hl] at h
 subst h
 exact ⟨rfl, hl, by simp [hl]⟩
def encV (x : Nat × Value) (_ : World) (v u : Value) : Prop := v = .int .i64 (x.1 : Int) ∧ u = x.2
theorem prsV_len (L : List Value) : (prsV L).length = L.length := by simp [prsV]
def ixL (n : Nat) : List Int := (List.range n).map Int.ofNat
theorem ixL_len (n : Nat) : (ixL n).length = n := by simp [ixL]
theorem ixL_snoc (n : Nat) : zints (ixL n) ++ [.int .i64 (n : Int)] = zints (ixL (n + 1)) := by simp [ixL, zints, List.range_succ]
theorem there_ok (B n3 : Nat) (s2 s3 : Option Addr) (c2 c3 : Nat) (vals : List Value) (w : World) (hI : Inv FDx B w) : Ret Tryz.prog 56 [.slice s2 vals.length c2, .slice s3 n3 c3] w fun v w' => ∃ ps pv, v = .func (.func 122) ([] : List Value).toArray ([.pointer (some ⟨ps, 0, none⟩), .pointer (some ⟨pv, 0, none⟩)] : List Value).toArray ∧ w.heap.size ≤ ps ∧ w.heap.size ≤ pv ∧ KC FDx B w' ⟨ps, 0, none⟩ (.slice s2 vals.length c2) ∧ KC FDx B w' ⟨pv, 0, none⟩ (.slice s3 n3 c3) ∧ St FDx B w w' := by
 refine enter 6 [(0, .slice s2 vals.length c2), (1, .slice s3 n3 c3)] 4 Tryz.func56 rfl rfl rfl rfl rfl ?_; intro a hF
 have hS := St.refl hI
 refine W_sr rfl fun K hK => ?_
 refine s_boxN (D := FDx) (B := B) hF rfl (rfl) (by decide) hS.inv rfl ?_; clear hF a; intro w' a hm hI' hbs hsz hF
 replace hS := hS.mb0 hm
 clear hm hI' hsz
 have hla := heap_lt hbs.blk
 obtain ⟨ps, hps⟩ : ∃ g, g = w.heap.size := ⟨_, rfl⟩
 rw [← hps] at hbs hF hla
 refine s_boxN (D := FDx) (B := B) hF rfl (rfl) (by decide) hS.inv rfl ?_; clear hF a; intro w' a hm hI' hbv hsz hF
 replace hbs := hbs.mb hm (by simp)
 replace hS := hS.mb0 hm
 clear hm hI' hsz
 refine svw hK hF (v_assign rfl) rfl ?_; clear hF a hK K; intro a hF
 replace hF := hF.sub _ (c_ 4 rfl (c_ 3 rfl (c_ 2 rfl n_)))
 have hks := hbs.kc
 have hkv := hbv.kc
 have hs0 := hS.ext.size
 clear hbs hbv
 refine W_sr rfl fun K hK => ?_
 refine sv2w hK hF (v_mkf (cs := [.tmp 2, .tmp 3]) (vs := [.pointer (some ⟨ps, 0, none⟩), .pointer (some ⟨_, 0, none⟩)]) rfl) (v_assign rfl) rfl rfl ?_; clear hF a hK K; intro a hF
 replace hF := hF.sub _ (c_ 4 rfl n_)
 refine W_ret ?_
 refine ⟨_, _, hF, rfl, ?_⟩
 exact ⟨ps, _, rfl, by omega, by omega, hks, hkv, hS⟩
theorem there1_ok (B M ps pv l : Nat) (s2 s3 : Option Addr) (c2 c3 : Nat) (vals : List Value) (Z : Nat → Prop) (J Jx : Nat → World → Prop) (w0 w : World) (h0S : StZ FDx B Z w0 w) (hks : KC FDx B w ⟨ps, 0, none⟩ (.slice s2 vals.length c2)) (hkv : KC FDx B w ⟨pv, 0, none⟩ (.slice s3 vals.length c3)) (hxr : Row FDx B M w (.slice s2 vals.length c2) vals) (hvr : Row FDx B M w (.slice s3 vals.length c3) (List.replicate vals.length (.bool true))) (hzM : ∀ k, k < M → ¬ Z k) (hzs : ¬ Z ps) (hzv : ¬ Z pv) (hl : vals.length ≤ 1000) (hY : ∀ i x v u A, (prsV vals)[i]? = some x → J i A → StZ FDx B Z w0 A → encV x A v u → YieldOk2 Tryz.prog l v u A fun b A' => (b = true ∧ J (i + 1) A' ∧ StZ FDx B Z A A') ∨ (b = false ∧ Jx (i + 1) A')) (h0 : J 0 w) : Ret Tryz.prog 122 [.func (.yield l) #[] #[], .pointer (some ⟨ps, 0, none⟩), .pointer (some ⟨pv, 0, none⟩)] w fun v A' => (J vals.length A' ∧ StZ FDx B Z w0 A') ∨ ∃ i, Jx i A' := by
 refine enter0 25 [(0, .func (.yield l) #[] #[]), (1, .pointer (some ⟨ps, 0, none⟩)), (2, .pointer (some ⟨pv, 0, none⟩))]  Tryz.func122 rfl rfl rfl rfl rfl ?_; intro a hF
 have hS := h0S
 refine W_sr rfl fun K hK => ?_
 refine sv3w hK hF (v_load sc48 rfl hks.c) (v_lenS rfl sl48 rfl) (v_move rfl) rfl rfl rfl ?_; clear hF a hK K; intro a hF
 replace hF := hF.sub _ (c_ 8 rfl (c_ 7 rfl (c_ 6 rfl (c_ 0 rfl (c_ 2 rfl n_)))))
 refine W_block ?_
 refine W_loop (fun m a w1 => ∃ (i : Nat), Fr 25 [(0, .func (.yield l) #[] #[]), (2, .pointer (some ⟨pv, 0, none⟩)), (6, .slice s2 vals.length c2), (7, .int .i64 (vals.length : Int)), (8, .int .i64 (i : Int))] a ∧ (StZ FDx B Z w0 w1) ∧ (KC FDx B w1 ⟨ps, 0, none⟩ (.slice s2 vals.length c2)) ∧ (KC FDx B w1 ⟨pv, 0, none⟩ (.slice s3 vals.length c3)) ∧ (Row FDx B M w1 (.slice s2 vals.length c2) vals) ∧ (Row FDx B M w1 (.slice s3 vals.length c3) (List.replicate vals.length (.bool true))) ∧ (J i w1) ∧ (i ≤ vals.length) ∧ (m + i = vals.length)) (vals.length) ?_ ?_
 · skip
   exact ⟨0, hF.sub _ (c_ 0 rfl (c_ 2 rfl (c_ 6 rfl (c_ 7 rfl (c_ 8 rfl n_))))), hS, hks, hkv, hxr, hvr, h0, by omega, by omega⟩
 skip
 clear hF
 clear hS hks hkv hxr hvr
 rintro m a w1 ⟨i, hF, hS, hks, hkv, hxr, hvr, hJ, hi, hm⟩
 refine W_sr rfl fun K hK => ?_
 refine svw hK hF (v_lss rfl rfl) rfl ?_; clear hF a hK K; intro a hF
 refine W_seq ?_
 refine W_if hF rfl (fun hc1 => ?_) (fun hc1 => ?_)
 ·
  skip
  try simp only [dcl] at hc1
  have hlt : i < vals.length := by omega
  obtain ⟨u, hu⟩ : ∃ x, vals[i]? = some x := ⟨_, List.getElem?_eq_getElem hlt⟩
  obtain ⟨gx, ox, hgx, hkx, -⟩ := hxr.kat hu
  obtain ⟨gy, oy, hgy, hkb, -⟩ := hvr.kat (show (List.replicate vals.length (Value.bool true))[i]? = some (.bool true) by simp [hlt])
  subst hgx hgy
  refine W_skip ?_
  refine W_seq ?_
  refine W_block ?_
  refine W_sr rfl fun K hK => ?_
  refine sv2 hF (v_move rfl) (v_ixS sl48 rfl rfl (by omega) (by omega)) rfl rfl ?_; clear hF a; intro a hF
  refine sv hF (v_load sc23 rfl (by rw [toNat_c]; exact hkx.c)) rfl ?_; clear hF a; intro a hF
  refine sv2w hK hF (v_assign rfl) (v_assign rfl) rfl rfl ?_; clear hF a hK K; intro a hF
  replace hF := hF.sub _ (c_ 5 rfl (c_ 4 rfl (c_ 0 rfl (c_ 2 rfl (c_ 6 rfl (c_ 7 rfl (c_ 8 rfl n_)))))))
  refine W_srY rfl (fun K hK => ?_)
  refine svI hF rfl (v_load sc43 rfl hkv.c) rfl ?_; clear hF a; intro a hF
  refine svI hF rfl (v_move rfl) rfl ?_; clear hF a; intro a hF
  refine svI hF rfl (v_ixS sl43 rfl rfl (by omega) (by omega)) rfl ?_; clear hF a; intro a hF
  refine svI hF rfl (v_load sc4 rfl (by rw [toNat_c]; exact hkb.c)) rfl ?_; clear hF a; intro a hF
  refine svI hF rfl (v_move rfl) rfl ?_; clear hF a; intro a hF
  refine svgI hF rfl ?_
  refine svI hF rfl (v_move rfl) rfl ?_; clear hF a; intro a hF
  refine svgI hF rfl ?_
  refine svI hF rfl (v_move rfl) rfl ?_; clear hF a; intro a hF
  refine svgI hF rfl ?_
  refine svI hF rfl (v_move rfl) rfl ?_; clear hF a; intro a hF
  refine svgI hF rfl ?_
  refine syI2 hF rfl rfl rfl rfl ((hY i _ _ _ _ (prsV_at hu) hJ hS ⟨rfl, rfl⟩).mono (fun b w' hb => ?_))
  rcases hb with ⟨rfl, hJ', hz⟩ | ⟨rfl, hX'⟩
  ·
   skip
   clear hF; intro a hF
   refine WLI_of rfl ?_
   replace hks := hks.stz hz hzs
   replace hkv := hkv.stz hz hzv
   replace hxr := hxr.stz hz hzM
   replace hvr := hvr.stz hz hzM
   replace hS := hS.transZ hz
   replace hJ := hJ'
   refine svg hF rfl ?_
   refine sv2w hK hF (v_not rfl) (v_pickT rfl rfl) rfl rfl ?_; clear hF a hK K; intro a hF
   replace hF := hF.sub _ (c_ 23 rfl (c_ 0 rfl (c_ 2 rfl (c_ 6 rfl (c_ 7 rfl (c_ 8 rfl n_))))))
   refine W_ifF hF rfl ?_
   refine W_skip ?_
   refine W_reg rfl fun K hK => ?_
   refine sv2w hK hF (v_addI rfl rfl (by omega)) (v_move rfl) rfl rfl ?_; clear hF a hK K; intro a hF
   replace hF := hF.sub _ (c_ 8 rfl (c_ 24 rfl (c_ 0 rfl (c_ 2 rfl (c_ 6 rfl (c_ 7 rfl n_))))))
   exact ⟨m - 1, by omega, i + 1, hF.sub _ (c_ 0 rfl (c_ 2 rfl (c_ 6 rfl (c_ 7 rfl (c_ 8 rfl n_))))), hS, hks, hkv, hxr, hvr, hJ, by omega, by omega⟩
  skip
  clear hF; intro a hF
  refine WLI_of rfl ?_
  refine svg hF rfl ?_
  refine sv2w hK hF (v_not rfl) (v_pickT rfl rfl) rfl rfl ?_; clear hF a hK K; intro a hF
  replace hF := hF.sub _ (c_ 23 rfl (c_ 0 rfl (c_ 2 rfl (c_ 6 rfl (c_ 7 rfl (c_ 8 rfl n_))))))
  refine W_ifT hF rfl ?_
  refine W_ret ?_
  refine ⟨_, hF, ?_⟩
  exact .inr ⟨_, hX'⟩
 skip
 try simp only [dcl] at hc1
 refine W_exit rfl ?_
 refine ⟨_, hF, ?_⟩
 obtain rfl : i = vals.length := by omega
 exact .inl ⟨hJ, hS⟩
theorem there_seq (B M ps pv : Nat) (s2 s3 : Option Addr) (c2 c3 : Nat) (vals : List Value) (Z : Nat → Prop) (w0 : World) (hks : KC FDx B w0 ⟨ps, 0, none⟩ (.slice s2 vals.length c2)) (hkv : KC FDx B w0 ⟨pv, 0, none⟩ (.slice s3 vals.length c3)) (hxr : Row FDx B M w0 (.slice s2 vals.length c2) vals) (hvr : Row FDx B M w0 (.slice s3 vals.length c3) (List.replicate vals.length (.bool true))) (hzM : ∀ k, k < M → ¬ Z k) (hzs : ¬ Z ps) (hzv : ¬ Z pv) (hl : vals.length ≤ 1000) :
  Seq2 Tryz.prog FDx B 122 [.pointer (some ⟨ps, 0, none⟩), .pointer (some ⟨pv, 0, none⟩)] encV (prsV vals) Z w0 := by
 intro l J Jx W hl1 hl2 hW hJs hY h0
 have := there1_ok B M ps pv l s2 s3 c2 c3 vals Z J Jx w0 W hW.z (hks.st hW) (hkv.st hW) (hxr.st hW) (hvr.st hW) hzM hzs hzv hl hY h0
 refine Calls.mono this ?_
 rintro e A' ⟨v, rfl, h⟩
 refine ⟨v, rfl, ?_⟩
 rw [prsV_len]
 exact h
end Go.Proofs.YtoabojbpeafdkaaGreatDoor
/- Regions of open order that store what is read there: what is read is held by S up to the stores. No program in sight. -/
namespace Go.Gam
open Go
def kpL (ns : List Nat) (j : Nat) : Bool := !ns.contains j
section
variable {P : Program} {ops : Array Oper} {Q : Exit → Act → World → Prop} {S : World → Prop} {ns : List Nat}
def wpAnyK (P : Program) (ops : Array Oper) (Q : Exit → Act → World → Prop) (S : World → Prop) (ns : List Nat) : Nat → Array Bool → Act → World → Prop
 | 0, listed, a, w => Region.ready .any ops listed = [] ∧ Q .normal a w
 | fuel + 1, listed, a, w => (Region.ready .any ops listed = [] → Q .normal a w) ∧
  ∀ i ∈ Region.ready .any ops listed, wpOp P ops Q i (fun a' w' => (kpL ns i = true → S w') ∧ wpAnyK P ops Q S ns fuel (listed.setIfInBounds i true) a' w') a w
theorem wpAny_of_K : ∀ (fuel : Nat) (listed : Array Bool) (a : Act) (w : World), wpAnyK P ops Q S ns fuel listed a w → wpAny P .any ops Q fuel listed a w
 | 0, _, _, _, h => h
 | fuel + 1, _, _, _, h => ⟨h.1, fun i hi => wpOp_mono (fun a' w' h' => wpAny_of_K fuel _ a' w' h'.2) (h.2 i hi)⟩
theorem ready_edge {listed : Array Bool} {j c : Nat} {oj : Oper} {e : Edge} (hj : j ∈ Region.ready .any ops listed) (hoj : ops[j]? = some oj) (he : e ∈ oj.after) (hb : Region.binds .any e = true) (heq : e.on = c) (hc : listed.getD c true = false) : False := by
 obtain ⟨-, oj', hoj', hall⟩ := mem_ready.1 hj
 obtain rfl := Option.some.inj (hoj.symm.trans hoj')
 have h1 := hall e he hb
 rw [heq] at h1
 rcases Nat.lt_or_ge c listed.size with h' | h'
 · simp [h'] at hc h1; rw [hc] at h1; cases h1
 simp [Array.getElem?_eq_none h'] at h1
def Late (ops : Array Oper) (ns cs : List Nat) (listed : Array Bool) (i : Nat) : Prop :=
 (∀ c ∈ cs, listed.getD c true = false ∧ ∃ oc e, ops[c]? = some oc ∧ e ∈ oc.after ∧ Region.binds .any e = true ∧ (e.on = i ∨ e.on ∈ cs)) ∧ ∀ j, kpL ns j = false → j ∈ cs
def lateB (ops : Array Oper) (ns cs : List Nat) (listed : Array Bool) (i : Nat) : Bool :=
 (cs.all fun c => !listed.getD c true && match ops[c]? with | some oc => oc.after.toList.any fun e => Region.binds .any e && (e.on == i || cs.contains e.on) | none => false) && ns.all fun j => cs.contains j
theorem late_of {cs : List Nat} {listed : Array Bool} {i : Nat} (h : lateB ops ns cs listed i = true) : Late ops ns cs listed i := by
 unfold lateB at h
 simp only [Bool.and_eq_true, List.all_eq_true] at h
 refine ⟨fun c hc => ?_, fun j hj => ?_⟩
 ·
  obtain ⟨h1, h2⟩ := h.1 c hc
  refine ⟨by simpa using h1, ?_⟩
  split at h2
  ·
   rename_i oc hoc
   rw [List.any_eq_true] at h2
   obtain ⟨e, he, h3⟩ := h2
   simp only [Bool.and_eq_true, Bool.or_eq_true, beq_iff_eq, List.contains_iff_mem] at h3
   exact ⟨oc, e, hoc, by simpa using he, h3.1, h3.2⟩
  cases h2
 unfold kpL at hj
 have : ns.contains j = true := by simpa using hj
 rw [List.contains_iff_mem] at this
 simpa using h.2 j this
theorem wpAnyK_first {i : Nat} {oi : Oper} {v : Value} {cs : List Nat} (hi : ops[i]? = some oi) (hsel : ∀ (j : Nat) (o : Oper) cs b, ops[j]? = some o → o.op ≠ .select cs b)
  (hQ : ∀ c a w, Q (.panic c) (a.put oi.dst v) w → Q (.panic c) a w) :
  ∀ (fuel : Nat) (listed : Array Bool) (a : Act) (w : World),
   (∀ j oj, ops[j]? = some oj → j ≠ i → listed.getD j true = false → (∀ e ∈ oj.after, Region.binds .any e = true → e.on ≠ i) → oi.apart ops oj = true) →
   Late ops ns cs listed i → i ∈ Region.ready .any ops listed → YieldsIf P ops S oi v a → S w →
   wpAnyK P ops Q S ns fuel (listed.setIfInBounds i true) (a.put oi.dst v) w → wpAnyK P ops Q S ns (fuel + 1) listed a w := by
 intro fuel
 induction fuel with
 | zero =>
  intro listed a w _ _ hr hy hS H
  refine ⟨fun h => (by rw [h] at hr; cases hr), fun j hj => ?_⟩
  by_cases hji : j = i
  · subst hji; exact hy.wpOp hi hS ⟨fun _ => hS, H⟩
  have := ready_mono hj hji
  rw [H.1] at this
  cases this
 | succ fuel ih =>
  intro listed a w hfree hl hr hy hS H
  refine ⟨fun h => (by rw [h] at hr; cases hr), fun j hj => ?_⟩
  by_cases hji : j = i
  · subst hji; exact hy.wpOp hi hS ⟨fun _ => hS, H⟩
  have h1 := H.2 j (ready_mono hj hji)
  obtain ⟨hjun, oj, hoj, hall⟩ := mem_ready.1 hj
  have hun := (mem_ready.1 hr).1
  have hnot : ∀ e ∈ oj.after, Region.binds .any e = true → e.on ≠ i := fun e he hb heq => ready_edge hj hoj he hb heq hun
  have hjc : j ∉ cs := fun hc => by
   obtain ⟨-, oc, e, hoc, he, hb, h4⟩ := hl.1 j hc
   rcases h4 with h4 | h4
   · exact ready_edge hj hoc he hb h4 hun
   exact ready_edge hj hoc he hb rfl (hl.1 _ h4).1
  have hkj : kpL ns j = true := by
   cases hk : kpL ns j with
   | true => rfl
   | false => exact absurd (hl.2 j hk) hjc
  have h2 := wpOp_putIf hoj (hfree j oj hoj hji hjun hnot) (fun cs b => hsel i oi cs b hi) (fun cs b => hsel j oj cs b hoj) hQ hy h1
  have hfree' : ∀ k ok, ops[k]? = some ok → k ≠ i → (listed.setIfInBounds j true).getD k true = false →
    (∀ e ∈ ok.after, Region.binds .any e = true → e.on ≠ i) → oi.apart ops ok = true := fun k ok hk hki hun hno => by
   refine hfree k ok hk hki ?_ hno
   by_cases hjk : j = k
   · subst hjk; exact hjun
   rw [getD_set_ne true hjk] at hun; exact hun
  have hl' : Late ops ns cs (listed.setIfInBounds j true) i := ⟨fun c hc => by
   obtain ⟨h3, h4⟩ := hl.1 c hc
   exact ⟨by rw [getD_set_ne true (fun e => hjc (by rw [e]; exact hc))]; exact h3, h4⟩, hl.2⟩
  refine wpOp_mono (fun a' w' h3 => ⟨fun _ => h3.2.1 hkj, ih (listed.setIfInBounds j true) a' w' hfree' hl' (ready_mono hr (Ne.symm hji)) h3.1 (h3.2.1 hkj) ?_⟩) h2
  rw [Array.setIfInBounds_comm _ _ hji]
  exact h3.2.2
end
def WK (P : Program) (S : World → Prop) (ns : List Nat) (ops : Array Oper) (K : Kont) (fuel : Nat) (L : Array Bool) (a : Act) (w : World) : Prop :=
 wpAnyK P ops (Qof K [] (fun _ _ => False)) S ns fuel L a w
section
variable {P : Program} {S : World → Prop} {ns : List Nat} {N : Kont} {X : List (Nat × Kont)} {R : Kont} {a : Act} {w : World} {ops : Array Oper} {K : Kont} {fuel : Nat} {L : Array Bool} {n : NN} {F : Fs} {op : Op} {T : TypeId} {pp : String} {af : Array Edge} {v : Value} {d : Nat}
theorem Rd.W_dK {r : Option Nat} (S : World → Prop) (ns : List Nat) {id m : Nat} (hsz : ops.size = m) (hm : P.follows .mixedOrders = true) (hd : noDefer ops.toList = true)
  (h : ∀ K : Kont, (∀ a w, N a w → K a w) → WK P S ns ops K m (Array.replicate m false) a { w with drawn := w.drawn + 1 }) : WI P r (.region id ops true) N X R a w := by
 subst hsz
 refine wpIn_mono (wpIn_region_draw fun t => ?_) Rd.qof_reg
 simp only [Region.schedule, hm, Bool.true_or, if_true]
 exact opsIn_of qof_no hd _ _ _ (wpAny_sound ops.size t _ a _ (wpAny_of_K _ _ _ _ (h N (fun _ _ h => h))))
theorem k_v {i : Nat} (cs : List Nat) (hi : nth ops.toList i = some ⟨some d, op, T, pp, af, none⟩) (hk : okv ops L i = true) (hl : lateB ops ns cs L i = true) (hF : Fr n F a) (hv : ∀ w', S w' → Val P op T F w' v) (hd : Nat.blt d n.n = true) (hS : S w)
  (k : ∀ a, Fr n ((d, v) :: F) a → WK P S ns ops K fuel (L.setIfInBounds i true) a w) : WK P S ns ops K (fuel + 1) L a w := by
 simp only [okv, Bool.and_eq_true] at hk
 rw [nth_eq, Array.getElem?_toList] at hi
 exact wpAnyK_first hi (Region.noSelect_spec hk.1.1) (fun _ _ _ h => h) fuel L a w (Region.free_spec hi hk.1.2) (late_of hl) (by simpa using hk.2) (.inl ⟨by simp [Region.wanted], fun w' hw => hv w' hw a.eval hF.reads _ _ _ _⟩) hS (k _ (hF.put hd))
theorem of_WLg {i : Nat} {o : Oper} {K' : Kont} (hi : nth ops.toList i = some o) (h : WL P ops K' [o] a w) : wpOp P ops (Qof K [] (fun _ _ => False)) i K' a w := by
 rw [nth_eq, Array.getElem?_toList] at hi
 unfold wpOp
 simp only [hi]
 have hno : ∀ K' : Kont, ¬ LetsOut (Qof K' [] (fun _ _ => False)) := fun K' ⟨a, w, h⟩ => h
 unfold WL wpList at h
 split
 ·
  rename_i hw
  rw [if_pos hw] at h
  rcases h with h | ⟨_, h⟩
  · refine .inl ?_
    exact Oper.wp_mono (K := wpList P ops (Qof K' [] (fun _ _ => False)) []) (fun a' w' hk => hk) (upon_congr (fun _ _ _ h => h) (fun h => absurd h (hno _)) h)
  exact absurd h (hno _)
 rename_i hw
 rw [if_neg hw] at h
 exact h
theorem k_e {i : Nat} {o : Oper} (hr : Region.ready .any ops L = [i]) (hi : nth ops.toList i = some o) (h : WL P ops (fun a' w' => (kpL ns i = true → S w') ∧ WK P S ns ops K fuel (L.setIfInBounds i true) a' w') [o] a w) : WK P S ns ops K (fuel + 1) L a w :=
 ⟨fun h0 => absurd (hr ▸ h0) (by simp), fun j hj => by
  rw [hr] at hj
  obtain rfl : j = i := by simpa using hj
  exact of_WLg hi h⟩
theorem k_e2 {i i' : Nat} {o o' : Oper} (hr : Region.ready .any ops L = [i, i']) (hi : nth ops.toList i = some o) (hi' : nth ops.toList i' = some o') (h : WL P ops (fun a' w' => (kpL ns i = true → S w') ∧ WK P S ns ops K fuel (L.setIfInBounds i true) a' w') [o] a w)
  (h' : WL P ops (fun a' w' => (kpL ns i' = true → S w') ∧ WK P S ns ops K fuel (L.setIfInBounds i' true) a' w') [o'] a w) : WK P S ns ops K (fuel + 1) L a w :=
 ⟨fun h0 => absurd (hr ▸ h0) (by simp), fun j hj => by
  rw [hr] at hj
  have : j = i ∨ j = i' := by simpa using hj
  rcases this with rfl | rfl
  · exact of_WLg hi h
  exact of_WLg hi' h'⟩
theorem k_done (hr : Region.ready .any ops L = []) (h : K a w) : ∀ fuel, WK P S ns ops K fuel L a w
 | 0 => ⟨hr, h⟩
 | _ + 1 => ⟨fun _ => h, by rw [hr]; simp⟩
end
end Go.Gam
/- The walk of recon.Data, where all shards are there. -/
namespace Go.Proofs.YtoabojbpeafdkaaGreatDoor
open Go Go.Gam
namespace FxFDt2
theorem en55 : Ent Tryz.prog 55 := ent Tryz.func55 (by kernel_rfl) (by kernel_rfl)
theorem en56 : Ent Tryz.prog 56 := ent Tryz.func56 (by kernel_rfl) (by kernel_rfl)
theorem en57 : Ent Tryz.prog 57 := ent Tryz.func57 (by kernel_rfl) (by kernel_rfl)
theorem en58 : Ent Tryz.prog 58 := ent Tryz.func58 (by kernel_rfl) (by kernel_rfl)
theorem en59 : Ent Tryz.prog 59 := ent Tryz.func59 (by kernel_rfl) (by kernel_rfl)
theorem en60 : Ent Tryz.prog 60 := ent Tryz.func60 (by kernel_rfl) (by kernel_rfl)
theorem fa30_0 : FieldFact Tryz.prog 30 0 0 := ff_of (sz := 0) Tryz.underlying30 (by kernel_rfl)
theorem fa30_1 : FieldFact Tryz.prog 30 1 1 := ff_of (sz := 0) Tryz.underlying30 (by kernel_rfl)
theorem hmix : Tryz.prog.follows .mixedOrders = true := by kernel_rfl
theorem on4 : Gam.One Tryz.prog 4 := by unfold Gam.One; kernel_rfl
theorem on48 : Gam.One Tryz.prog 48 := by unfold Gam.One; kernel_rfl
theorem on49 : Gam.One Tryz.prog 49 := by unfold Gam.One; kernel_rfl
theorem sc23 : Scalar Tryz.prog 23 := ⟨_, Tryz.underlying23, by simp, by simp⟩
theorem sc3 : Scalar Tryz.prog 3 := ⟨_, Tryz.underlying3, by simp, by simp⟩
theorem sc4 : Scalar Tryz.prog 4 := ⟨_, Tryz.underlying4, by simp, by simp⟩
theorem sc48 : Scalar Tryz.prog 48 := ⟨_, Tryz.underlying48, by simp, by simp⟩
theorem sc49 : Scalar Tryz.prog 49 := ⟨_, Tryz.underlying49, by simp, by simp⟩
theorem sl134 : Sl Tryz.prog 134 49 (.slice none 0 0) 24 := sl_of Tryz.underlying134 rfl (by kernel_rfl)
theorem sl23 : Sl Tryz.prog 23 5 (.int .u8 0) 1 := sl_of Tryz.underlying23 rfl (by kernel_rfl)
theorem sl43 : Sl Tryz.prog 43 4 (.bool false) 1 := sl_of Tryz.underlying43 rfl (by kernel_rfl)
theorem sl48 : Sl Tryz.prog 48 23 (.slice none 0 0) 24 := sl_of Tryz.underlying48 rfl (by kernel_rfl)
theorem sl49 : Sl Tryz.prog 49 3 (.int .i64 0) 8 := sl_of Tryz.underlying49 rfl (by kernel_rfl)
theorem zv4 : Zv Tryz.prog 4 (.bool false) := zv_of rfl (by kernel_rfl)
theorem zv48 : Zv Tryz.prog 48 (.slice none 0 0) := zv_of rfl (by kernel_rfl)
theorem zv49 : Zv Tryz.prog 49 (.slice none 0 0) := zv_of rfl (by kernel_rfl)
end FxFDt2
open FxFDt2
def InvC (p k m : Nat) : Prop := ∀ (B N : Nat) (w : World) (v : Value) (b : Option Nat), Inv FDx B w → 9 ≤ B → Gam.Own FDx B N w FDx.E v b (zints (ixL k)) → Ret Tryz.prog 58 [.agg #[.int .i64 (p : Int), .int .i64 (k : Int), .int .i64 (m : Int)], v] w fun u w' => ∃ sa cap, u = .tuple #[.slice sa k cap, .int .i64 0] ∧ Mat FDx B w'.heap.size w' sa cap (idM k) ∧ St FDx B w w'
theorem rows2_take {D : FD} {B M : Nat} {w : World} {vals : List Value} {bss : List (List Nat)} (h : Rows2 D B M w vals bss) (k : Nat) : Rows2 D B M w (vals.take k) (bss.take k) :=
 ⟨by rw [List.length_take, List.length_take, h.1], fun j v b hv hb => by
  rw [List.getElem?_take] at hv hb
  split at hv
  · rename_i hj
    rw [if_pos hj] at hb
    exact h.2 j v b hv hb
  cases hv⟩
theorem take_next {α : Type} {l : List α} {t : Nat} {u : α} (h : l[t]? = some u) : l.take t ++ [u] = l.take (t + 1) := by rw [List.take_add_one, h]; rfl
theorem Data_ok (B M p k m L : Nat) (hInv : InvC p k m) (s2 s3 : Option Addr) (c2 c3 : Nat) (vals : List Value) (bss : List (List Nat)) (w : World) (hI : Inv FDx B w) (hB : 9 ≤ B) (hp : 1 ≤ p ∧ p ≤ 6) (hk : 1 ≤ k ∧ k ≤ 8) (hm : 1 ≤ m ∧ m ≤ maxN p) (hR : Row FDx B M w (.slice s2 vals.length c2) vals) (hR2 : Rows2 FDx B M w vals bss) (hM : M ≤ w.heap.size) (h8 : ∀ b ∈ bss, ∀ x ∈ b, x < 256) (hvr : Row FDx B M w (.slice s3 vals.length c3) (List.replicate vals.length (.bool true))) (hbl : bss.length = k + m) (hn : ∀ b ∈ bss, b.length = L) (hL : L ≤ 10000) (hev : p = 2 → L % 2 = 0) (hdot : ∀ r ∈ idM k, ∃ y, rdot (some (fldN p)) r (bss.take k) = some y) : Ret Tryz.prog 18 [.agg #[.int .i64 (p : Int), .int .i64 (k : Int), .int .i64 (m : Int)], .slice s2 vals.length c2, .slice s3 vals.length c3] w fun v w' => ∃ sl ob pv, v = .tuple #[sl, .int .i64 0] ∧ Gam.Own FDx B w.heap.size w' 23 sl ob pv ∧ Owns2 FDx B w.heap.size w' 5 pv ((idM k).map fun r => (rdot (some (fldN p)) r (bss.take k)).getD []) ∧ St FDx B w w' := by
 refine enterM2 (D := FDx) (B := B) w.heap.size 103 [(0, .agg #[.int .i64 (p : Int), .int .i64 (k : Int), .int .i64 (m : Int)]), (1, .slice s2 vals.length c2), (2, .slice s3 vals.length c3)] 6 7 Tryz.func18 rfl rfl rfl rfl rfl ?_; intro a hF
 have hS := St.refl hI
 have hvl := hR2.1
 have hMk := Mk.nil w.heap.size w
 have hm4 : m ≤ 4 := by have := hm.2; unfold maxN at this; split at this <;> omega
 obtain ⟨b0, hb0⟩ : ∃ b, bss[0]? = some b := ⟨_, List.getElem?_eq_getElem (by omega)⟩
 obtain ⟨u0, hu0⟩ : ∃ u, vals[0]? = some u := ⟨_, List.getElem?_eq_getElem (by omega)⟩
 have hbl0 := hn b0 (List.mem_of_getElem? hb0)
 obtain ⟨px0, cx0, rfl, -⟩ := (hR2.2 0 u0 b0 hu0 hb0).shape
 rw [byt_length, hbl0] at hu0
 refine W_sr rfl fun K hK => ?_
 refine s_box (D := FDx) (B := B) hF rfl (by decide) hS.inv rfl ?_; clear hF a; intro w' a hm hbx hsz hF
 replace hR := hR.mb hm (fun _ h => by cases h)
 replace hR2 := hR2.mb hm (fun _ h => by cases h)
 replace hvr := hvr.mb hm (fun _ h => by cases h)
 replace hMk := hMk.mb hm (fun k e => by cases e)
 replace hS := hS.mb0 hm
 clear hm
 refine sv2w hK hF (v_assign rfl) (v_assign rfl) rfl rfl ?_; clear hF a hK K; intro a hF
 replace hF := hF.sub _ (c_ 7 rfl (c_ 6 rfl (c_ 3 rfl (c_ 1 rfl (c_ 2 rfl n_)))))
 refine W_seq ?_
 refine W_sr rfl fun K hK => ?_
 refine sv hF (v_loadN Tryz.underlying30 rfl (by kernel_rfl) rfl hbx) rfl ?_; clear hF a; intro a hF
 refine sv hF (v_move rfl) rfl ?_; clear hF a; intro a hF
 refine sc hF rfl rfl rfl en55 rfl (fine_ok B p k m _ c2 vals _ hS.inv hB hp hk hm (by omega)) ?_; clear hF a; intro v w' a hv hF
 obtain ⟨rfl, hS'⟩ := hv
 replace hR := hR.st hS'
 replace hR2 := hR2.st hS'
 replace hvr := hvr.st hS'
 replace hMk := hMk.st hS'
 replace hbx := hbx.st (by decide) hS'
 replace hS := hS.trans hS'
 clear hS'
 refine sv2 hF (v_not rfl) (v_move rfl) rfl rfl ?_; clear hF a; intro a hF
 refine svg hF rfl ?_
 refine sv hF (v_move rfl) rfl ?_; clear hF a; intro a hF
 refine svg hF rfl ?_
 refine sv hF (v_lenS rfl sl43 rfl) rfl ?_; clear hF a; intro a hF
 refine svg hF rfl ?_
 refine sv hF (v_move rfl) rfl ?_; clear hF a; intro a hF
 refine svg hF rfl ?_
 refine sv hF (v_lenS rfl sl48 rfl) rfl ?_; clear hF a; intro a hF
 refine svg hF rfl ?_
 refine sv2w hK hF ((v_neq rfl rfl).as (congrArg Value.bool (decide_eq_false (fun h => h rfl)))) (v_pickF rfl rfl) rfl rfl ?_; clear hF a hK K; intro a hF
 replace hF := hF.sub _ (c_ 30 rfl (c_ 7 rfl (c_ 6 rfl (c_ 3 rfl (c_ 1 rfl (c_ 2 rfl n_))))))
 refine W_ifF hF rfl ?_
 refine W_skip ?_
 refine W_sr rfl fun K hK => ?_
 have hlbg8 := heap_lt hbx
 obtain ⟨g8, hg8⟩ : ∃ g, g = w'.heap.size := ⟨_, rfl⟩
 have hng8 := hS.ext.size
 refine s_alloc (D := FDx) (B := B) hF zv49 (by decide) hS.inv rfl ?_; clear hF a; intro w' a hm hI' hb8 hsz hF
 replace hR := hR.mb hm (fun _ h => by cases h)
 replace hR2 := hR2.mb hm (fun _ h => by cases h)
 replace hvr := hvr.mb hm (fun _ h => by cases h)
 replace hMk := hMk.mb hm (fun k e => by cases e)
 replace hbx := hbx.mb hm (by simp)
 replace hS := hS.mb0 hm
 clear hm hI' hsz
 rw [← hg8] at hb8 hF
 refine wn hK ?_
 clear hK K
 replace hF := hF.sub _ (c_ 8 rfl (c_ 7 rfl (c_ 6 rfl (c_ 3 rfl (c_ 1 rfl (c_ 2 rfl n_))))))
 refine W_sr rfl fun K hK => ?_
 have hlbg9 := heap_lt hbx
 have hl8 := heap_lt hb8.blk
 obtain ⟨g9, hg9⟩ : ∃ g, g = w'.heap.size := ⟨_, rfl⟩
 have hng9 := hS.ext.size
 refine s_alloc (D := FDx) (B := B) hF zv48 (by decide) hS.inv rfl ?_; clear hF a; intro w' a hm hI' hb9 hsz hF
 replace hR := hR.mb hm (fun _ h => by cases h)
 replace hR2 := hR2.mb hm (fun _ h => by cases h)
 replace hvr := hvr.mb hm (fun _ h => by cases h)
 replace hMk := hMk.mb hm (fun k e => by cases e)
 replace hbx := hbx.mb hm (by simp)
 replace hb8 := hb8.mb hm (by simp)
 replace hS := hS.mb0 hm
 clear hm hI' hsz
 rw [← hg9] at hb9 hF
 refine wn hK ?_
 clear hK K
 refine W_sr rfl fun K hK => ?_
 have hlbg10 := heap_lt hbx
 have hl9 := heap_lt hb9.blk
 have hl8b := heap_lt hb8.blk
 obtain ⟨g10, hg10⟩ : ∃ g, g = w'.heap.size := ⟨_, rfl⟩
 have hng10 := hS.ext.size
 refine s_alloc (D := FDx) (B := B) hF zv4 (by decide) hS.inv rfl ?_; clear hF a; intro w' a hm hI' hb10 hsz hF
 replace hR := hR.mb hm (fun _ h => by cases h)
 replace hR2 := hR2.mb hm (fun _ h => by cases h)
 replace hvr := hvr.mb hm (fun _ h => by cases h)
 replace hMk := hMk.mb hm (fun k e => by cases e)
 replace hbx := hbx.mb hm (by simp)
 replace hb8 := hb8.mb hm (by simp)
 replace hb9 := hb9.mb hm (by simp)
 replace hS := hS.mb0 hm
 clear hm hI' hsz
 rw [← hg10] at hb10 hF
 refine s_stb (D := FDx) (B := B) hF on4 rfl rfl (rfl) hb10 hS.inv ?_; intro w' hm hI' hbx'
 replace hR := hR.mb hm (fun k h => by cases h; exact Nat.le_trans (by omega) hb10.low)
 replace hR2 := hR2.mb hm (fun k h => by cases h; exact Nat.le_trans (by omega) hb10.low)
 replace hvr := hvr.mb hm (fun k h => by cases h; exact Nat.le_trans (by omega) hb10.low)
 replace hMk := hMk.mb hm (fun k e => by cases e; exact ⟨_, _, _, hb10.blk⟩)
 replace hbx := hbx.mb hm (by simp; omega)
 replace hb8 := hb8.mb hm (by simp; omega)
 replace hb9 := hb9.mb hm (by simp; omega)
 replace hS := hS.mb hm (fun k h => by cases h; omega)
 replace hb10 := hbx'
 clear hm hI' hbx'
 refine wn hK ?_
 clear hK K
 refine W_seq ?_
 refine W_sr rfl fun K hK => ?_
 refine sv2 hF (v_move rfl) (v_move rfl) rfl rfl ?_; clear hF a; intro a hF
 have hz8 := heap_lt hb8.blk
 have hz9 := heap_lt hb9.blk
 have hz10 := heap_lt hb10.blk
 refine sc hF rfl rfl rfl en56 rfl (there_ok B vals.length s2 s3 c2 c3 vals _ hS.inv) ?_; clear hF a; intro v w' a hv hF
 obtain ⟨ps, pv, rfl, hps, hpv, hks, hkv, hS'⟩ := hv
 replace hR := hR.st hS'
 replace hR2 := hR2.st hS'
 replace hvr := hvr.st hS'
 replace hMk := hMk.st hS'
 replace hbx := hbx.st (by decide) hS'
 replace hb8 := hb8.st hS'
 replace hb9 := hb9.st hS'
 replace hb10 := hb10.st hS'
 replace hS := hS.trans hS'
 clear hS'
 refine wn hK ?_
 clear hK K
 replace hF := hF.sub _ (c_ 33 rfl (c_ 10 rfl (c_ 9 rfl (c_ 8 rfl (c_ 7 rfl (c_ 6 rfl (c_ 3 rfl n_)))))))
 obtain ⟨nz, hnz⟩ : ∃ n, n = w'.heap.size := ⟨_, rfl⟩
 have hsw : w.heap.size ≤ w'.heap.size := hS.ext.size
 have hpsz : ps < w'.heap.size := hks.2.1
 have hpvz : pv < w'.heap.size := hkv.2.1
 refine W_block ?_
 refine W_rf2 (D := FDx) (B := B) (fun t A => ∃ v8 b8 v9 b9, Box FDx B g8 A g8 49 v8 ∧ Box FDx B g9 A g9 48 v9 ∧ Box FDx B g10 A g10 4 (.bool true) ∧ Gam.Own FDx B nz A FDx.E v8 b8 (zints (ixL (min t k))) ∧ Gam.Own FDx B nz A 23 v9 b9 (vals.take (min t k)) ∧ Blk A w.heap.size 30 [.int .i64 (p : Int), .int .i64 (k : Int), .int .i64 (m : Int)] ∧ St FDx B w A ∧ Mk w.heap.size [] A ∧ Row FDx B M A (.slice s2 vals.length c2) vals ∧ Rows2 FDx B M A vals bss) (fun _ => False) (fun v u a2 _ => Fr ⟨103, []⟩ [(3, .pointer (some ⟨w.heap.size, 0, none⟩)), (8, .pointer (some ⟨g8, 0, none⟩)), (9, .pointer (some ⟨g9, 0, none⟩)), (10, .pointer (some ⟨g10, 0, none⟩)), (11, v), (12, u)] a2) hF rfl rfl rfl (ent Tryz.func122 (by kernel_rfl) (by kernel_rfl)) hS.inv (there_seq B M ps pv s2 s3 c2 c3 vals (fun q => q = g8 ∨ q = g9 ∨ q = g10 ∨ nz ≤ q) _ hks hkv hR hvr (by rintro q h (h2 | h2 | h2 | h2) <;> omega) (by rintro (h | h | h | h) <;> omega) (by rintro (h | h | h | h) <;> omega) (by omega)) (.inr (.inr (.inr (by rw [hnz]; omega)))) ?_ ?_ ?_ ?_ (⟨_, none, _, none, hb8, hb9, hb10, (Gam.Own.nil _ _ _ _ _).cast (by rw [Nat.zero_min]; rfl), (Gam.Own.nil _ _ _ _ _).cast (by rw [Nat.zero_min]; rfl), hbx, hS, hMk, hR, hR2⟩) ?_ ?_ ?_ ?_
 · rintro t A C ⟨v8, b8, v9, b9, h1, h2, h3, h4, h5, h6, h7, h8, h9, h10⟩ hX
   exact ⟨v8, b8, v9, b9, h1.xt hX, h2.xt hX, h3.xt hX, h4.xt (by decide) hX, h5.xt (by decide) hX, h6.xt (by decide) hX, h7.thenX hX hsw, h8.xt hX (fun d hd => by cases hd), h9.xt hX, ⟨h10.1, fun j v b hv hb => (h10.2 j v b hv hb).xt hX⟩⟩
 · exact fun _ _ h _ => h
 · exact fun _ _ _ _ _ h _ => h
 · exact fun x v u A C h _ => h
 ·
  skip
  clear hF hS
  rintro l i x v u A a hx9 hJ hIA he hF
  have hS := St.refl hIA
  refine Rd.W_sr rfl rfl (fun K hK => ?_)
  refine svw hK hF (v_assign rfl) rfl ?_; clear hF a hK K; intro a hF
  replace hF := hF.sub _ (c_ 11 rfl (c_ 35 rfl (c_ 10 rfl (c_ 9 rfl (c_ 8 rfl (c_ 7 rfl (c_ 6 rfl (c_ 3 rfl n_))))))))
  refine Rd.W_reg rfl rfl (fun K hK => ?_)
  refine svw hK hF (v_assign rfl) rfl ?_; clear hF a hK K; intro a hF
  replace hF := hF.sub _ (c_ 12 rfl (c_ 11 rfl (c_ 10 rfl (c_ 9 rfl (c_ 8 rfl (c_ 7 rfl (c_ 6 rfl (c_ 3 rfl n_))))))))
  exact ⟨hS, hF.sub _ (c_ 3 rfl (c_ 8 rfl (c_ 9 rfl (c_ 10 rfl (c_ 11 rfl (c_ 12 rfl n_))))))⟩
 ·
  skip
  clear hF hS hMk hb8 hb9 hb10 hbx hR hR2
  rintro l t x v u A a hx9 ⟨v8, b8, v9, b9, hb8, hb9, hb10, hO8, hO9, hbx, hSw, hMk, hR, hR2⟩ hz0 ⟨rfl, rfl⟩ hF
  obtain ⟨x1, uu⟩ := x
  obtain ⟨hx1, hlt, hu⟩ := prsV_get hx9
  obtain rfl : t = x1 := hx1.symm
  have hS : StZ FDx B (fun q => q = g8 ∨ q = g9 ∨ q = g10 ∨ nz ≤ q) A A := StZ.refl hSw.inv
  obtain ⟨bt, hbt⟩ : ∃ b, bss[t]? = some b := ⟨_, List.getElem?_eq_getElem (by omega)⟩
  have hbtl := hn bt (List.mem_of_getElem? hbt)
  obtain ⟨pxt, cxt, rfl, -⟩ := (hR2.2 t uu bt hu hbt).shape
  rw [byt_length] at hu hF
  have hnA : nz ≤ A.heap.size := by have := hz0.ext.size; omega
  have hlx := ixL_len (min t k)
  obtain ⟨a8, c8, rfl⟩ := hO8.shape
  rw [zints_length, hlx] at hb8 hO8
  clear hx9 hlx
  refine Rd.W_block ?_
  refine Rd.W_seq ?_
  refine Rd.W_sr rfl rfl (fun K hK => ?_)
  refine sv5w hK hF (v_load sc49 rfl hb8.at) (v_lenS rfl sl49 rfl) (v_fieldAddr fa30_1 rfl) (v_load sc3 rfl (hbx.at 1 rfl)) (v_lss rfl rfl) rfl rfl rfl rfl rfl ?_; clear hF a hK K; intro a hF
  replace hF := hF.sub _ (c_ 40 rfl (c_ 3 rfl (c_ 8 rfl (c_ 9 rfl (c_ 10 rfl (c_ 11 rfl (c_ 12 rfl n_)))))))
  refine Rd.W_if hF rfl (fun hc1 => ?_) (fun hc1 => ?_)
  ·
   skip
   try simp only [dcl] at hc1
   have htk : t < k := by omega
   have hmn : min t k = t := Nat.min_eq_left (by omega)
   rw [hmn] at hb8 hO8 hO9 hF
   obtain ⟨n1, hn1⟩ : ∃ n, n = t + 1 := ⟨_, rfl⟩
   have hn1k : n1 = min (t + 1) k := by rw [hn1]; exact (Nat.min_eq_left (by omega)).symm
   obtain ⟨a9, c9, rfl⟩ := hO9.shape
   have h9l : (vals.take t).length = t := by simp; omega
   rw [h9l] at hb9 hO9
   have h8l : (zints (ixL t)).length = t := by rw [zints_length, ixL_len]
   refine Rd.W_dK (fun w2 => w2.cell? ⟨g8, 0, none⟩ = some (.slice a8 t c8) ∧ w2.cell? ⟨g9, 0, none⟩ = some (.slice a9 t c9)) [8, 9] (m := 10) rfl hmix rfl (fun K hK => ?_)
   have hS' := St.drew hS.inv
   replace hb8 := hb8.st hS'
   replace hb9 := hb9.st hS'
   replace hb10 := hb10.st hS'
   replace hO8 := hO8.st (by decide) hS'
   replace hO9 := hO9.st (by decide) hS'
   replace hbx := hbx.st (by decide) hS'
   replace hSw := hSw.trans hS'
   replace hMk := hMk.st hS'
   replace hR := hR.st hS'
   replace hR2 := hR2.st hS'
   replace hnA := Nat.le_trans hnA hS'.ext.size
   replace hS := hS.trans hS'
   clear hS'
   have hSS := And.intro hb8.at hb9.at
   refine k_v (i := 0) [3, 7, 8, 9] rfl (by kernel_rfl) (by kernel_rfl) hF (fun w2 hx => v_load sc49 rfl hx.1) rfl hSS ?_; clear hF a; intro a hF
   refine k_v (i := 1) [2, 3, 7, 8, 9] rfl (by kernel_rfl) (by kernel_rfl) hF (fun w2 hx => v_move rfl) rfl hSS ?_; clear hF a; intro a hF
   refine k_v (i := 4) [7, 8, 9] rfl (by kernel_rfl) (by kernel_rfl) hF (fun w2 hx => v_load sc48 rfl hx.2) rfl hSS ?_; clear hF a; intro a hF
   refine k_v (i := 5) [6, 7, 8, 9] rfl (by kernel_rfl) (by kernel_rfl) hF (fun w2 hx => v_move rfl) rfl hSS ?_; clear hF a; intro a hF
   refine k_e2 (i := 2) (i' := 6) (by kernel_rfl) rfl rfl ?_ ?_
   ·
    skip
    refine s_bs (D := FDx) (B := B) hF sl49 rfl rfl (by decide) (by simp [Value.cells]) (by decide) hS.inv rfl ?_; clear hF a; intro w' a hm hI' hL8 hF
    replace hb8 := hb8.mb hm (by simp)
    replace hb9 := hb9.mb hm (by simp)
    replace hb10 := hb10.mb hm (by simp)
    replace hO8 := hO8.mb hm (fun _ _ => by simp)
    replace hO9 := hO9.mb hm (fun _ _ => by simp)
    replace hbx := hbx.mb hm (by simp)
    replace hSw := hSw.mb0 hm
    replace hMk := hMk.mb hm (fun k e => by cases e)
    replace hR := hR.mb hm (fun _ h => by cases h)
    replace hR2 := hR2.mb hm (fun _ h => by cases h)
    replace hnA := Nat.le_trans hnA hm.size
    replace hS := hS.mb0 hm
    clear hm hI'
    clear hSS
    have hSS := And.intro hb8.at hb9.at
    refine WL_nil ⟨fun _ => hSS, ?_⟩
    refine k_e2 (i := 3) (i' := 6) (by kernel_rfl) rfl rfl ?_ ?_
    ·
     skip
     refine s_app (D := FDx) (B := B) hF rfl sl49 rfl rfl hO8 (hL8.row (by decide)) (by simp [Value.oneCell']) (by rw [h8l]; simp; omega) (by rw [h8l]; simp [maxLen]; omega) (hnA) (by decide) hS.inv rfl ?_; clear hF a; intro v' b' w' a ho' hm hI' hb' hF
     replace hb8 := hb8.mb hm (hb8.ne_own hO8 (by decide))
     replace hb9 := hb9.mb hm (hb9.ne_own hO8 (by decide))
     replace hb10 := hb10.mb hm (hb10.ne_own hO8 (by decide))
     replace hO9 := hO9.mb hm (hO9.ne_type hO8 (by decide))
     replace hbx := hbx.mb hm (hbx.ne_own hO8 (by decide))
     replace hSw := hSw.mb hm (fun k h => Nat.le_trans (by omega) (hO8.lt k h).1)
     replace hMk := hMk.mb hm hO8.isrow
     replace hR := hR.mb hm (fun k h => Nat.le_trans (by omega) (hO8.lt k h).1)
     replace hR2 := hR2.mb hm (fun k h => Nat.le_trans (by omega) (hO8.lt k h).1)
     replace hnA := Nat.le_trans hnA hm.size
     replace hS := hS.mb hm (fun q h => ⟨.inr (.inr (.inr (hO8.lt q h).1)), hO8.isrow q h⟩)
     replace hO8 := ho'
     clear hm hI' ho'
     clear hSS
     have hSS := And.intro hb8.at hb9.at
     refine WL_nil ⟨fun _ => hSS, ?_⟩
     refine k_e (i := 6) (by kernel_rfl) rfl ?_
     refine s_bs (D := FDx) (B := B) hF sl48 rfl rfl (by decide) (by simp [Value.cells]) (by decide) hS.inv rfl ?_; clear hF a; intro w' a hm hI' hL9 hF
     replace hb8 := hb8.mb hm (by simp)
     replace hb9 := hb9.mb hm (by simp)
     replace hb10 := hb10.mb hm (by simp)
     replace hO8 := hO8.mb hm (fun _ _ => by simp)
     replace hO9 := hO9.mb hm (fun _ _ => by simp)
     replace hbx := hbx.mb hm (by simp)
     replace hSw := hSw.mb0 hm
     replace hMk := hMk.mb hm (fun k e => by cases e)
     replace hR := hR.mb hm (fun _ h => by cases h)
     replace hR2 := hR2.mb hm (fun _ h => by cases h)
     replace hnA := Nat.le_trans hnA hm.size
     replace hS := hS.mb0 hm
     clear hm hI'
     clear hSS
     have hSS := And.intro hb8.at hb9.at
     refine WL_nil ⟨fun _ => hSS, ?_⟩
     refine k_e (i := 7) (by kernel_rfl) rfl ?_
     refine s_app (D := FDx) (B := B) hF rfl sl48 rfl rfl hO9 (hL9.row (by decide)) (by simp [Value.oneCell']) (by rw [h9l]; simp; omega) (by rw [h9l]; simp [maxLen]; omega) (hnA) (by decide) hS.inv rfl ?_; clear hF a; intro v' b' w' a ho' hm hI' hb' hF
     replace hb8 := hb8.mb hm (hb8.ne_own hO9 (by decide))
     replace hb9 := hb9.mb hm (hb9.ne_own hO9 (by decide))
     replace hb10 := hb10.mb hm (hb10.ne_own hO9 (by decide))
     replace hO8 := hO8.mb hm (hO8.ne_type hO9 (by decide))
     replace hbx := hbx.mb hm (hbx.ne_own hO9 (by decide))
     replace hSw := hSw.mb hm (fun k h => Nat.le_trans (by omega) (hO9.lt k h).1)
     replace hMk := hMk.mb hm hO9.isrow
     replace hR := hR.mb hm (fun k h => Nat.le_trans (by omega) (hO9.lt k h).1)
     replace hR2 := hR2.mb hm (fun k h => Nat.le_trans (by omega) (hO9.lt k h).1)
     replace hnA := Nat.le_trans hnA hm.size
     replace hS := hS.mb hm (fun q h => ⟨.inr (.inr (.inr (hO9.lt q h).1)), hO9.isrow q h⟩)
     replace hO9 := ho'
     clear hm hI' ho'
     clear hSS
     have hSS := And.intro hb8.at hb9.at
     refine WL_nil ⟨fun _ => hSS, ?_⟩
     refine k_e (i := 8) (by kernel_rfl) rfl ?_
     refine s_stb (D := FDx) (B := B) hF on49 rfl rfl (by obtain ⟨_, _, rfl⟩ := hO8.shape; rfl) hb8 hS.inv ?_; intro w' hm hI' hbx'
     replace hb9 := hb9.mb hm (by simp; omega)
     replace hb10 := hb10.mb hm (by simp; omega)
     replace hO8 := hO8.mb hm ((fun k e e2 => hb8.ne_own hO8 (by decide) (e.trans e2.symm)))
     replace hO9 := hO9.mb hm ((fun k e e2 => hb8.ne_own hO9 (by decide) (e.trans e2.symm)))
     replace hbx := hbx.mb hm (by simp; omega)
     replace hSw := hSw.mb hm (fun k h => by cases h; omega)
     replace hMk := hMk.mb hm (fun k e => by cases e; exact ⟨_, _, _, hb8.blk⟩)
     replace hR := hR.mb hm (fun k h => by cases h; exact Nat.le_trans (by omega) hb8.low)
     replace hR2 := hR2.mb hm (fun k h => by cases h; exact Nat.le_trans (by omega) hb8.low)
     replace hnA := Nat.le_trans hnA hm.size
     replace hS := hS.mb hm (fun q h => ⟨by cases h; exact .inl rfl, by cases h; exact ⟨_, _, _, hb8.blk⟩⟩)
     replace hb8 := hbx'
     clear hm hI' hbx'
     refine WL_nil ⟨fun h => absurd h (by decide), ?_⟩
     refine k_e (i := 9) (by kernel_rfl) rfl ?_
     refine s_stb (D := FDx) (B := B) hF on48 rfl rfl (by obtain ⟨_, _, rfl⟩ := hO9.shape; rfl) hb9 hS.inv ?_; intro w' hm hI' hbx'
     replace hb8 := hb8.mb hm (by simp; omega)
     replace hb10 := hb10.mb hm (by simp; omega)
     replace hO8 := hO8.mb hm ((fun k e e2 => hb9.ne_own hO8 (by decide) (e.trans e2.symm)))
     replace hO9 := hO9.mb hm ((fun k e e2 => hb9.ne_own hO9 (by decide) (e.trans e2.symm)))
     replace hbx := hbx.mb hm (by simp; omega)
     replace hSw := hSw.mb hm (fun k h => by cases h; omega)
     replace hMk := hMk.mb hm (fun k e => by cases e; exact ⟨_, _, _, hb9.blk⟩)
     replace hR := hR.mb hm (fun k h => by cases h; exact Nat.le_trans (by omega) hb9.low)
     replace hR2 := hR2.mb hm (fun k h => by cases h; exact Nat.le_trans (by omega) hb9.low)
     replace hnA := Nat.le_trans hnA hm.size
     replace hS := hS.mb hm (fun q h => ⟨by cases h; exact .inr (.inl rfl), by cases h; exact ⟨_, _, _, hb9.blk⟩⟩)
     replace hb9 := hbx'
     clear hm hI' hbx'
     replace hO8 := hO8.cast (show _ = zints (ixL n1) by rw [hn1]; exact ixL_snoc t)
     replace hO9 := hO9.cast (show _ = vals.take n1 by rw [hn1]; exact take_next hu)
     refine WL_nil ⟨fun h => absurd h (by decide), ?_⟩
     refine k_done (by kernel_rfl) (hK _ _ ?_) _
     clear hK K
     replace hF := hF.sub _ (c_ 3 rfl (c_ 9 rfl (c_ 10 rfl (c_ 12 rfl n_))))
     have hge : 1 ≤ n1 := by omega
     obtain ⟨a9, c9, rfl⟩ := hO9.shape
     have hv0 : (vals.take n1)[0]? = some (.slice px0 L cx0) := by rw [List.getElem?_take, if_pos (by omega)]; exact hu0
     have h9n : (vals.take n1).length = n1 := by simp; omega
     rw [h9n] at hb9 hO9
     obtain ⟨g9c, c9b, hpe9, -⟩ := hO9.ptr (by rw [h9n]; omega)
     obtain ⟨rfl, -, -⟩ := Value.slice.inj hpe9
     refine Rd.W_reg rfl rfl (fun K hK => ?_)
     refine sv2 hF (v_load sc4 rfl hb10.at) (v_move rfl) rfl rfl ?_; clear hF a; intro a hF
     refine svg hF rfl ?_
     refine sv hF (v_loadN Tryz.underlying30 rfl (by kernel_rfl) rfl hbx) rfl ?_; clear hF a; intro a hF
     refine svg hF rfl ?_
     refine sv hF (v_move rfl) rfl ?_; clear hF a; intro a hF
     refine svg hF rfl ?_
     refine sc hF rfl rfl rfl en57 rfl (even_ok B p k m pxt cxt bt _ hS.inv hp (fun e => by rw [hbtl]; exact hev e)) ?_; clear hF a; intro v w' a hv hF
     obtain ⟨rfl, hS'⟩ := hv
     replace hb8 := hb8.st hS'
     replace hb9 := hb9.st hS'
     replace hb10 := hb10.st hS'
     replace hO8 := hO8.st (by decide) hS'
     replace hO9 := hO9.st (by decide) hS'
     replace hbx := hbx.st (by decide) hS'
     replace hSw := hSw.trans hS'
     replace hMk := hMk.st hS'
     replace hR := hR.st hS'
     replace hR2 := hR2.st hS'
     replace hnA := Nat.le_trans hnA hS'.ext.size
     replace hS := hS.trans hS'
     clear hS'
     refine sv2 hF (v_pickT rfl rfl) (v_move rfl) rfl rfl ?_; clear hF a; intro a hF
     refine svg hF rfl ?_
     refine sv hF (v_move rfl) rfl ?_; clear hF a; intro a hF
     refine svg hF rfl ?_
     refine sv hF (v_lenS rfl sl23 rfl) rfl ?_; clear hF a; intro a hF
     refine svg hF rfl ?_
     refine sv hF (v_load sc48 rfl hb9.at) rfl ?_; clear hF a; intro a hF
     refine svg hF rfl ?_
     refine sv hF (v_ixS sl48 rfl rfl (by omega) (by omega)) rfl ?_; clear hF a; intro a hF
     refine svg hF rfl ?_
     refine sv hF (v_load sc23 rfl (by have h := (hO9.kc (by decide) hv0).c; exact h)) rfl ?_; clear hF a; intro a hF
     refine svg hF rfl ?_
     refine sv hF (v_lenS rfl sl23 rfl) rfl ?_; clear hF a; intro a hF
     refine svg hF rfl ?_
     refine sv2 hF ((v_eql rfl rfl).as (congrArg Value.bool (decide_eq_true (by omega)))) (v_pickT rfl rfl) rfl rfl ?_; clear hF a; intro a hF
     refine s_stb (D := FDx) (B := B) hF on4 rfl rfl (rfl) hb10 hS.inv ?_; intro w' hm hI' hbx'
     replace hb8 := hb8.mb hm (by simp; omega)
     replace hb9 := hb9.mb hm (by simp; omega)
     replace hO8 := hO8.mb hm ((fun k e e2 => hb10.ne_own hO8 (by decide) (e.trans e2.symm)))
     replace hO9 := hO9.mb hm ((fun k e e2 => hb10.ne_own hO9 (by decide) (e.trans e2.symm)))
     replace hbx := hbx.mb hm (by simp; omega)
     replace hSw := hSw.mb hm (fun k h => by cases h; omega)
     replace hMk := hMk.mb hm (fun k e => by cases e; exact ⟨_, _, _, hb10.blk⟩)
     replace hR := hR.mb hm (fun k h => by cases h; exact Nat.le_trans (by omega) hb10.low)
     replace hR2 := hR2.mb hm (fun k h => by cases h; exact Nat.le_trans (by omega) hb10.low)
     replace hnA := Nat.le_trans hnA hm.size
     replace hS := hS.mb hm (fun q h => ⟨by cases h; exact .inr (.inr (.inl rfl)), by cases h; exact ⟨_, _, _, hb10.blk⟩⟩)
     replace hb10 := hbx'
     clear hm hI' hbx'
     refine wn hK ?_
     clear hK K
     replace hF := hF.sub _ n_
     exact ⟨⟨_, _, _, _, hb8, hb9, hb10, hO8.cast (by first | rw [hn1k] | rw [← hn1k, hn1]), hO9.cast (by rw [hn1k]), hbx, hSw, hMk, hR, hR2⟩, hS⟩
    skip
    refine s_bs (D := FDx) (B := B) hF sl48 rfl rfl (by decide) (by simp [Value.cells]) (by decide) hS.inv rfl ?_; clear hF a; intro w' a hm hI' hL9 hF
    replace hb8 := hb8.mb hm (by simp)
    replace hb9 := hb9.mb hm (by simp)
    replace hb10 := hb10.mb hm (by simp)
    replace hO8 := hO8.mb hm (fun _ _ => by simp)
    replace hO9 := hO9.mb hm (fun _ _ => by simp)
    replace hbx := hbx.mb hm (by simp)
    replace hSw := hSw.mb0 hm
    replace hMk := hMk.mb hm (fun k e => by cases e)
    replace hR := hR.mb hm (fun _ h => by cases h)
    replace hR2 := hR2.mb hm (fun _ h => by cases h)
    replace hnA := Nat.le_trans hnA hm.size
    replace hL8 := hL8.mb hm (fun _ _ => by simp)
    replace hS := hS.mb0 hm
    clear hm hI'
    clear hSS
    have hSS := And.intro hb8.at hb9.at
    refine WL_nil ⟨fun _ => hSS, ?_⟩
    refine k_e (i := 3) (by kernel_rfl) rfl ?_
    refine s_app (D := FDx) (B := B) hF rfl sl49 rfl rfl hO8 (hL8.row (by decide)) (by simp [Value.oneCell']) (by rw [h8l]; simp; omega) (by rw [h8l]; simp [maxLen]; omega) (hnA) (by decide) hS.inv rfl ?_; clear hF a; intro v' b' w' a ho' hm hI' hb' hF
    replace hb8 := hb8.mb hm (hb8.ne_own hO8 (by decide))
    replace hb9 := hb9.mb hm (hb9.ne_own hO8 (by decide))
    replace hb10 := hb10.mb hm (hb10.ne_own hO8 (by decide))
    replace hO9 := hO9.mb hm (hO9.ne_type hO8 (by decide))
    replace hbx := hbx.mb hm (hbx.ne_own hO8 (by decide))
    replace hSw := hSw.mb hm (fun k h => Nat.le_trans (by omega) (hO8.lt k h).1)
    replace hMk := hMk.mb hm hO8.isrow
    replace hR := hR.mb hm (fun k h => Nat.le_trans (by omega) (hO8.lt k h).1)
    replace hR2 := hR2.mb hm (fun k h => Nat.le_trans (by omega) (hO8.lt k h).1)
    replace hnA := Nat.le_trans hnA hm.size
    replace hL9 := hL9.mb hm (hL9.ne_type hO8 (by decide))
    replace hS := hS.mb hm (fun q h => ⟨.inr (.inr (.inr (hO8.lt q h).1)), hO8.isrow q h⟩)
    replace hO8 := ho'
    clear hm hI' ho'
    clear hSS
    have hSS := And.intro hb8.at hb9.at
    refine WL_nil ⟨fun _ => hSS, ?_⟩
    refine k_e (i := 7) (by kernel_rfl) rfl ?_
    refine s_app (D := FDx) (B := B) hF rfl sl48 rfl rfl hO9 (hL9.row (by decide)) (by simp [Value.oneCell']) (by rw [h9l]; simp; omega) (by rw [h9l]; simp [maxLen]; omega) (hnA) (by decide) hS.inv rfl ?_; clear hF a; intro v' b' w' a ho' hm hI' hb' hF
    replace hb8 := hb8.mb hm (hb8.ne_own hO9 (by decide))
    replace hb9 := hb9.mb hm (hb9.ne_own hO9 (by decide))
    replace hb10 := hb10.mb hm (hb10.ne_own hO9 (by decide))
    replace hO8 := hO8.mb hm (hO8.ne_type hO9 (by decide))
    replace hbx := hbx.mb hm (hbx.ne_own hO9 (by decide))
    replace hSw := hSw.mb hm (fun k h => Nat.le_trans (by omega) (hO9.lt k h).1)
    replace hMk := hMk.mb hm hO9.isrow
    replace hR := hR.mb hm (fun k h => Nat.le_trans (by omega) (hO9.lt k h).1)
    replace hR2 := hR2.mb hm (fun k h => Nat.le_trans (by omega) (hO9.lt k h).1)
    replace hnA := Nat.le_trans hnA hm.size
    replace hS := hS.mb hm (fun q h => ⟨.inr (.inr (.inr (hO9.lt q h).1)), hO9.isrow q h⟩)
    replace hO9 := ho'
    clear hm hI' ho'
    clear hSS
    have hSS := And.intro hb8.at hb9.at
    refine WL_nil ⟨fun _ => hSS, ?_⟩
    refine k_e (i := 8) (by kernel_rfl) rfl ?_
    refine s_stb (D := FDx) (B := B) hF on49 rfl rfl (by obtain ⟨_, _, rfl⟩ := hO8.shape; rfl) hb8 hS.inv ?_; intro w' hm hI' hbx'
    replace hb9 := hb9.mb hm (by simp; omega)
    replace hb10 := hb10.mb hm (by simp; omega)
    replace hO8 := hO8.mb hm ((fun k e e2 => hb8.ne_own hO8 (by decide) (e.trans e2.symm)))
    replace hO9 := hO9.mb hm ((fun k e e2 => hb8.ne_own hO9 (by decide) (e.trans e2.symm)))
    replace hbx := hbx.mb hm (by simp; omega)
    replace hSw := hSw.mb hm (fun k h => by cases h; omega)
    replace hMk := hMk.mb hm (fun k e => by cases e; exact ⟨_, _, _, hb8.blk⟩)
    replace hR := hR.mb hm (fun k h => by cases h; exact Nat.le_trans (by omega) hb8.low)
    replace hR2 := hR2.mb hm (fun k h => by cases h; exact Nat.le_trans (by omega) hb8.low)
    replace hnA := Nat.le_trans hnA hm.size
    replace hS := hS.mb hm (fun q h => ⟨by cases h; exact .inl rfl, by cases h; exact ⟨_, _, _, hb8.blk⟩⟩)
    replace hb8 := hbx'
    clear hm hI' hbx'
    refine WL_nil ⟨fun h => absurd h (by decide), ?_⟩
    refine k_e (i := 9) (by kernel_rfl) rfl ?_
    refine s_stb (D := FDx) (B := B) hF on48 rfl rfl (by obtain ⟨_, _, rfl⟩ := hO9.shape; rfl) hb9 hS.inv ?_; intro w' hm hI' hbx'
    replace hb8 := hb8.mb hm (by simp; omega)
    replace hb10 := hb10.mb hm (by simp; omega)
    replace hO8 := hO8.mb hm ((fun k e e2 => hb9.ne_own hO8 (by decide) (e.trans e2.symm)))
    replace hO9 := hO9.mb hm ((fun k e e2 => hb9.ne_own hO9 (by decide) (e.trans e2.symm)))
    replace hbx := hbx.mb hm (by simp; omega)
    replace hSw := hSw.mb hm (fun k h => by cases h; omega)
    replace hMk := hMk.mb hm (fun k e => by cases e; exact ⟨_, _, _, hb9.blk⟩)
    replace hR := hR.mb hm (fun k h => by cases h; exact Nat.le_trans (by omega) hb9.low)
    replace hR2 := hR2.mb hm (fun k h => by cases h; exact Nat.le_trans (by omega) hb9.low)
    replace hnA := Nat.le_trans hnA hm.size
    replace hS := hS.mb hm (fun q h => ⟨by cases h; exact .inr (.inl rfl), by cases h; exact ⟨_, _, _, hb9.blk⟩⟩)
    replace hb9 := hbx'
    clear hm hI' hbx'
    replace hO8 := hO8.cast (show _ = zints (ixL n1) by rw [hn1]; exact ixL_snoc t)
    replace hO9 := hO9.cast (show _ = vals.take n1 by rw [hn1]; exact take_next hu)
    refine WL_nil ⟨fun h => absurd h (by decide), ?_⟩
    refine k_done (by kernel_rfl) (hK _ _ ?_) _
    clear hK K
    replace hF := hF.sub _ (c_ 3 rfl (c_ 9 rfl (c_ 10 rfl (c_ 12 rfl n_))))
    have hge : 1 ≤ n1 := by omega
    obtain ⟨a9, c9, rfl⟩ := hO9.shape
    have hv0 : (vals.take n1)[0]? = some (.slice px0 L cx0) := by rw [List.getElem?_take, if_pos (by omega)]; exact hu0
    have h9n : (vals.take n1).length = n1 := by simp; omega
    rw [h9n] at hb9 hO9
    obtain ⟨g9c, c9b, hpe9, -⟩ := hO9.ptr (by rw [h9n]; omega)
    obtain ⟨rfl, -, -⟩ := Value.slice.inj hpe9
    refine Rd.W_reg rfl rfl (fun K hK => ?_)
    refine sv2 hF (v_load sc4 rfl hb10.at) (v_move rfl) rfl rfl ?_; clear hF a; intro a hF
    refine svg hF rfl ?_
    refine sv hF (v_loadN Tryz.underlying30 rfl (by kernel_rfl) rfl hbx) rfl ?_; clear hF a; intro a hF
    refine svg hF rfl ?_
    refine sv hF (v_move rfl) rfl ?_; clear hF a; intro a hF
    refine svg hF rfl ?_
    refine sc hF rfl rfl rfl en57 rfl (even_ok B p k m pxt cxt bt _ hS.inv hp (fun e => by rw [hbtl]; exact hev e)) ?_; clear hF a; intro v w' a hv hF
    obtain ⟨rfl, hS'⟩ := hv
    replace hb8 := hb8.st hS'
    replace hb9 := hb9.st hS'
    replace hb10 := hb10.st hS'
    replace hO8 := hO8.st (by decide) hS'
    replace hO9 := hO9.st (by decide) hS'
    replace hbx := hbx.st (by decide) hS'
    replace hSw := hSw.trans hS'
    replace hMk := hMk.st hS'
    replace hR := hR.st hS'
    replace hR2 := hR2.st hS'
    replace hnA := Nat.le_trans hnA hS'.ext.size
    replace hS := hS.trans hS'
    clear hS'
    refine sv2 hF (v_pickT rfl rfl) (v_move rfl) rfl rfl ?_; clear hF a; intro a hF
    refine svg hF rfl ?_
    refine sv hF (v_move rfl) rfl ?_; clear hF a; intro a hF
    refine svg hF rfl ?_
    refine sv hF (v_lenS rfl sl23 rfl) rfl ?_; clear hF a; intro a hF
    refine svg hF rfl ?_
    refine sv hF (v_load sc48 rfl hb9.at) rfl ?_; clear hF a; intro a hF
    refine svg hF rfl ?_
    refine sv hF (v_ixS sl48 rfl rfl (by omega) (by omega)) rfl ?_; clear hF a; intro a hF
    refine svg hF rfl ?_
    refine sv hF (v_load sc23 rfl (by have h := (hO9.kc (by decide) hv0).c; exact h)) rfl ?_; clear hF a; intro a hF
    refine svg hF rfl ?_
    refine sv hF (v_lenS rfl sl23 rfl) rfl ?_; clear hF a; intro a hF
    refine svg hF rfl ?_
    refine sv2 hF ((v_eql rfl rfl).as (congrArg Value.bool (decide_eq_true (by omega)))) (v_pickT rfl rfl) rfl rfl ?_; clear hF a; intro a hF
    refine s_stb (D := FDx) (B := B) hF on4 rfl rfl (rfl) hb10 hS.inv ?_; intro w' hm hI' hbx'
    replace hb8 := hb8.mb hm (by simp; omega)
    replace hb9 := hb9.mb hm (by simp; omega)
    replace hO8 := hO8.mb hm ((fun k e e2 => hb10.ne_own hO8 (by decide) (e.trans e2.symm)))
    replace hO9 := hO9.mb hm ((fun k e e2 => hb10.ne_own hO9 (by decide) (e.trans e2.symm)))
    replace hbx := hbx.mb hm (by simp; omega)
    replace hSw := hSw.mb hm (fun k h => by cases h; omega)
    replace hMk := hMk.mb hm (fun k e => by cases e; exact ⟨_, _, _, hb10.blk⟩)
    replace hR := hR.mb hm (fun k h => by cases h; exact Nat.le_trans (by omega) hb10.low)
    replace hR2 := hR2.mb hm (fun k h => by cases h; exact Nat.le_trans (by omega) hb10.low)
    replace hnA := Nat.le_trans hnA hm.size
    replace hS := hS.mb hm (fun q h => ⟨by cases h; exact .inr (.inr (.inl rfl)), by cases h; exact ⟨_, _, _, hb10.blk⟩⟩)
    replace hb10 := hbx'
    clear hm hI' hbx'
    refine wn hK ?_
    clear hK K
    replace hF := hF.sub _ n_
    exact ⟨⟨_, _, _, _, hb8, hb9, hb10, hO8.cast (by first | rw [hn1k] | rw [← hn1k, hn1]), hO9.cast (by rw [hn1k]), hbx, hSw, hMk, hR, hR2⟩, hS⟩
   skip
   refine s_bs (D := FDx) (B := B) hF sl48 rfl rfl (by decide) (by simp [Value.cells]) (by decide) hS.inv rfl ?_; clear hF a; intro w' a hm hI' hL9 hF
   replace hb8 := hb8.mb hm (by simp)
   replace hb9 := hb9.mb hm (by simp)
   replace hb10 := hb10.mb hm (by simp)
   replace hO8 := hO8.mb hm (fun _ _ => by simp)
   replace hO9 := hO9.mb hm (fun _ _ => by simp)
   replace hbx := hbx.mb hm (by simp)
   replace hSw := hSw.mb0 hm
   replace hMk := hMk.mb hm (fun k e => by cases e)
   replace hR := hR.mb hm (fun _ h => by cases h)
   replace hR2 := hR2.mb hm (fun _ h => by cases h)
   replace hnA := Nat.le_trans hnA hm.size
   replace hS := hS.mb0 hm
   clear hm hI'
   clear hSS
   have hSS := And.intro hb8.at hb9.at
   refine WL_nil ⟨fun _ => hSS, ?_⟩
   refine k_e (i := 2) (by kernel_rfl) rfl ?_
   refine s_bs (D := FDx) (B := B) hF sl49 rfl rfl (by decide) (by simp [Value.cells]) (by decide) hS.inv rfl ?_; clear hF a; intro w' a hm hI' hL8 hF
   replace hb8 := hb8.mb hm (by simp)
   replace hb9 := hb9.mb hm (by simp)
   replace hb10 := hb10.mb hm (by simp)
   replace hO8 := hO8.mb hm (fun _ _ => by simp)
   replace hO9 := hO9.mb hm (fun _ _ => by simp)
   replace hbx := hbx.mb hm (by simp)
   replace hSw := hSw.mb0 hm
   replace hMk := hMk.mb hm (fun k e => by cases e)
   replace hR := hR.mb hm (fun _ h => by cases h)
   replace hR2 := hR2.mb hm (fun _ h => by cases h)
   replace hnA := Nat.le_trans hnA hm.size
   replace hL9 := hL9.mb hm (fun _ _ => by simp)
   replace hS := hS.mb0 hm
   clear hm hI'
   clear hSS
   have hSS := And.intro hb8.at hb9.at
   refine WL_nil ⟨fun _ => hSS, ?_⟩
   refine k_e (i := 3) (by kernel_rfl) rfl ?_
   refine s_app (D := FDx) (B := B) hF rfl sl49 rfl rfl hO8 (hL8.row (by decide)) (by simp [Value.oneCell']) (by rw [h8l]; simp; omega) (by rw [h8l]; simp [maxLen]; omega) (hnA) (by decide) hS.inv rfl ?_; clear hF a; intro v' b' w' a ho' hm hI' hb' hF
   replace hb8 := hb8.mb hm (hb8.ne_own hO8 (by decide))
   replace hb9 := hb9.mb hm (hb9.ne_own hO8 (by decide))
   replace hb10 := hb10.mb hm (hb10.ne_own hO8 (by decide))
   replace hO9 := hO9.mb hm (hO9.ne_type hO8 (by decide))
   replace hbx := hbx.mb hm (hbx.ne_own hO8 (by decide))
   replace hSw := hSw.mb hm (fun k h => Nat.le_trans (by omega) (hO8.lt k h).1)
   replace hMk := hMk.mb hm hO8.isrow
   replace hR := hR.mb hm (fun k h => Nat.le_trans (by omega) (hO8.lt k h).1)
   replace hR2 := hR2.mb hm (fun k h => Nat.le_trans (by omega) (hO8.lt k h).1)
   replace hnA := Nat.le_trans hnA hm.size
   replace hL9 := hL9.mb hm (hL9.ne_type hO8 (by decide))
   replace hS := hS.mb hm (fun q h => ⟨.inr (.inr (.inr (hO8.lt q h).1)), hO8.isrow q h⟩)
   replace hO8 := ho'
   clear hm hI' ho'
   clear hSS
   have hSS := And.intro hb8.at hb9.at
   refine WL_nil ⟨fun _ => hSS, ?_⟩
   refine k_e (i := 7) (by kernel_rfl) rfl ?_
   refine s_app (D := FDx) (B := B) hF rfl sl48 rfl rfl hO9 (hL9.row (by decide)) (by simp [Value.oneCell']) (by rw [h9l]; simp; omega) (by rw [h9l]; simp [maxLen]; omega) (hnA) (by decide) hS.inv rfl ?_; clear hF a; intro v' b' w' a ho' hm hI' hb' hF
   replace hb8 := hb8.mb hm (hb8.ne_own hO9 (by decide))
   replace hb9 := hb9.mb hm (hb9.ne_own hO9 (by decide))
   replace hb10 := hb10.mb hm (hb10.ne_own hO9 (by decide))
   replace hO8 := hO8.mb hm (hO8.ne_type hO9 (by decide))
   replace hbx := hbx.mb hm (hbx.ne_own hO9 (by decide))
   replace hSw := hSw.mb hm (fun k h => Nat.le_trans (by omega) (hO9.lt k h).1)
   replace hMk := hMk.mb hm hO9.isrow
   replace hR := hR.mb hm (fun k h => Nat.le_trans (by omega) (hO9.lt k h).1)
   replace hR2 := hR2.mb hm (fun k h => Nat.le_trans (by omega) (hO9.lt k h).1)
   replace hnA := Nat.le_trans hnA hm.size
   replace hS := hS.mb hm (fun q h => ⟨.inr (.inr (.inr (hO9.lt q h).1)), hO9.isrow q h⟩)
   replace hO9 := ho'
   clear hm hI' ho'
   clear hSS
   have hSS := And.intro hb8.at hb9.at
   refine WL_nil ⟨fun _ => hSS, ?_⟩
   refine k_e (i := 8) (by kernel_rfl) rfl ?_
   refine s_stb (D := FDx) (B := B) hF on49 rfl rfl (by obtain ⟨_, _, rfl⟩ := hO8.shape; rfl) hb8 hS.inv ?_; intro w' hm hI' hbx'
   replace hb9 := hb9.mb hm (by simp; omega)
   replace hb10 := hb10.mb hm (by simp; omega)
   replace hO8 := hO8.mb hm ((fun k e e2 => hb8.ne_own hO8 (by decide) (e.trans e2.symm)))
   replace hO9 := hO9.mb hm ((fun k e e2 => hb8.ne_own hO9 (by decide) (e.trans e2.symm)))
   replace hbx := hbx.mb hm (by simp; omega)
   replace hSw := hSw.mb hm (fun k h => by cases h; omega)
   replace hMk := hMk.mb hm (fun k e => by cases e; exact ⟨_, _, _, hb8.blk⟩)
   replace hR := hR.mb hm (fun k h => by cases h; exact Nat.le_trans (by omega) hb8.low)
   replace hR2 := hR2.mb hm (fun k h => by cases h; exact Nat.le_trans (by omega) hb8.low)
   replace hnA := Nat.le_trans hnA hm.size
   replace hS := hS.mb hm (fun q h => ⟨by cases h; exact .inl rfl, by cases h; exact ⟨_, _, _, hb8.blk⟩⟩)
   replace hb8 := hbx'
   clear hm hI' hbx'
   refine WL_nil ⟨fun h => absurd h (by decide), ?_⟩
   refine k_e (i := 9) (by kernel_rfl) rfl ?_
   refine s_stb (D := FDx) (B := B) hF on48 rfl rfl (by obtain ⟨_, _, rfl⟩ := hO9.shape; rfl) hb9 hS.inv ?_; intro w' hm hI' hbx'
   replace hb8 := hb8.mb hm (by simp; omega)
   replace hb10 := hb10.mb hm (by simp; omega)
   replace hO8 := hO8.mb hm ((fun k e e2 => hb9.ne_own hO8 (by decide) (e.trans e2.symm)))
   replace hO9 := hO9.mb hm ((fun k e e2 => hb9.ne_own hO9 (by decide) (e.trans e2.symm)))
   replace hbx := hbx.mb hm (by simp; omega)
   replace hSw := hSw.mb hm (fun k h => by cases h; omega)
   replace hMk := hMk.mb hm (fun k e => by cases e; exact ⟨_, _, _, hb9.blk⟩)
   replace hR := hR.mb hm (fun k h => by cases h; exact Nat.le_trans (by omega) hb9.low)
   replace hR2 := hR2.mb hm (fun k h => by cases h; exact Nat.le_trans (by omega) hb9.low)
   replace hnA := Nat.le_trans hnA hm.size
   replace hS := hS.mb hm (fun q h => ⟨by cases h; exact .inr (.inl rfl), by cases h; exact ⟨_, _, _, hb9.blk⟩⟩)
   replace hb9 := hbx'
   clear hm hI' hbx'
   replace hO8 := hO8.cast (show _ = zints (ixL n1) by rw [hn1]; exact ixL_snoc t)
   replace hO9 := hO9.cast (show _ = vals.take n1 by rw [hn1]; exact take_next hu)
   refine WL_nil ⟨fun h => absurd h (by decide), ?_⟩
   refine k_done (by kernel_rfl) (hK _ _ ?_) _
   clear hK K
   replace hF := hF.sub _ (c_ 3 rfl (c_ 9 rfl (c_ 10 rfl (c_ 12 rfl n_))))
   have hge : 1 ≤ n1 := by omega
   obtain ⟨a9, c9, rfl⟩ := hO9.shape
   have hv0 : (vals.take n1)[0]? = some (.slice px0 L cx0) := by rw [List.getElem?_take, if_pos (by omega)]; exact hu0
   have h9n : (vals.take n1).length = n1 := by simp; omega
   rw [h9n] at hb9 hO9
   obtain ⟨g9c, c9b, hpe9, -⟩ := hO9.ptr (by rw [h9n]; omega)
   obtain ⟨rfl, -, -⟩ := Value.slice.inj hpe9
   refine Rd.W_reg rfl rfl (fun K hK => ?_)
   refine sv2 hF (v_load sc4 rfl hb10.at) (v_move rfl) rfl rfl ?_; clear hF a; intro a hF
   refine svg hF rfl ?_
   refine sv hF (v_loadN Tryz.underlying30 rfl (by kernel_rfl) rfl hbx) rfl ?_; clear hF a; intro a hF
   refine svg hF rfl ?_
   refine sv hF (v_move rfl) rfl ?_; clear hF a; intro a hF
   refine svg hF rfl ?_
   refine sc hF rfl rfl rfl en57 rfl (even_ok B p k m pxt cxt bt _ hS.inv hp (fun e => by rw [hbtl]; exact hev e)) ?_; clear hF a; intro v w' a hv hF
   obtain ⟨rfl, hS'⟩ := hv
   replace hb8 := hb8.st hS'
   replace hb9 := hb9.st hS'
   replace hb10 := hb10.st hS'
   replace hO8 := hO8.st (by decide) hS'
   replace hO9 := hO9.st (by decide) hS'
   replace hbx := hbx.st (by decide) hS'
   replace hSw := hSw.trans hS'
   replace hMk := hMk.st hS'
   replace hR := hR.st hS'
   replace hR2 := hR2.st hS'
   replace hnA := Nat.le_trans hnA hS'.ext.size
   replace hS := hS.trans hS'
   clear hS'
   refine sv2 hF (v_pickT rfl rfl) (v_move rfl) rfl rfl ?_; clear hF a; intro a hF
   refine svg hF rfl ?_
   refine sv hF (v_move rfl) rfl ?_; clear hF a; intro a hF
   refine svg hF rfl ?_
   refine sv hF (v_lenS rfl sl23 rfl) rfl ?_; clear hF a; intro a hF
   refine svg hF rfl ?_
   refine sv hF (v_load sc48 rfl hb9.at) rfl ?_; clear hF a; intro a hF
   refine svg hF rfl ?_
   refine sv hF (v_ixS sl48 rfl rfl (by omega) (by omega)) rfl ?_; clear hF a; intro a hF
   refine svg hF rfl ?_
   refine sv hF (v_load sc23 rfl (by have h := (hO9.kc (by decide) hv0).c; exact h)) rfl ?_; clear hF a; intro a hF
   refine svg hF rfl ?_
   refine sv hF (v_lenS rfl sl23 rfl) rfl ?_; clear hF a; intro a hF
   refine svg hF rfl ?_
   refine sv2 hF ((v_eql rfl rfl).as (congrArg Value.bool (decide_eq_true (by omega)))) (v_pickT rfl rfl) rfl rfl ?_; clear hF a; intro a hF
   refine s_stb (D := FDx) (B := B) hF on4 rfl rfl (rfl) hb10 hS.inv ?_; intro w' hm hI' hbx'
   replace hb8 := hb8.mb hm (by simp; omega)
   replace hb9 := hb9.mb hm (by simp; omega)
   replace hO8 := hO8.mb hm ((fun k e e2 => hb10.ne_own hO8 (by decide) (e.trans e2.symm)))
   replace hO9 := hO9.mb hm ((fun k e e2 => hb10.ne_own hO9 (by decide) (e.trans e2.symm)))
   replace hbx := hbx.mb hm (by simp; omega)
   replace hSw := hSw.mb hm (fun k h => by cases h; omega)
   replace hMk := hMk.mb hm (fun k e => by cases e; exact ⟨_, _, _, hb10.blk⟩)
   replace hR := hR.mb hm (fun k h => by cases h; exact Nat.le_trans (by omega) hb10.low)
   replace hR2 := hR2.mb hm (fun k h => by cases h; exact Nat.le_trans (by omega) hb10.low)
   replace hnA := Nat.le_trans hnA hm.size
   replace hS := hS.mb hm (fun q h => ⟨by cases h; exact .inr (.inr (.inl rfl)), by cases h; exact ⟨_, _, _, hb10.blk⟩⟩)
   replace hb10 := hbx'
   clear hm hI' hbx'
   refine wn hK ?_
   clear hK K
   replace hF := hF.sub _ n_
   exact ⟨⟨_, _, _, _, hb8, hb9, hb10, hO8.cast (by first | rw [hn1k] | rw [← hn1k, hn1]), hO9.cast (by rw [hn1k]), hbx, hSw, hMk, hR, hR2⟩, hS⟩
  skip
  try simp only [dcl] at hc1
  have htk : ¬ t < k := by omega
  have hmn : min t k = k := Nat.min_eq_right (by omega)
  rw [hmn] at hb8 hO8 hO9 hF
  obtain ⟨n1, hn1⟩ : ∃ n, n = k := ⟨_, rfl⟩
  have hn1k : n1 = min (t + 1) k := by rw [hn1]; exact (Nat.min_eq_right (by omega)).symm
  rw [← hn1] at hO9
  refine Rd.W_skip ?_
  have hge : 1 ≤ n1 := by omega
  obtain ⟨a9, c9, rfl⟩ := hO9.shape
  have hv0 : (vals.take n1)[0]? = some (.slice px0 L cx0) := by rw [List.getElem?_take, if_pos (by omega)]; exact hu0
  have h9n : (vals.take n1).length = n1 := by simp; omega
  rw [h9n] at hb9 hO9
  obtain ⟨g9c, c9b, hpe9, -⟩ := hO9.ptr (by rw [h9n]; omega)
  obtain ⟨rfl, -, -⟩ := Value.slice.inj hpe9
  refine Rd.W_reg rfl rfl (fun K hK => ?_)
  refine sv2 hF (v_load sc4 rfl hb10.at) (v_move rfl) rfl rfl ?_; clear hF a; intro a hF
  refine svg hF rfl ?_
  refine sv hF (v_loadN Tryz.underlying30 rfl (by kernel_rfl) rfl hbx) rfl ?_; clear hF a; intro a hF
  refine svg hF rfl ?_
  refine sv hF (v_move rfl) rfl ?_; clear hF a; intro a hF
  refine svg hF rfl ?_
  refine sc hF rfl rfl rfl en57 rfl (even_ok B p k m pxt cxt bt _ hS.inv hp (fun e => by rw [hbtl]; exact hev e)) ?_; clear hF a; intro v w' a hv hF
  obtain ⟨rfl, hS'⟩ := hv
  replace hb8 := hb8.st hS'
  replace hb9 := hb9.st hS'
  replace hb10 := hb10.st hS'
  replace hO8 := hO8.st (by decide) hS'
  replace hO9 := hO9.st (by decide) hS'
  replace hbx := hbx.st (by decide) hS'
  replace hSw := hSw.trans hS'
  replace hMk := hMk.st hS'
  replace hR := hR.st hS'
  replace hR2 := hR2.st hS'
  replace hnA := Nat.le_trans hnA hS'.ext.size
  replace hS := hS.trans hS'
  clear hS'
  refine sv2 hF (v_pickT rfl rfl) (v_move rfl) rfl rfl ?_; clear hF a; intro a hF
  refine svg hF rfl ?_
  refine sv hF (v_move rfl) rfl ?_; clear hF a; intro a hF
  refine svg hF rfl ?_
  refine sv hF (v_lenS rfl sl23 rfl) rfl ?_; clear hF a; intro a hF
  refine svg hF rfl ?_
  refine sv hF (v_load sc48 rfl hb9.at) rfl ?_; clear hF a; intro a hF
  refine svg hF rfl ?_
  refine sv hF (v_ixS sl48 rfl rfl (by omega) (by omega)) rfl ?_; clear hF a; intro a hF
  refine svg hF rfl ?_
  refine sv hF (v_load sc23 rfl (by have h := (hO9.kc (by decide) hv0).c; exact h)) rfl ?_; clear hF a; intro a hF
  refine svg hF rfl ?_
  refine sv hF (v_lenS rfl sl23 rfl) rfl ?_; clear hF a; intro a hF
  refine svg hF rfl ?_
  refine sv2 hF ((v_eql rfl rfl).as (congrArg Value.bool (decide_eq_true (by omega)))) (v_pickT rfl rfl) rfl rfl ?_; clear hF a; intro a hF
  refine s_stb (D := FDx) (B := B) hF on4 rfl rfl (rfl) hb10 hS.inv ?_; intro w' hm hI' hbx'
  replace hb8 := hb8.mb hm (by simp; omega)
  replace hb9 := hb9.mb hm (by simp; omega)
  replace hO8 := hO8.mb hm ((fun k e e2 => hb10.ne_own hO8 (by decide) (e.trans e2.symm)))
  replace hO9 := hO9.mb hm ((fun k e e2 => hb10.ne_own hO9 (by decide) (e.trans e2.symm)))
  replace hbx := hbx.mb hm (by simp; omega)
  replace hSw := hSw.mb hm (fun k h => by cases h; omega)
  replace hMk := hMk.mb hm (fun k e => by cases e; exact ⟨_, _, _, hb10.blk⟩)
  replace hR := hR.mb hm (fun k h => by cases h; exact Nat.le_trans (by omega) hb10.low)
  replace hR2 := hR2.mb hm (fun k h => by cases h; exact Nat.le_trans (by omega) hb10.low)
  replace hnA := Nat.le_trans hnA hm.size
  replace hS := hS.mb hm (fun q h => ⟨by cases h; exact .inr (.inr (.inl rfl)), by cases h; exact ⟨_, _, _, hb10.blk⟩⟩)
  replace hb10 := hbx'
  clear hm hI' hbx'
  refine wn hK ?_
  clear hK K
  replace hF := hF.sub _ n_
  exact ⟨⟨_, _, _, _, hb8, hb9, hb10, hO8.cast (by first | rw [hn1k] | rw [← hn1k, hn1]), hO9.cast (by rw [hn1k]), hbx, hSw, hMk, hR, hR2⟩, hS⟩
 ·
  skip
  clear hF hS hb8 hb9 hb10 hbx hR hR2 hks hkv
  rintro a W hF hD ⟨v8, b8, v9, b9, hb8, hb9, hb10, hO8, hO9, hbx, hS, hMk2, hR, hR2⟩ hz0
  replace hMk := Mk.cons (D := FDx) (B := B) hMk (Nat.le_refl _) hsw hMk2 hD
  clear hMk2 hD
  have hmk : min (prsV vals).length k = k := by rw [prsV_len]; exact Nat.min_eq_right (by omega)
  rw [hmk] at hO8 hO9
  rw [← hnz] at hF hMk
  obtain ⟨a8, c8, rfl⟩ := hO8.shape
  obtain ⟨a9, c9, rfl⟩ := hO9.shape
  have h9k : (vals.take k).length = k := by simp; omega
  rw [zints_length, ixL_len] at hb8 hO8
  refine W_seq ?_
  refine W_block ?_
  refine W_sr rfl fun K hK => ?_
  refine sv6w hK hF (v_load sc49 rfl hb8.at) (v_lenS rfl sl49 rfl) (v_fieldAddr fa30_1 rfl) (v_load sc3 rfl (hbx.at 1 rfl)) ((v_lss rfl rfl).as (congrArg Value.bool (decide_eq_false (by omega)))) (v_assign rfl) rfl rfl rfl rfl rfl rfl ?_; clear hF a hK K; intro a hF
  replace hF := hF.sub _ (c_ 64 rfl (c_ 69 rfl (c_ 68 rfl (c_ 67 rfl (c_ 66 rfl (c_ 65 rfl (c_ 10 rfl (c_ 9 rfl (c_ 8 rfl (c_ 7 rfl (c_ 6 rfl (c_ 3 rfl n_))))))))))))
  refine W_ifF hF rfl ?_
  refine W_sr rfl fun K hK => ?_
  refine sv3w hK hF (v_load sc4 rfl hb10.at) (v_not rfl) (v_assign rfl) rfl rfl rfl ?_; clear hF a hK K; intro a hF
  refine W_ifF hF rfl ?_
  refine W_skip ?_
  refine W_sr rfl fun K hK => ?_
  refine sv hF (v_loadN Tryz.underlying30 rfl (by kernel_rfl) rfl hbx) rfl ?_; clear hF a; intro a hF
  refine sv hF (v_load sc49 rfl hb8.at) rfl ?_; clear hF a; intro a hF
  refine sc hF rfl rfl rfl en58 rfl (hInv B _ _ _ _ hS.inv hB hO8) ?_; clear hF a; intro v w' a hv hF
  obtain ⟨sa, cap, rfl, hA, hS'⟩ := hv
  obtain ⟨M2, hM2⟩ : ∃ q, q = w'.heap.size := ⟨_, rfl⟩
  rw [← hM2] at hA
  replace hb8 := hb8.st hS'
  replace hb9 := hb9.st hS'
  replace hb10 := hb10.st hS'
  replace hO8 := hO8.st (by decide) hS'
  replace hO9 := hO9.st (by decide) hS'
  replace hbx := hbx.st (by decide) hS'
  replace hMk := hMk.st hS'
  replace hR := hR.st hS'
  replace hR2 := hR2.st hS'
  replace hS := hS.trans hS'
  clear hS'
  have hKs : M2 ≤ w'.heap.size := by omega
  have hNK : w.heap.size ≤ M2 := by rw [hM2]; exact hS.ext.size
  have hR9 := hO9.row (by decide)
  rw [← hM2] at hR9
  have hR2k := (rows2_take hR2 k).mono (show M ≤ M2 by omega)
  have hg9l := heap_lt hb9.blk
  rw [← hM2] at hg9l
  clear hM2 hO8 hO9 hb8 hb10 hR hR2
  refine sv5w hK hF (v_move rfl) (v_ext rfl rfl) (v_ext rfl rfl) (v_assign rfl) (v_assign rfl) rfl rfl rfl rfl rfl ?_; clear hF a hK K; intro a hF
  refine W_seq ?_
  refine W_sr rfl fun K hK => ?_
  refine sv2w hK hF (v_move rfl) ((v_neq rfl rfl).as (congrArg Value.bool (decide_eq_false (fun h => h rfl)))) rfl rfl ?_; clear hF a hK K; intro a hF
  refine W_ifF hF rfl ?_
  refine W_skip ?_
  refine W_sr rfl fun K hK => ?_
  refine svw hK hF (v_assign rfl) rfl ?_; clear hF a hK K; intro a hF
  refine W_seq ?_
  refine W_sr rfl fun K hK => ?_
  refine sv3w hK hF (v_move rfl) (v_lenS rfl sl134 rfl) (v_move rfl) rfl rfl rfl ?_; clear hF a hK K; intro a hF
  refine W_block ?_
  refine W_loop (fun q a w1 => ∃ (i : Nat) (v15 : Value) (b15 : Option Nat) (vs : List Value), Fr ⟨103, [nz]⟩ [(3, .pointer (some ⟨w.heap.size, 0, none⟩)), (9, .pointer (some ⟨g9, 0, none⟩)), (15, v15), (82, .slice sa k cap), (83, .int .i64 (k : Int)), (84, .int .i64 (i : Int))] a ∧ (St FDx B w w1) ∧ (Row FDx B M2 w1 (.slice a9 (vals.take k).length c9) (vals.take k)) ∧ (Rows2 FDx B M2 w1 (vals.take k) (bss.take k)) ∧ (Blk w1 w.heap.size 30 [.int .i64 (p : Int), .int .i64 (k : Int), .int .i64 (m : Int)]) ∧ (Box FDx B g9 w1 g9 48 (.slice a9 (vals.take k).length c9)) ∧ (Mat FDx B M2 w1 sa cap (idM k)) ∧ (Gam.Own FDx B M2 w1 23 v15 b15 vs) ∧ (Owns2 FDx B M2 w1 5 vs (((idM k).take i).map (fun r => (rdot (some (fldN p)) r (bss.take k)).getD []))) ∧ (M2 ≤ w1.heap.size) ∧ (Mk w.heap.size [nz] w1) ∧ (i ≤ k) ∧ (q + i = k)) (k) ?_ ?_
  · skip
    exact ⟨0, _, none, [], hF.sub _ (c_ 3 rfl (c_ 9 rfl (c_ 15 rfl (c_ 82 rfl (c_ 83 rfl (c_ 84 rfl n_)))))), hS, hR9, hR2k, hbx, hb9, hA, Gam.Own.nil _ _ _ _ _, Owns2.nil _ _ _ _ _, hKs, hMk, by omega, by omega⟩
  skip
  clear hF
  clear hS hR9 hR2k hbx hb9 hA hKs hMk
  rintro q a w1 ⟨i, v15, b15, vs, hF, hS, hR9, hR2k, hbx, hb9, hA, hO, hQ, hKs, hMk, hi, hq⟩
  refine W_sr rfl fun K hK => ?_
  refine svw hK hF (v_lss rfl rfl) rfl ?_; clear hF a hK K; intro a hF
  refine W_seq ?_
  refine W_if hF rfl (fun hc2 => ?_) (fun hc2 => ?_)
  ·
   skip
   try simp only [dcl] at hc2
   have hlt : i < k := by omega
   have hil : (idM k).length = k := by simp [idM]
   obtain ⟨r, hr⟩ : ∃ z, (idM k)[i]? = some z := ⟨_, List.getElem?_eq_getElem (by omega)⟩
   obtain ⟨gx, ox, pr, cr, hgx, hkc, hrow, -⟩ := hA.row hr
   obtain ⟨y, hy⟩ := hdot r (List.mem_of_getElem? hr)
   have hvl2 := hQ.1
   subst hgx
   refine W_skip ?_
   refine W_seq ?_
   refine W_block ?_
   refine W_sr rfl fun K hK => ?_
   refine sv hF (v_ixS sl134 rfl rfl (by omega) (by omega)) rfl ?_; clear hF a; intro a hF
   refine sv hF (v_load sc49 rfl (by rw [toNat_c]; exact hkc.c)) rfl ?_; clear hF a; intro a hF
   refine svw hK hF (v_assign rfl) rfl ?_; clear hF a hK K; intro a hF
   refine W_seq ?_
   refine W_dS (fun w2 => w2.cell? ⟨w.heap.size, 0, none⟩ = some (.int .i64 (p : Int)) ∧ w2.cell? ⟨g9, 0, none⟩ = some (.slice a9 (vals.take k).length c9)) (m := 11) rfl hmix (fun K hK => ?_)
   have hS' := St.drew hS.inv
   replace hR9 := hR9.st hS'
   replace hR2k := hR2k.st hS'
   replace hbx := hbx.st (by decide) hS'
   replace hb9 := hb9.st hS'
   replace hA := hA.st hS'
   replace hO := hO.st (by decide) hS'
   replace hQ := hQ.st (by decide) hS'
   replace hKs := Nat.le_trans hKs hS'.ext.size
   replace hMk := hMk.st hS'
   replace hrow := hrow.st hS'
   replace hS := hS.trans hS'
   clear hS'
   have hSS := And.intro (hbx.at 0 rfl) hb9.at
   refine b_v (i := 0) rfl (by kernel_rfl) hF (fun w2 hx => v_fieldAddr fa30_0 rfl) rfl hSS ?_; clear hF a; intro a hF
   refine b_v (i := 1) rfl (by kernel_rfl) hF (fun w2 hx => v_load sc3 rfl hx.1) rfl hSS ?_; clear hF a; intro a hF
   refine b_v (i := 3) rfl (by kernel_rfl) hF (fun w2 hx => v_move rfl) rfl hSS ?_; clear hF a; intro a hF
   refine b_v (i := 4) rfl (by kernel_rfl) hF (fun w2 hx => v_load sc48 rfl hx.2) rfl hSS ?_; clear hF a; intro a hF
   refine b_e (i := 2) (by kernel_rfl) rfl ?_
   refine sc hF rfl rfl rfl en60 rfl (fldC B p _ hS.inv hB hp) ?_; clear hF a; intro v w' a hv hF
   obtain ⟨fv, hfv⟩ : ∃ x, x = v := ⟨_, rfl⟩
   subst hfv
   obtain ⟨hf, hS'⟩ := hv
   replace hR9 := hR9.st hS'
   replace hR2k := hR2k.st hS'
   replace hbx := hbx.st (by decide) hS'
   replace hb9 := hb9.st hS'
   replace hA := hA.st hS'
   replace hO := hO.st (by decide) hS'
   replace hQ := hQ.st (by decide) hS'
   replace hKs := Nat.le_trans hKs hS'.ext.size
   replace hMk := hMk.st hS'
   replace hrow := hrow.st hS'
   replace hS := hS.trans hS'
   clear hS'
   clear hSS
   have hSS := And.intro (hbx.at 0 rfl) hb9.at
   refine WL_nil ⟨hSS, ?_⟩
   refine b_e (i := 5) (by kernel_rfl) rfl ?_
   refine sc hF rfl rfl rfl en59 rfl (Dot_reg B M2 (some (fldN p)) fv pr a9 cr c9 r (vals.take k) (bss.take k) _ hf hS.inv hrow hR9 hR2k hKs (fun b hb => h8 b (List.mem_of_mem_take hb)) (by simp; omega) (fun b hb => by rw [hn b (List.mem_of_mem_take hb)]; omega)) ?_; clear hF a; intro v w' a hv hF
   clear hrow hkc
   obtain ⟨sl, ob, rfl, hX, hS'⟩ := hv
   replace hX := hX.le hKs
   rw [hy] at hX hF
   obtain ⟨ax, cx, rfl⟩ := hX.shape
   replace hR9 := hR9.st hS'
   replace hR2k := hR2k.st hS'
   replace hbx := hbx.st (by decide) hS'
   replace hb9 := hb9.st hS'
   replace hA := hA.st hS'
   replace hO := hO.st (by decide) hS'
   replace hQ := hQ.st (by decide) hS'
   replace hKs := Nat.le_trans hKs hS'.ext.size
   replace hMk := hMk.st hS'
   replace hf := hf.st hS'
   replace hS := hS.trans hS'
   clear hS'
   clear hSS
   have hSS := And.intro (hbx.at 0 rfl) hb9.at
   refine WL_nil ⟨hSS, ?_⟩
   refine b_v (i := 6) rfl (by kernel_rfl) hF (fun w2 hx => v_move rfl) rfl hSS ?_; clear hF a; intro a hF
   refine b_v (i := 7) rfl (by kernel_rfl) hF (fun w2 hx => v_ext rfl rfl) rfl hSS ?_; clear hF a; intro a hF
   refine b_v (i := 8) rfl (by kernel_rfl) hF (fun w2 hx => v_ext rfl rfl) rfl hSS ?_; clear hF a; intro a hF
   refine b_v (i := 9) rfl (by kernel_rfl) hF (fun w2 hx => v_assign rfl) rfl hSS ?_; clear hF a; intro a hF
   refine b_v (i := 10) rfl (by kernel_rfl) hF (fun w2 hx => v_assign rfl) rfl hSS ?_; clear hF a; intro a hF
   refine b_done (by kernel_rfl) (hK _ _ ?_)
   clear hK K
   replace hF := hF.sub _ (c_ 18 rfl (c_ 96 rfl (c_ 95 rfl (c_ 88 rfl (c_ 94 rfl (c_ 91 rfl (c_ 93 rfl (c_ 92 rfl (c_ 90 rfl (c_ 89 rfl (c_ 17 rfl (c_ 87 rfl (c_ 86 rfl (c_ 85 rfl (c_ 3 rfl (c_ 9 rfl (c_ 15 rfl (c_ 82 rfl (c_ 83 rfl (c_ 84 rfl n_))))))))))))))))))))
   refine W_reg rfl fun K hK => ?_
   refine sv2 hF (v_move rfl) (v_move rfl) rfl rfl ?_; clear hF a; intro a hF
   refine s_bs (D := FDx) (B := B) hF sl48 rfl rfl (by decide) (by simp [Value.cells]) (by decide) hS.inv rfl ?_; clear hF a; intro w' a hm hI' hL hF
   replace hR9 := hR9.mb hm (fun _ h => by cases h)
   replace hR2k := hR2k.mb hm (fun _ h => by cases h)
   replace hbx := hbx.mb hm (by simp)
   replace hb9 := hb9.mb hm (by simp)
   replace hA := hA.mb hm (fun _ h => by cases h)
   replace hO := hO.mb hm (fun _ _ => by simp)
   replace hQ := hQ.mb0 hm
   replace hKs := Nat.le_trans hKs hm.size
   replace hMk := hMk.mb hm (fun k e => by cases e)
   replace hf := hf.mb hm
   replace hX := hX.mb hm (fun _ _ => by simp)
   replace hS := hS.mb0 hm
   clear hm hI'
   refine s_app (D := FDx) (B := B) hF rfl sl48 rfl rfl hO (hL.row (by decide)) (by simp [Value.oneCell']) (by simp at hvl2 ⊢; omega) (by simp [maxLen] at hvl2 ⊢; omega) (hKs) (by decide) hS.inv rfl ?_; clear hF a; intro v' b' w' a ho' hm hI' hb' hF
   replace hR9 := hR9.mb hm (fun k h => Nat.le_trans (Nat.le_refl _) (hO.lt k h).1)
   replace hR2k := hR2k.mb hm (fun k h => Nat.le_trans (Nat.le_refl _) (hO.lt k h).1)
   replace hbx := hbx.mb hm (Blk.ne_own hbx hO (by decide))
   replace hb9 := hb9.mb hm (by intro e; have h1 := (hO.lt _ e).1; omega)
   replace hA := hA.mb hm (fun k h => Nat.le_trans (Nat.le_refl _) (hO.lt k h).1)
   replace hQ := hQ.mb hO (by decide) hm
   replace hKs := Nat.le_trans hKs hm.size
   replace hMk := hMk.mb hm hO.isrow
   replace hf := hf.mb hm
   replace hX := hX.mb hm (hX.ne_type hO (by decide))
   replace hS := hS.mb hm (fun k h => Nat.le_trans (hNK) (hO.lt k h).1)
   replace hO := ho'
   clear hm hI' ho'
   refine svw hK hF (v_assign rfl) rfl ?_; clear hF a hK K; intro a hF
   refine W_reg rfl fun K hK => ?_
   refine sv2w hK hF (v_addI rfl rfl (by omega)) (v_move rfl) rfl rfl ?_; clear hF a hK K; intro a hF
   exact ⟨q - 1, by omega, i + 1, _, _, _, hF.sub _ (c_ 3 rfl (c_ 9 rfl (c_ 15 rfl (c_ 82 rfl (c_ 83 rfl (c_ 84 rfl n_)))))), hS, hR9, hR2k, hbx, hb9, hA, hO, by rw [List.take_add_one, hr, List.map_append]; simp only [Option.toList_some, List.map_cons, List.map_nil]; rw [hy]; exact hQ.snoc hX, hKs, hMk, by omega, by omega⟩
  skip
  try simp only [dcl] at hc2
  refine W_exit rfl ?_
  refine W_sr rfl fun K hK => ?_
  refine sv3w hK hF (v_move rfl) (v_assign rfl) (v_assign rfl) rfl rfl rfl ?_; clear hF a hK K; intro a hF
  refine W_ret ?_
  refine ⟨_, _, _, _, hMk, hS.inv, hF, rfl, rfl, fun w2 hX => ?_⟩
  obtain rfl : k = i := by omega
  have hid : (idM k).take k = idM k := List.take_of_length_le (by simp [idM])
  rw [hid] at hQ
  exact ⟨_, _, _, rfl, (hO.le hNK).xt (by decide) hX, ⟨hQ.1, fun j v b hv hb => let ⟨o, ho⟩ := hQ.2 j v b hv hb; ⟨o, (ho.le hNK).xt (by decide) hX⟩⟩, hS.thenX hX (Nat.le_refl _)⟩
 intro a1 w1 hF hD hj; exact hj.elim
end Go.Proofs.YtoabojbpeafdkaaGreatDoor
/- The parity rows of all params are what was reckoned; what recon.inverse answers where the first shards are there. -/
set_option maxRecDepth 100000
namespace Go.Iv
open Go Go.Gam
theorem matR_len {h : AH} {k : Nat} : ∀ {l : List AV} {R : List (List Nat)}, matR h k l = some R → ∀ r ∈ R, r.length = k
 | [], R, hR, r, hr => by
  obtain rfl := Option.some.inj hR
  cases hr
 | a :: l, R, hR, r, hr => by
  unfold matR at hR
  split at hR
  · rename_i heq; cases heq
  ·
   rename_i c n cp l' heq
   obtain ⟨rfl, rfl⟩ := List.cons.inj heq
   cases hb : (Nat.beq n k && capd n cp) with
   | false => rw [hb] at hR; cases hR
   | true =>
    rw [hb] at hR
    simp only [cond_true] at hR
    split at hR
    ·
     split at hR
     ·
      rename_i x hx
      split at hR
      ·
       rename_i R' hR'
       obtain rfl := Option.some.inj hR
       rcases List.mem_cons.1 hr with rfl | hr
       · exact (intsN_ok hx).1
       exact matR_len hR' r hr
      cases hR
     cases hR
    cases hR
  cases hR
theorem matS_len {h : AH} {k : Nat} {a : AV} {R : List (List Nat)} (hR : matS h k a = some R) : ∀ r ∈ R, r.length = k := by
 unfold matS at hR
 split at hR
 ·
  rename_i b o n cp
  cases hb : capd n cp with
  | false => rw [hb] at hR; cases hR
  | true =>
   rw [hb] at hR
   simp only [cond_true] at hR
   split at hR
   ·
    split at hR
    · exact matR_len hR
    cases hR
   cases hR
 cases hR
theorem matAt_len {h : AH} {m k : Nat} {a : AV} {R : List (List Nat)} (hR : matAt h m k a = some R) : R.length = m ∧ ∀ r ∈ R, r.length = k := by
 unfold matAt at hR
 split at hR
 ·
  split at hR
  ·
   rename_i R' hR'
   cases hb : Nat.beq (ln R') m with
   | false => rw [hb] at hR; cases hR
   | true =>
    rw [hb] at hR
    obtain rfl := Option.some.inj hR
    exact ⟨by rw [← Nat.eq_of_beq_eq_true hb, ln_eq], matS_len hR'⟩
  cases hR
 cases hR
end Go.Iv
namespace Go.Proofs.YtoabojbpeafdkaaGreatDoor
open Go Go.Gam Go.Iv
def PTx (P : Program) (p k m : Nat) : Mtx := match parN P p k m with | some M => mtx M | none => []
theorem par_run {p k m : Nat} (hp : 1 ≤ p ∧ p ≤ 6) (hk : 1 ≤ k ∧ k ≤ 8) (hm : 1 ≤ m ∧ m ≤ maxN p) :
  ∃ a h M, (mQ Tryz.prog 3000).call 78 [prmA p k m] (ofL [] 10) = some (a, h) ∧ matAt h m k a = some M ∧ PTx Tryz.prog p k m = mtx M ∧ ∀ r ∈ M, ∀ x ∈ r, x < (bif Nat.beq p 2 then 65536 else 256) := by
 have h := par_all hp hk hm
 unfold parOk at h
 split at h
 ·
  rename_i M hM
  have hPT : PTx Tryz.prog p k m = mtx M := by unfold PTx; rw [hM]
  unfold parN at hM
  split at hM
  · rename_i a h1 hc
    exact ⟨a, h1, M, hc, hM, hPT, allLts_at h⟩
  cases hM
 cases h
theorem en78 : Ent Tryz.prog 78 := ent Tryz.func78 (by kernel_rfl) (by kernel_rfl)
theorem parC : ParC (PTx Tryz.prog) := by
 intro B p k m w hI hB hp hk hm
 obtain ⟨a, h1, M, hc, hM, hPT, -⟩ := par_run hp hk hm
 refine ((mQ_ok inv_all 3000 w B 78 _ _ _ _ hc e0 w [prmV p k m] (vr_prm e0 p k m) (hw_empty hI (Nat.le_trans hB hI.1))).ret en78).mono fun v w' ⟨e', g1, g2, g3⟩ => ?_
 obtain ⟨sa, cap, rfl, k1, -, -⟩ := mat_ok g3 hM g2
 exact ⟨sa, cap, rfl, hPT ▸ k1, (g3.st _ rfl).st B rfl⟩
theorem pTok : PTok (PTx Tryz.prog) := by
 intro p k m hp hk hm h3
 have hm' : 1 ≤ m ∧ m ≤ maxN p := by unfold maxN; split <;> omega
 obtain ⟨a, h1, M, hc, hM, hPT, hlt⟩ := par_run hp hk hm'
 obtain ⟨l1, l2⟩ := matAt_len hM
 rw [hPT]
 refine ⟨by simp [mtx, l1], fun r hr => ?_⟩
 obtain ⟨x, hx, rfl⟩ := List.mem_map.1 hr
 refine ⟨by rw [List.length_map]; exact l2 x hx, fun c hc => ?_⟩
 obtain ⟨q, hq, rfl⟩ := List.mem_map.1 hc
 refine ⟨q, ?_, rfl⟩
 have := hlt x hx q hq
 unfold fldN
 split
 ·
  rename_i h2
  subst h2
  exact this
 rename_i h2
 have hb : Nat.beq p 2 = false := by
  cases hb : Nat.beq p 2 with
  | false => rfl
  | true => exact absurd (Nat.eq_of_beq_eq_true hb) h2
 rw [hb] at this
 exact this
def ixN : Nat → List Nat
 | 3 => [0, 1, 2]
 | _ => [0, 1]
def idN : Nat → List (List Nat)
 | 3 => [[1, 0, 0], [0, 1, 0], [0, 0, 1]]
 | _ => [[1, 0], [0, 1]]
def lleq : List (List Nat) → List (List Nat) → Bool
 | [], [] => true
 | a :: l, b :: r => lbeq a b && lleq l r
 | _, _ => false
theorem lleq_eq : ∀ {a b : List (List Nat)}, lleq a b = true → a = b
 | [], [], _ => rfl
 | a :: l, b :: r, h => by
  simp only [lleq, Bool.and_eq_true] at h
  rw [of_decide_eq_true ((lbeq_eq a b).symm.trans h.1), lleq_eq h.2]
 | [], _ :: _, h => by cases h
 | _ :: _, [], h => by cases h
def idOk (P : Program) (p k m : Nat) : Bool := match (mQ P 3000).call 58 [prmA p k m, .sl 10 0 (ln (ofInts (ixN k))) none 1] ((ofL [] 10).new (.row (ofInts (ixN k)) true)) with | some (a, h) => (match matAt h k k a with | some R => lleq R (idN k) | none => false) | none => false
theorem id_run3 : idOk Tryz.prog 5 3 2 = true := by kernel_rfl
theorem id_run2 : idOk Tryz.prog 2 2 2 = true := by kernel_rfl
theorem en58 : Ent Tryz.prog 58 := ent Tryz.func58 (by kernel_rfl) (by kernel_rfl)
theorem invC_of {p k m : Nat} (h : idOk Tryz.prog p k m = true) (hix : (ixN k).map Int.ofNat = ixL k) (hid : mtx (idN k) = idM k) (h0 : ixN k ≠ []) : InvC p k m := by
 intro B N w v b hI hB ho
 unfold idOk at h
 split at h
 ·
  rename_i a h1 hc
  split at h
  ·
   rename_i R hR
   obtain rfl := lleq_eq h
   have hno : NewRo N e0 (ofL [] 10) := fun b o r s hb => by
    rw [show (ofL [] 10).at b = get 20 b (.leaf : Tr AO) from rfl, get_leaf] at hb; cases hb
   rw [← hix] at ho
   obtain ⟨e1, g1, g2, g3, -⟩ := own_name (l := ofInts (ixN k)) FDi.ne (hw_empty hI (Nat.le_trans hB hI.1)) hno ho (by cases hx : ixN k with | nil => exact absurd hx h0 | cons => simp [zints]) (by rw [ofInts_len]; simp [zints]) (vr_ints _ _)
   rw [← ln_eq] at g2
   refine ((mQ_ok inv_all 3000 w B 58 _ _ _ _ hc e1 w [prmV p k m, v] ?_ g3).ret en58).mono fun u w' ⟨e', k1, k2, k3⟩ => ?_
   · obtain ⟨x, r, hx, h2, h3⟩ := vr_prm e1 p k m
     obtain ⟨rfl, -⟩ := List.cons.inj hx
     exact VRL.cons h2 (VRL.cons g2 VRL.nil)
   obtain ⟨sa, cap, rfl, j1, -, -⟩ := mat_ok k3 hR k2
   exact ⟨sa, cap, rfl, hid ▸ j1, (k3.st _ rfl).st B rfl⟩
  cases h
 cases h
theorem invC3 : InvC 5 3 2 := invC_of id_run3 rfl rfl (by simp [ixN])
theorem invC2 : InvC 2 2 2 := invC_of id_run2 rfl rfl (by simp [ixN])
end Go.Proofs.YtoabojbpeafdkaaGreatDoor
/- lives: what its calls answer, told ahead; the store between its steps. -/
set_option maxRecDepth 100000
namespace Go.Proofs.YtoabojbpeafdkaaGreatDoor
open Go Go.Gam Go.Iv
def bytesA : List AV → Option (List Nat)
 | [] => some []
 | .int .u8 (.ofNat n) :: l => (match bytesA l with | some r => some (n :: r) | none => none)
 | _ => none
def bytesAt (h : AH) : AV → Option (List Nat)
 | .nils => some []
 | .sl b o n cp 1 => bif capd n cp then (match h.at b with | some (.row l _) => (match seg o n l with | some cs => bytesA cs | none => none) | _ => none) else none
 | _ => none
def rowsA (h : AH) : List AV → Option (List (List Nat))
 | [] => some []
 | v :: l => (match bytesAt h v with | some r => (match rowsA h l with | some q => some (r :: q) | none => none) | none => none)
def rowsAt (h : AH) : AV → Option (List (List Nat))
 | .sl b o n cp 1 => bif capd n cp then (match h.at b with | some (.row l _) => (match seg o n l with | some cs => rowsA h cs | none => none) | _ => none) else none
 | _ => none
def llbeq : List (List Nat) → List (List Nat) → Bool
 | [], [] => true
 | a :: l, b :: r => lbeq a b && llbeq l r
 | _, _ => false
def trues : List AV → Bool
 | [] => true
 | .bool true :: l => trues l
 | _ => false
def truesAt (h : AH) (n : Nat) : AV → Bool
 | .sl b o m cp 1 => capd m cp && (match h.at b with | some (.row l _) => (match seg o m l with | some cs => Nat.beq m n && trues cs | none => false) | _ => false)
 | _ => false
def pB : AV := .agg [.int .i64 (.ofNat 5), .int .i64 (.ofNat 3), .int .i64 (.ofNat 2)]
def pJ : AV := .agg [.int .i64 (.ofNat 2), .int .i64 (.ofNat 2), .int .i64 (.ofNat 2)]
def hello : List Nat := [104, 101, 108, 108, 111]
def encB : List (List Nat) := [[0, 0, 0], [5, 104, 101], [108, 108, 111], [105, 4, 10], [93, 18, 112]]
def encJ : List (List Nat) := [[104, 101, 108, 108, 111, 0, 0, 0], [0, 0, 0, 0, 0, 0, 0, 0], [180, 50, 54, 54, 50, 136, 0, 0], [33, 211, 36, 36, 37, 0, 0, 0]]
def datB : List (List Nat) := [[0, 0, 0], [5, 104, 101], [108, 108, 111]]
def datJ : List (List Nat) := [[104, 101, 108, 108, 111, 0, 0, 0], [0, 0, 0, 0, 0, 0, 0, 0]]
def isHello (h : AH) (v : AV) : Bool := match bytesAt h v with | some l => lbeq l hello | none => false
def isRows (h : AH) (q : List (List Nat)) (v : AV) : Bool := match rowsAt h v with | some l => llbeq l q | none => false
def oEnc : List AV → AH → Option (AV × AH)
 | [p, v], h => bif isHello h v then (bif beq p pB then oRows encB h else bif beq p pJ then oRows encJ h else none) else none
 | _, _ => none
def oSpl : List AV → AH → Option (AV × AH)
 | [p, v], h => bif isHello h v then (bif beq p pB then oRows datB h else bif beq p pJ then oRows datJ h else none) else none
 | _, _ => none
def oDat : List AV → AH → Option (AV × AH)
 | [p, v, u], h => bif beq p pB then (bif isRows h encB v && truesAt h 5 u then oRows datB h else none) else bif beq p pJ then (bif isRows h encJ v && truesAt h 4 u then oRows datJ h else none) else none
 | _, _ => none
def orcL : OrcF := fun f => bif Nat.beq f 386 then some oIxB else bif Nat.beq f 389 then some oCntB else bif Nat.beq f 232 then some oIns else bif Nat.beq f 224 then some oJoin else bif Nat.beq f 191 then some (pureA [] crcA) else bif Nat.beq f 108 then some (pureA [.str [97, 98, 99]] (.bool true)) else bif Nat.beq f 23 then some oEnc else bif Nat.beq f 18 then some oDat else bif Nat.beq f 66 then some oSpl else none
def mL (P : Program) (n : Nat) : Mch := mch P orcL n
def nums (k : IntKind) : List Nat → List AV
 | [] => []
 | n :: l => .int k (.ofNat n) :: nums k l
def gL : List (Nat × AO) := [(6, .row (nums .u64 [1, 10, 100, 1000, 10000, 100000, 1000000, 10000000, 100000000, 1000000000, 10000000000, 100000000000, 1000000000000, 10000000000000, 100000000000000, 1000000000000000, 10000000000000000, 100000000000000000, 1000000000000000000, 10000000000000000000]) true),
 (7, .row (nums .u8 [0, 1, 28, 2, 29, 14, 24, 3, 30, 22, 20, 15, 25, 17, 4, 8, 31, 27, 13, 23, 21, 19, 16, 7, 26, 12, 18, 6, 11, 5, 10, 9]) true),
 (8, .row (nums .u8 [0, 1, 56, 2, 57, 49, 28, 3, 61, 58, 42, 50, 38, 29, 17, 4, 62, 47, 59, 36, 45, 43, 51, 22, 53, 39, 33, 30, 24, 18, 12, 5, 63, 55, 48, 27, 60, 41, 37, 16, 46, 35, 44, 21, 52, 32, 23, 11, 54, 26, 40, 15, 34, 20, 31, 10, 25, 14, 19, 9, 13, 8, 7, 6]) true)]
def hS0 : List (Nat × AO) := [(10, .row [.nilm, .int .i64 (.ofNat 0), .int .i64 (.ofNat 0), .nils, .nils, .int .i64 (.ofNat 200000), .int .i64 (.ofNat 0), .bool false] false)] ++ [(11, .row (ofBytes hello) true)]
def hSave : List (Nat × AO) := [(10, .row [.nilm, .int .i64 (.ofNat 0), .int .i64 (.ofNat 19), .sl 1143 0 6 none 2, .sl 176 0 0 none 4, .int .i64 (.ofNat 200000), .int .i64 (.ofNat 45), .bool false] false),
 (176, .row [.str [], .int .i64 (.ofNat 0), .int .i64 (.ofNat 0), .nils] false),
 (231, .row (ofBytes [0, 0, 0]) false),
 (347, .row (ofBytes [5, 104, 101]) false),
 (496, .row (ofBytes [108, 108, 111]) false),
 (678, .row (ofBytes [105, 4, 10]) false),
 (893, .row (ofBytes [93, 18, 112]) false),
 (1141, .row (ofBytes [66, 66, 82, 83, 3, 2, 255, 65, 217, 18, 105, 118, 111, 129, 170, 201, 179, 52, 60, 254, 5, 167, 179, 212, 101, 30, 19, 12, 30, 114]) false),
 (1143, .row [.str [97, 98, 99, 46, 100, 98, 51, 48], .sl 231 0 3 none 1, .str [97, 98, 99, 46, 100, 98, 51, 49], .sl 347 0 3 none 1, .str [97, 98, 99, 46, 100, 98, 51, 50], .sl 496 0 3 none 1, .str [97, 98, 99, 46, 112, 98, 98, 51, 50, 48], .sl 678 0 3 none 1, .str [97, 98, 99, 46, 112, 98, 98, 51, 50, 49], .sl 893 0 3 none 1, .str [97, 98, 99, 46, 115, 105, 100, 101], .sl 1141 0 30 none 1] false)]
def hOne : List (Nat × AO) := [(10, .row [.nilm, .int .i64 (.ofNat 0), .int .i64 (.ofNat 52), .sl 4934 0 6 none 2, .sl 176 0 0 none 4, .int .i64 (.ofNat 200000), .int .i64 (.ofNat 164), .bool false] false),
 (176, .row [.str [], .int .i64 (.ofNat 0), .int .i64 (.ofNat 0), .nils] false),
 (2374, .row (ofBytes [104, 101, 108, 108, 111, 0, 0, 0]) false),
 (2701, .row (ofBytes [0, 0, 0, 0, 0, 0, 0, 0]) false),
 (3073, .row (ofBytes [180, 50, 54, 54, 50, 136, 0, 0]) false),
 (3478, .row (ofBytes [33, 211, 36, 36, 37, 0, 0, 0]) false),
 (3981, .row (ofBytes [106, 101, 114, 97, 115, 117, 114, 101, 32, 99, 97, 117, 99, 104, 121, 95, 111, 114, 105, 103, 10, 53, 32, 50, 32, 50, 32, 49, 54, 10, 102, 102, 49, 51, 98, 53, 49, 100, 10, 54, 53, 50, 50, 100, 102, 54, 57, 10, 52, 49, 50, 52, 54, 48, 99, 98, 10, 102, 53, 52, 53, 51, 53, 57, 49, 10, 48, 48, 50, 52, 54, 102, 52, 54, 10]) false),
 (4934, .row [.str [97, 98, 99, 46, 100, 106, 50, 48], .sl 2374 0 8 none 1, .str [97, 98, 99, 46, 100, 106, 50, 49], .sl 2701 0 8 none 1, .str [97, 98, 99, 46, 112, 106, 99, 50, 50, 48], .sl 3073 0 8 none 1, .str [97, 98, 99, 46, 112, 106, 99, 50, 50, 49], .sl 3478 0 8 none 1, .str [97, 98, 99, 46, 115, 105, 100, 101], .sl 3981 0 75 none 1, .str [106, 111, 117, 114, 110, 97, 108], .sl 4947 0 24 none 1] false),
 (4947, .row (ofBytes [1, 2, 2, 2, 3, 97, 98, 99, 139, 11, 207, 209, 2, 2, 2, 2, 3, 97, 98, 99, 104, 12, 64, 95]) false)]
def hObj : List (Nat × AO) := [(10, .row [.nilm, .int .i64 (.ofNat 0), .int .i64 (.ofNat 57), .sl 4934 0 6 none 2, .sl 176 0 0 none 4, .int .i64 (.ofNat 200000), .int .i64 (.ofNat 164), .bool false] false),
 (176, .row [.str [], .int .i64 (.ofNat 0), .int .i64 (.ofNat 0), .nils] false),
 (2374, .row (ofBytes [104, 101, 108, 108, 111, 0, 0, 0]) false),
 (2701, .row (ofBytes [0, 0, 0, 0, 0, 0, 0, 0]) false),
 (3073, .row (ofBytes [180, 50, 54, 54, 50, 136, 0, 0]) false),
 (3478, .row (ofBytes [33, 211, 36, 36, 37, 0, 0, 0]) false),
 (3981, .row (ofBytes [106, 101, 114, 97, 115, 117, 114, 101, 32, 99, 97, 117, 99, 104, 121, 95, 111, 114, 105, 103, 10, 53, 32, 50, 32, 50, 32, 49, 54, 10, 102, 102, 49, 51, 98, 53, 49, 100, 10, 54, 53, 50, 50, 100, 102, 54, 57, 10, 52, 49, 50, 52, 54, 48, 99, 98, 10, 102, 53, 52, 53, 51, 53, 57, 49, 10, 48, 48, 50, 52, 54, 102, 52, 54, 10]) false),
 (4934, .row [.str [97, 98, 99, 46, 100, 106, 50, 48], .sl 2374 0 8 none 1, .str [97, 98, 99, 46, 100, 106, 50, 49], .sl 2701 0 8 none 1, .str [97, 98, 99, 46, 112, 106, 99, 50, 50, 48], .sl 3073 0 8 none 1, .str [97, 98, 99, 46, 112, 106, 99, 50, 50, 49], .sl 3478 0 8 none 1, .str [97, 98, 99, 46, 115, 105, 100, 101], .sl 3981 0 75 none 1, .str [106, 111, 117, 114, 110, 97, 108], .sl 4947 0 24 none 1] false),
 (4947, .row (ofBytes [1, 2, 2, 2, 3, 97, 98, 99, 139, 11, 207, 209, 2, 2, 2, 2, 3, 97, 98, 99, 104, 12, 64, 95]) false),
 (5334, .row (ofBytes [104, 101, 108, 108, 111]) false)]
def jobA : AV := .agg [.str [97, 98, 99], .int .i64 (.ofNat 2), .int .i64 (.ofNat 2), .int .i64 (.ofNat 2)]
def argS : List AV := [.ptr 10 0, .str [97, 98, 99], pB, .sl 11 0 5 (some 5) 1]
def okA : AV := .int .i64 (.ofNat 0)
def resA : AV := .tup [.sl 5334 0 5 none 1, .int .i64 (.ofNat 0)]
def orcM : OrcF := fun f => bif Nat.beq f 26 then some (memo argS (gL ++ hS0) 12 okA (gL ++ hSave) 1145) else bif Nat.beq f 10 then some (memo [.ptr 10 0, jobA] (gL ++ hSave) 1145 okA (gL ++ hOne) 4951) else bif Nat.beq f 11 then some (memo [.ptr 10 0, .str [97, 98, 99]] (gL ++ hOne) 4951 resA (gL ++ hObj) 5335) else none
def mM (P : Program) (n : Nat) : Mch := mch P orcM n
end Go.Proofs.YtoabojbpeafdkaaGreatDoor
/- codec.Encode, layout.Split, recon.Data, where lives calls them. -/
set_option maxRecDepth 100000
namespace Go.Gam
open Px
def gmulK (q : Nat × Nat) (a b : Int) : Int := if inF (some q) a = true ∧ inF (some q) b = true then (mulModF a.toNat b.toNat q.2 : Int) else 0
theorem gmulK_eq {q : Nat × Nat} (h : q.1 ≤ 16) : gmul (some q) = gmulK q := by
 funext a b
 unfold gmul gmulK
 split
 ·
  rename_i hc
  have hb := hc.2
  unfold inF at hb
  have hb := of_decide_eq_true hb
  have h2 : fsz (some q) ≤ 2 ^ 16 := Nat.pow_le_pow_right (by decide) h
  show ((mulMod a.toNat b.toNat q.2 : Nat) : Int) = _
  rw [mulModF_eq (by omega)]
 rfl
def rmulK (q : Nat × Nat) (c : Int) (bs : List Nat) : Option (List Nat) := (rwords (some q) bs).bind fun l => if inF (some q) c = true then rbytes (some q) (l.map fun (a : Nat) => gmulK q c (a : Int)) else none
def rmulsK (q : Nat × Nat) : List Int → List (List Nat) → Option (List (List Nat))
 | c :: cs, b :: bs => (rmulK q c b).bind fun x => (rmulsK q cs bs).map fun xs => x :: xs
 | _, _ => some []
def rdotK (q : Nat × Nat) (cs : List Int) (bss : List (List Nat)) : Option (List Nat) := if cs.length = bss.length ∧ cs.length ≠ 0 then (rmulsK q cs bss).bind rsum else none
theorem rmulsK_eq {q : Nat × Nat} (h : q.1 ≤ 16) : ∀ (cs : List Int) (bss : List (List Nat)), rmuls (some q) cs bss = rmulsK q cs bss
 | [], bss => by cases bss <;> rfl
 | _ :: _, [] => rfl
 | c :: cs, b :: bss => by
  simp only [rmuls, rmulsK]
  rw [rmulsK_eq h cs bss, show rmul (some q) c b = rmulK q c b by unfold rmul rmulK; rw [gmulK_eq h]]
theorem rdotK_eq {q : Nat × Nat} (h : q.1 ≤ 16) (cs : List Int) (bss : List (List Nat)) : rdot (some q) cs bss = rdotK q cs bss := by unfold rdot rdotK; rw [rmulsK_eq h]
def parK (q : Nat × Nat) (R : List (List Int)) (bss : List (List Nat)) : List (List Nat) := R.map fun r => (rdotK q r bss).getD []
theorem parK_eq {q : Nat × Nat} (h : q.1 ≤ 16) (R : List (List Int)) (bss : List (List Nat)) : (R.map fun r => (rdot (some q) r bss).getD []) = parK q R bss := by unfold parK; congr 1; funext r; rw [rdotK_eq h]
theorem fldN_le (p : Nat) : (fldN p).1 ≤ 16 := by unfold fldN; split <;> decide
end Go.Gam
namespace Go.Proofs.YtoabojbpeafdkaaGreatDoor
open Go Go.Gam Go.Iv
variable {W0 : Option Asked}
theorem bytesA_ok {e : Env} : ∀ {l : List AV} {bs : List Nat} {vals : List Value}, bytesA l = some bs → VRL e l vals → vals = byt bs
 | [], bs, vals, h, hv => by
  obtain rfl := Option.some.inj h
  exact hv
 | a :: l, bs, vals, h, hv => by
  obtain ⟨v, r, rfl, h2, h3⟩ := hv
  unfold bytesA at h
  split at h
  · rename_i heq; cases heq
  ·
   rename_i n l' heq
   obtain ⟨rfl, rfl⟩ := List.cons.inj heq
   split at h
   · rename_i bs' hb
     obtain rfl := Option.some.inj h
     rw [bytesA_ok hb h3, show v = _ from h2]; rfl
   cases h
  cases h
theorem bytesAt_ok {e : Env} {h : AH} {w : World} (hH : HW W0 e h w) {a : AV} {bs : List Nat} {v : Value} (hb : bytesAt h a = some bs) (hv : VR e a v) : ∃ px cx, v = .slice px bs.length cx ∧ Gam.Row FDi w.heap.size w.heap.size w v (byt bs) := by
 unfold bytesAt at hb
 split at hb
 ·
  obtain rfl := Option.some.inj hb
  obtain rfl : v = .slice none 0 0 := hv
  exact ⟨none, 0, rfl, .inl ⟨none, 0, rfl, rfl⟩⟩
 ·
  rename_i b o n cp
  cases hc : capd n cp with
  | false => rw [hc] at hb; cases hb
  | true =>
   rw [hc] at hb
   simp only [cond_true] at hb
   split at hb
   ·
    rename_i l ro hl
    split at hb
    ·
     rename_i cs hcs
     obtain ⟨g, cap, vals, rfl, h2, h3, h4⟩ := row_of (B := w.heap.size) hH hl (fun r s he => .inl (hH.bnd _ r s he)) hcs hc hv
     obtain rfl := bytesA_ok hb h2
     rw [byt_length] at h3
     subst h3
     exact ⟨_, cap, rfl, h4⟩
    cases hb
   cases hb
 cases hb
theorem rowsA_ok {e : Env} {h : AH} {w : World} (hH : HW W0 e h w) : ∀ {l : List AV} {R : List (List Nat)} {vals : List Value}, rowsA h l = some R → VRL e l vals → Rows2 FDi w.heap.size w.heap.size w vals R
 | [], R, vals, hR, hv => by
  obtain rfl := Option.some.inj hR
  obtain rfl : vals = [] := hv
  exact ⟨rfl, fun j u x hu => by simp at hu⟩
 | a :: l, R, vals, hR, hv => by
  obtain ⟨v, r, rfl, h2, h3⟩ := hv
  simp only [rowsA] at hR
  split at hR
  ·
   rename_i x hx
   split at hR
   ·
    rename_i R' hR'
    obtain rfl := Option.some.inj hR
    have ih := rowsA_ok hH hR' h3
    refine ⟨by simpa using ih.1, fun j u y hu hy => ?_⟩
    cases j with
    | zero =>
     obtain rfl : v = u := by simpa using hu
     obtain rfl : x = y := by simpa using hy
     obtain ⟨_, _, -, h4⟩ := bytesAt_ok hH hx h2
     exact h4
    | succ j => exact ih.2 j u y (by simpa using hu) (by simpa using hy)
   cases hR
  cases hR
theorem rowsAt_ok {e : Env} {h : AH} {w : World} (hH : HW W0 e h w) {a : AV} {R : List (List Nat)} {v : Value} (hR : rowsAt h a = some R) (hv : VR e a v) : ∃ px cx vals, v = .slice px vals.length cx ∧ Gam.Row FDi w.heap.size w.heap.size w v vals ∧ Rows2 FDi w.heap.size w.heap.size w vals R := by
 unfold rowsAt at hR
 split at hR
 ·
  rename_i b o n cp
  cases hc : capd n cp with
  | false => rw [hc] at hR; cases hR
  | true =>
   rw [hc] at hR
   simp only [cond_true] at hR
   split at hR
   ·
    rename_i l ro hl
    split at hR
    · rename_i cs hcs
      obtain ⟨g, cap, vals, rfl, h2, h3, h4⟩ := row_of (B := w.heap.size) hH hl (fun r s he => .inl (hH.bnd _ r s he)) hcs hc hv
      subst h3
      exact ⟨_, cap, vals, rfl, h4, rowsA_ok hH hR h2⟩
    cases hR
   cases hR
 cases hR
theorem trues_ok {e : Env} : ∀ {l : List AV} {vals : List Value}, trues l = true → VRL e l vals → vals = List.replicate vals.length (.bool true)
 | [], vals, _, hv => by rw [show vals = [] from hv]; rfl
 | a :: l, vals, h, hv => by
  obtain ⟨v, r, rfl, h2, h3⟩ := hv
  unfold trues at h
  split at h
  · rename_i heq; cases heq
  · rename_i l' heq
    obtain ⟨rfl, rfl⟩ := List.cons.inj heq
    rw [show v = .bool true from h2, List.length_cons, List.replicate_succ, ← trues_ok h h3]
  cases h
theorem truesAt_ok {e : Env} {h : AH} {w : World} (hH : HW W0 e h w) {n : Nat} {a : AV} {v : Value} (ht : truesAt h n a = true) (hv : VR e a v) : ∃ px cx, v = .slice px n cx ∧ Gam.Row FDi w.heap.size w.heap.size w v (List.replicate n (.bool true)) := by
 unfold truesAt at ht
 split at ht
 ·
  rename_i b o m cp
  simp only [Bool.and_eq_true] at ht
  obtain ⟨hc, ht⟩ := ht
  split at ht
  ·
   rename_i l ro hl
   split at ht
   ·
    rename_i cs hcs
    simp only [Bool.and_eq_true] at ht
    obtain rfl := Nat.eq_of_beq_eq_true ht.1
    obtain ⟨g, cap, vals, rfl, h2, h3, h4⟩ := row_of (B := w.heap.size) hH hl (fun r s he => .inl (hH.bnd _ r s he)) hcs hc hv
    have h5 := trues_ok ht.2 h2
    rw [h3] at h5
    rw [← h5]
    exact ⟨_, cap, rfl, h4⟩
   cases ht
  cases ht
 cases ht
theorem lbeq_of {a b : List Nat} (h : lbeq a b = true) : a = b := of_decide_eq_true ((lbeq_eq a b).symm.trans h)
theorem llbeq_eq : ∀ {a b : List (List Nat)}, llbeq a b = true → a = b
 | [], [], _ => rfl
 | a :: l, b :: r, h => by
  simp only [llbeq, Bool.and_eq_true] at h
  rw [lbeq_of h.1, llbeq_eq h.2]
 | [], _ :: _, h => by cases h
 | _ :: _, [], h => by cases h
theorem h10_of {e : Env} {h : AH} {w : World} (hH : HW W0 e h w) : 9 ≤ w.heap.size := by
 obtain ⟨s, hs⟩ := hH.gl 8 (by decide)
 exact hH.bnd 8 8 s hs
theorem en23 : Ent Tryz.prog 23 := ent Tryz.func23 (by kernel_rfl) (by kernel_rfl)
theorem en66 : Ent Tryz.prog 66 := ent Tryz.func66 (by kernel_rfl) (by kernel_rfl)
theorem en18 : Ent Tryz.prog 18 := ent Tryz.func18 (by kernel_rfl) (by kernel_rfl)
theorem hello8 : ∀ x ∈ hello, x < 256 := allLt_at (n := 256) rfl
section
variable (hW0 : ∀ W B, W0 ≠ some (W, some B)) {p k m : Nat} (hp : 1 ≤ p ∧ p ≤ 6) (hk : 1 ≤ k ∧ k ≤ 8) (hm : 1 ≤ m ∧ m ≤ maxN p) {R : List (List Nat)} (hne : ∀ x ∈ R, x ≠ []) (hn0 : R ≠ []) {e : Env} {h : AH} {w : World} (hH : HW W0 e h w) {v : AV} {V : Value} (hv : VR e v V) {a : AV} {h' : AH} (hq : oRows R h = some (a, h'))
include hW0 hp hk hm hne hn0 hH hv hq
theorem enc_at (hR : encL (PTx Tryz.prog) p k m hello = R) (hb : bytesAt h v = some hello) : Gives Tryz.prog 23 [prmV p k m, V] w fun v w' => ∃ e', Gr e h e' h' ∧ VR e' a v ∧ HW W0 e' h' w' := by
 obtain ⟨px, cx, rfl, hx⟩ := bytesAt_ok hH hb hv
 have hm4 : m ≤ 4 ∧ (p = 3 → m ≤ 3) := by have := hm.2; unfold maxN at this; split at this <;> omega
 obtain ⟨hPl, hPr⟩ := pTok p k m hp hk ⟨hm.1, hm4.1⟩ hm4.2
 subst hR
 refine .inl ⟨en23, (Enc_ok w.heap.size w.heap.size p k m (PTx Tryz.prog) parC px cx hello w (st_self w).inv (h10_of hH) hp hk hm hx (Nat.le_refl _) (by decide) (data_dat hello8).byte (data_len _ _ _) (fun s hs => by rw [(data_dat hello8).len s hs]; have := (size_bd (p := p) (n := hello.length) hk (by decide)).2.1; have h5 : hello.length = 5 := rfl; omega) hPl (fun r hr => let ⟨y, h, _⟩ := enc_dot hPr hk.1 hello8 r hr; ⟨y, h⟩)).mono fun v w' ⟨sl, ob, pv, hv, hO, hQ, hS⟩ => ?_⟩
 rw [hv]
 exact rows_ok (by decide) hW0 hH (hS.ext.below (Nat.le_refl _)) hO hQ hne hn0 hq
theorem spl_at (hR : dataL p k hello = R) (hb : bytesAt h v = some hello) : Gives Tryz.prog 66 [prmV p k m, V] w fun v w' => ∃ e', Gr e h e' h' ∧ VR e' a v ∧ HW W0 e' h' w' := by
 obtain ⟨px, cx, rfl, hx⟩ := bytesAt_ok hH hb hv
 subst hR
 refine .inl ⟨en66, (Split_ok w.heap.size w.heap.size p k m px cx hello w (st_self w).inv (h10_of hH) hp hk hm hx (Nat.le_refl _) (by decide)).mono fun v w' ⟨sl, ob, pv, hv, hO, hQ, hS⟩ => ?_⟩
 rw [hv]
 exact rows_ok (by decide) hW0 hH (hS.ext.below (Nat.le_refl _)) hO hQ hne hn0 hq
theorem dat_at {u : AV} {U : Value} (hu : VR e u U) {S : List (List Nat)} {L : Nat} (hInv : InvC p k m) (hL : L ≤ 10000) (hS8 : allLts 256 S = true) (hSl : S.length = k + m) (hSn : (S.all fun b => Nat.beq b.length L) = true) (hev : p = 2 → L % 2 = 0) (hdot : ((idM k).all fun r => (rdotK (fldN p) r (S.take k)).isSome) = true)
  (hR : parK (fldN p) (idM k) (S.take k) = R) (hb : rowsAt h v = some S) (ht : truesAt h (k + m) u = true) : Gives Tryz.prog 18 [prmV p k m, V, U] w fun v w' => ∃ e', Gr e h e' h' ∧ VR e' a v ∧ HW W0 e' h' w' := by
 obtain ⟨px, cx, vals, rfl, hx, hx2⟩ := rowsAt_ok hH hb hv
 obtain ⟨py, cy, rfl, hy⟩ := truesAt_ok hH ht hu
 have hvl := hx2.1
 rw [hSl] at hvl
 rw [← hvl] at hy ⊢
 rw [← parK_eq (fldN_le p)] at hR
 subst hR
 refine .inl ⟨en18, (Data_ok w.heap.size w.heap.size p k m L hInv px py cx cy vals S w (st_self w).inv (h10_of hH) hp hk hm hx hx2 (Nat.le_refl _) (allLts_at hS8) hy hSl (fun b hb => Nat.eq_of_beq_eq_true (List.all_eq_true.1 hSn b hb)) hL hev (fun r hr => by
  have := List.all_eq_true.1 hdot r hr
  rw [← rdotK_eq (fldN_le p)] at this
  exact Option.isSome_iff_exists.1 this)).mono fun v w' ⟨sl, ob, pv, hv, hO, hQ, hS⟩ => ?_⟩
 rw [hv]
 exact rows_ok (by decide) hW0 hH (hS.ext.below (Nat.le_refl _)) hO hQ hne hn0 hq
end
theorem encB_eq : encL (PTx Tryz.prog) 5 3 2 hello = encB := by
 unfold encL parL
 rw [parK_eq (fldN_le 5)]
 kernel_rfl
theorem encJ_eq : encL (PTx Tryz.prog) 2 2 2 hello = encJ := by
 unfold encL parL
 rw [parK_eq (fldN_le 2)]
 kernel_rfl
def neAll : List (List Nat) → Bool
 | [] => true
 | [] :: _ => false
 | _ :: l => neAll l
theorem neAll_at : ∀ {R : List (List Nat)}, neAll R = true → ∀ x ∈ R, x ≠ []
 | [], _, x, hx => by cases hx
 | [] :: _, h, _, _ => by cases h
 | (y :: z) :: R, h, x, hx => by
  rcases List.mem_cons.1 hx with rfl | hx
  · simp
  exact neAll_at (R := R) h x hx
theorem prm_of {e : Env} {p k m : Nat} {V : Value} (h : VR e (prmA p k m) V) : V = prmV p k m := by
 obtain ⟨cs, rfl, v1, r1, rfl, h1, v2, r2, rfl, h2, v3, r3, rfl, h3, h4⟩ := h
 rw [show v1 = _ from h1, show v2 = _ from h2, show v3 = _ from h3, show r3 = [] from h4]
 rfl
theorem hello_of {h : AH} {v : AV} (hh : isHello h v = true) : bytesAt h v = some hello := by
 unfold isHello at hh
 split at hh
 · rename_i l hl
   rw [hl, lbeq_of hh]
 cases hh
theorem rows_of {h : AH} {v : AV} {S : List (List Nat)} (hh : isRows h S v = true) : rowsAt h v = some S := by
 unfold isRows at hh
 split at hh
 · rename_i l hl
   rw [hl, llbeq_eq hh]
 cases hh
variable (hW0 : ∀ W B, W0 ≠ some (W, some B))
include hW0
theorem oEnc_ok : CallAt W0 Tryz.prog 23 oEnc := by
 intro args h a h' hq e w vs hv hH
 unfold oEnc at hq
 split at hq
 ·
  rename_i p v
  obtain ⟨V1, r1, rfl, h1, V2, r2, rfl, h2, h3⟩ := hv
  obtain rfl : r2 = [] := h3
  cases hh : isHello h v with
  | false => rw [hh] at hq; cases hq
  | true =>
   rw [hh] at hq
   simp only [cond_true] at hq
   cases hB : beq p pB with
   | true =>
    rw [hB] at hq
    obtain rfl := beq_eq _ _ hB
    obtain rfl := prm_of (p := 5) (k := 3) (m := 2) h1
    exact enc_at (R := encB) hW0 (by decide) (by decide) (by decide) (neAll_at rfl) (by decide) hH h2 hq encB_eq (hello_of hh)
   | false =>
    rw [hB] at hq
    simp only [cond_false] at hq
    cases hJ : beq p pJ with
    | true =>
     rw [hJ] at hq
     obtain rfl := beq_eq _ _ hJ
     obtain rfl := prm_of (p := 2) (k := 2) (m := 2) h1
     exact enc_at (R := encJ) hW0 (by decide) (by decide) (by decide) (neAll_at rfl) (by decide) hH h2 hq encJ_eq (hello_of hh)
    | false => rw [hJ] at hq; cases hq
 cases hq
theorem oSpl_ok : CallAt W0 Tryz.prog 66 oSpl := by
 intro args h a h' hq e w vs hv hH
 unfold oSpl at hq
 split at hq
 ·
  rename_i p v
  obtain ⟨V1, r1, rfl, h1, V2, r2, rfl, h2, h3⟩ := hv
  obtain rfl : r2 = [] := h3
  cases hh : isHello h v with
  | false => rw [hh] at hq; cases hq
  | true =>
   rw [hh] at hq
   simp only [cond_true] at hq
   cases hB : beq p pB with
   | true =>
    rw [hB] at hq
    obtain rfl := beq_eq _ _ hB
    obtain rfl := prm_of (p := 5) (k := 3) (m := 2) h1
    exact spl_at (R := datB) hW0 (by decide) (by decide) (by decide) (neAll_at rfl) (by decide) hH h2 hq (by kernel_rfl) (hello_of hh)
   | false =>
    rw [hB] at hq
    simp only [cond_false] at hq
    cases hJ : beq p pJ with
    | true =>
     rw [hJ] at hq
     obtain rfl := beq_eq _ _ hJ
     obtain rfl := prm_of (p := 2) (k := 2) (m := 2) h1
     exact spl_at (R := datJ) hW0 (by decide) (by decide) (by decide) (neAll_at rfl) (by decide) hH h2 hq (by kernel_rfl) (hello_of hh)
    | false => rw [hJ] at hq; cases hq
 cases hq
theorem oDat_ok : CallAt W0 Tryz.prog 18 oDat := by
 intro args h a h' hq e w vs hv hH
 unfold oDat at hq
 split at hq
 ·
  rename_i p v u
  obtain ⟨V1, r1, rfl, h1, V2, r2, rfl, h2, V3, r3, rfl, h3, h4⟩ := hv
  obtain rfl : r3 = [] := h4
  cases hB : beq p pB with
  | true =>
   rw [hB] at hq
   obtain rfl := beq_eq _ _ hB
   obtain rfl := prm_of (p := 5) (k := 3) (m := 2) h1
   cases hh : (isRows h encB v && truesAt h 5 u) with
   | false => rw [hh] at hq; cases hq
   | true =>
    rw [hh] at hq
    simp only [Bool.and_eq_true] at hh
    exact dat_at (R := datB) hW0 (by decide) (by decide) (by decide) (neAll_at rfl) (by decide) hH h2 hq h3 (L := 3) invC3 (by decide) rfl rfl rfl (by decide) (by kernel_rfl) (by kernel_rfl) (rows_of hh.1) hh.2
  | false =>
   rw [hB] at hq
   simp only [cond_false] at hq
   cases hJ : beq p pJ with
   | true =>
    rw [hJ] at hq
    obtain rfl := beq_eq _ _ hJ
    obtain rfl := prm_of (p := 2) (k := 2) (m := 2) h1
    cases hh : (isRows h encJ v && truesAt h 4 u) with
    | false => rw [hh] at hq; cases hq
    | true =>
     rw [hh] at hq
     simp only [Bool.and_eq_true] at hh
     exact dat_at (R := datJ) hW0 (by decide) (by decide) (by decide) (neAll_at rfl) (by decide) hH h2 hq h3 (L := 8) invC2 (by decide) rfl rfl rfl (by decide) (by kernel_rfl) (by kernel_rfl) (rows_of hh.1) hh.2
   | false => rw [hJ] at hq; cases hq
 cases hq
end Go.Proofs.YtoabojbpeafdkaaGreatDoor
