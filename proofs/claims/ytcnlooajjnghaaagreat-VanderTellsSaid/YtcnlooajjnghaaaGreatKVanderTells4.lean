/- Texts of the claim VanderTells (part 4), put together in the order of their imports. -/
import Derived.Test.YtcnlooajjnghaaaGreatKVanderTells3
import Derived.Test.YtcnlooajjnghaaaGreatProg
import Derived.WalkKit
import Derived.Laws.LoneSync
import Derived.Laws.NewBlocks
/- The lock and sync.Once, in the run of one goroutine: each function once. -/
set_option linter.unusedVariables false
set_option linter.unusedSimpArgs false
namespace Go.Proofs.YtcnlooajjnghaaaGreat
open Go

theorem disable (w : World) : (callFunc 106 #[]).run Tryz.prog w = .ok (.value (.tuple #[])) w := run_call_mark0 Tryz.func106 (by kernel_rfl) (by kernel_rfl) (by kernel_rfl) .disable (by kernel_rfl) w
theorem enable (w : World) : (callFunc 108 #[]).run Tryz.prog w = .ok (.value (.tuple #[])) w := run_call_mark0 Tryz.func108 (by kernel_rfl) (by kernel_rfl) (by kernel_rfl) .enable (by kernel_rfl) w
theorem acquire (a : Addr) (w : World) : (callFunc 109 #[.pointer (some a)]).run Tryz.prog w = .ok (.value (.tuple #[])) w := run_call_marked Tryz.func109 (by kernel_rfl) (by kernel_rfl) (by kernel_rfl) .acquire (by kernel_rfl) a w
theorem releaseMerge (a : Addr) (w : World) : (callFunc 111 #[.pointer (some a)]).run Tryz.prog w = .ok (.value (.tuple #[])) w := run_call_marked Tryz.func111 (by kernel_rfl) (by kernel_rfl) (by kernel_rfl) .releaseMerge (by kernel_rfl) a w

set_option maxRecDepth 100000 in
/-- The inner lock, free: taken. -/
theorem ilock_free (a : Addr) (w : World) (hc : w.cell? a = some (.int .i32 0)) (hz : w.frozen? a = false) :
    Calls Tryz.prog 102 #[.pointer (some a)] w fun e w' => e = .returned (.tuple #[]) ∧ w' = w.setCell a (.int .i32 1) := by
  have hd := disable
  have he := enable
  have ha := acquire
  have hcas := run_call_cas_hit (P := Tryz.prog) Tryz.func107 (by kernel_rfl) (by kernel_rfl) (by kernel_rfl) .i32 (by kernel_rfl) (y := 1) hc hz
  have hc' : (w.setCell a (.int .i32 1)).cell? a = some (.int .i32 1) := World.cell?_setCell_same w a _ hc
  have hcv := run_convert_to_unsafe (P := Tryz.prog) (src := 133) (dst := 137) Tryz.underlying133 Tryz.underlying137 (by kernel_rfl) hc'
  go_enter Tryz.func102, Tryz.ntmps102
  go_wp2
  first | go_end0 | (simp only [Exit.inBlock, Exit.then]; refine bodyPost_ret (results_none rfl _ _ _) rfl ?_) | refine bodyPost_ret (results_none rfl _ _ _) rfl ?_
  exact ⟨rfl, rfl⟩

/-- The lock, free: taken. -/
theorem lock_free (b off : Nat) (w : World) (hc : w.cell? ⟨b, off, none⟩ = some (.int .i32 0)) (hz : w.frozen? ⟨b, off, none⟩ = false) :
    Calls Tryz.prog 99 #[.pointer (some ⟨b, off, none⟩)] w fun e w' => e = .returned (.tuple #[]) ∧ w' = w.setCell ⟨b, off, none⟩ (.int .i32 1) := by
  go_enter Tryz.func99, Tryz.ntmps99
  go_wp2_with (go_at_call 102; refine (ilock_free ⟨b, off, none⟩ _ hc hz).mono ?_; rintro e w' ⟨rfl, rfl⟩)
  go_end0
  exact ⟨rfl, rfl⟩

set_option maxRecDepth 100000 in
/-- The inner lock, let go. -/
theorem iunlock_held (a : Addr) (w : World) (hc : w.cell? a = some (.int .i32 1)) (hz : w.frozen? a = false) :
    Calls Tryz.prog 103 #[.pointer (some a)] w fun e w' => e = .returned (.tuple #[]) ∧ w' = w.setCell a (.int .i32 0) := by
  have hd := disable
  have he := enable
  have hr := releaseMerge
  have hadd := run_call_add (P := Tryz.prog) Tryz.func112 (by kernel_rfl) (by kernel_rfl) (by kernel_rfl) .i32 (by kernel_rfl) (y := -1) (s := 0) hc hz (by simp [go_sem]; rfl)
  have hcv := run_convert_to_unsafe (P := Tryz.prog) (src := 133) (dst := 137) Tryz.underlying133 Tryz.underlying137 (by kernel_rfl) hc
  go_enter Tryz.func103, Tryz.ntmps103
  go_wp2
  go_end0
  exact ⟨rfl, rfl⟩

/-- The lock, let go, as a deferred call. -/
theorem unlock_deferred (b off : Nat) (u : FrameMode) (w : World) (hc : w.cell? ⟨b, off, none⟩ = some (.int .i32 1)) (hz : w.frozen? ⟨b, off, none⟩ = false) :
    CallsD Tryz.prog 100 #[.pointer (some ⟨b, off, none⟩)] u w fun e u' w' => u' = u ∧ (e = .returned (.tuple #[]) ∧ w' = w.setCell ⟨b, off, none⟩ (.int .i32 0)) := by
  go_enter_d Tryz.func100, Tryz.ntmps100
  go_wp2_with (go_at_call 103; refine (iunlock_held ⟨b, off, none⟩ _ hc hz).mono ?_; rintro e w' ⟨rfl, rfl⟩)
  go_end0
  exact ⟨rfl, rfl⟩

/-- 'Store(true)' as a deferred call: the cell holds 1. -/
theorem store_deferred (b off : Nat) (x : Value) (u : FrameMode) (w : World) (hc : w.cell? ⟨b, off, none⟩ = some x) (hz : w.frozen? ⟨b, off, none⟩ = false) :
    CallsD Tryz.prog 101 #[.pointer (some ⟨b, off, none⟩), .bool true] u w fun e u' w' => u' = u ∧ (e = .returned (.tuple #[]) ∧ w' = w.drew.setCell ⟨b, off, none⟩ (.int .u32 1)) := by
  have hc' : w.drew.cell? ⟨b, off, none⟩ = some x := by go_simp
  have hz' : w.drew.frozen? ⟨b, off, none⟩ = false := by go_simp
  have hst := run_call_store (P := Tryz.prog) Tryz.func104 (by kernel_rfl) (by kernel_rfl) (by kernel_rfl) (by kernel_rfl) (k := .u32) (y := 1) hc' hz'
  go_enter_d Tryz.func101, Tryz.ntmps101
  go_wp2
  go_region_calls
  all_goals (go_end0; exact ⟨rfl, rfl⟩)

/-- 'Load'. -/
theorem load_ok (b off : Nat) (x : Int) (w : World) (hc : w.cell? ⟨b, off, none⟩ = some (.int .u32 x)) :
    Calls Tryz.prog 96 #[.pointer (some ⟨b, off, none⟩)] w fun e w' => e = .returned (.bool (x != 0)) ∧ w' = w := by
  have hl := run_call_load (P := Tryz.prog) Tryz.func98 (by kernel_rfl) (by kernel_rfl) (by kernel_rfl) .u32 (by kernel_rfl) hc
  go_enter Tryz.func96, Tryz.ntmps96
  go_wp2
  go_ret
  exact ⟨rfl, rfl⟩

set_option maxRecDepth 100000 in
set_option maxHeartbeats 1600000 in
/-- 'doSlow', not yet done, the lock free: the lock is taken, the function is called, 'done' is stored, the lock is let go. -/
theorem slow_ok (b off : Nat) (pl : Addr) (w : World) (Q : World → Prop)
    (h0 : w.cell? ⟨b, off, none⟩ = some (.int .u32 0)) (h1 : w.cell? ⟨b, off + 1, none⟩ = some (.int .i32 0)) (f1 : w.frozen? ⟨b, off + 1, none⟩ = false)
    (hfn : Calls Tryz.prog 90 #[.pointer (some pl)] (w.setCell ⟨b, off + 1, none⟩ (.int .i32 1)) fun e w' => e = .returned (.tuple #[]) ∧ Q w')
    (hQ : ∀ w', Q w' → w'.cell? ⟨b, off, none⟩ = some (.int .u32 0) ∧ w'.cell? ⟨b, off + 1, none⟩ = some (.int .i32 1) ∧ w'.frozen? ⟨b, off, none⟩ = false ∧ w'.frozen? ⟨b, off + 1, none⟩ = false) :
    Calls Tryz.prog 97 #[.pointer (some ⟨b, off, none⟩), .func (.func 90) #[] #[.pointer (some pl)]] w fun e w' => e = .returned (.tuple #[]) ∧
      ∃ w2, Q w2 ∧ w' = (w2.drew.setCell ⟨b, off, none⟩ (.int .u32 1)).setCell ⟨b, off + 1, none⟩ (.int .i32 0) := by
  have hl := load_ok b off 0 (w.setCell ⟨b, off + 1, none⟩ (.int .i32 1)) ((World.cell?_setCell_other _ ⟨b, off + 1, none⟩ ⟨b, off, none⟩ _ (by simp)).trans h0)
  have hnot : ∀ (x : Bool) (w : World), (Op.unary .not (.bool x)).run Tryz.prog w = .ok (.bool (!x)) w := fun _ _ => rfl
  go_enter_defers Tryz.func97, Tryz.ntmps97
  go_wp2_with (first
    | (go_at_call 99; refine (lock_free b (off + 1) _ h1 f1).mono ?_; rintro e w' ⟨rfl, rfl⟩)
    | (go_at_call 96; refine hl.mono ?_; rintro e w' ⟨rfl, rfl⟩)
    | (go_at_call 90; refine hfn.mono ?_; rintro e w2 ⟨rfl, hq⟩))
  obtain ⟨q0, q1, q2, q3⟩ := hQ _ hq
  refine leaves_cons (f := 101) (args := #[.pointer (some ⟨b, off, none⟩), .bool true]) (by simp) (by simp [go_sem]) ?_
  refine (store_deferred b off (.int .u32 0) .returning _ q0 q2).mono ?_
  rintro e u' w'' ⟨rfl, rfl, rfl⟩
  refine leaves_cons (f := 100) (args := #[.pointer (some ⟨b, off + 1, none⟩)]) (by simp [settle]) (by simp [go_sem]) ?_
  refine (unlock_deferred b (off + 1) _ _ ?_ (by simp [q3])).mono ?_
  · refine (World.cell?_setCell_other _ ⟨b, off, none⟩ ⟨b, off + 1, none⟩ _ (by simp)).trans ?_
    rw [World.cell?_drew]
    exact q1
  rintro e u' w'' ⟨rfl, rfl, rfl⟩
  simp [Leaves, settle, results, Tryz.results97]
  exact ⟨w2, hq, rfl⟩

set_option maxRecDepth 100000 in
set_option maxHeartbeats 1600000 in
/-- 'Do', not yet done. -/
theorem do_first (b off : Nat) (pl : Addr) (w : World) (Q : World → Prop)
    (h0 : w.cell? ⟨b, off, none⟩ = some (.int .u32 0)) (h1 : w.cell? ⟨b, off + 1, none⟩ = some (.int .i32 0)) (f1 : w.frozen? ⟨b, off + 1, none⟩ = false)
    (hfn : Calls Tryz.prog 90 #[.pointer (some pl)] (w.setCell ⟨b, off + 1, none⟩ (.int .i32 1)) fun e w' => e = .returned (.tuple #[]) ∧ Q w')
    (hQ : ∀ w', Q w' → w'.cell? ⟨b, off, none⟩ = some (.int .u32 0) ∧ w'.cell? ⟨b, off + 1, none⟩ = some (.int .i32 1) ∧ w'.frozen? ⟨b, off, none⟩ = false ∧ w'.frozen? ⟨b, off + 1, none⟩ = false) :
    Calls Tryz.prog 89 #[.pointer (some ⟨b, off, none⟩), .func (.func 90) #[] #[.pointer (some pl)]] w fun e w' => e = .returned (.tuple #[]) ∧
      ∃ w2, Q w2 ∧ w' = (w2.drew.setCell ⟨b, off, none⟩ (.int .u32 1)).setCell ⟨b, off + 1, none⟩ (.int .i32 0) := by
  have hl := load_ok b off 0 w h0
  have hnot : ∀ (x : Bool) (w : World), (Op.unary .not (.bool x)).run Tryz.prog w = .ok (.bool (!x)) w := fun _ _ => rfl
  go_enter Tryz.func89, Tryz.ntmps89
  go_wp2_with (first
    | (go_at_call 97; refine (slow_ok b off pl _ Q h0 h1 f1 hfn hQ).mono ?_; rintro e w' ⟨rfl, w2, hq, rfl⟩)
    | (go_at_call 96; refine hl.mono ?_; rintro e w' ⟨rfl, rfl⟩))
  go_end0
  exact ⟨rfl, w2, hq, rfl⟩

/-- 'Do', done already: the function is not called. -/
theorem do_done (b off : Nat) (fv : Value) (w : World) (h0 : w.cell? ⟨b, off, none⟩ = some (.int .u32 1)) :
    Calls Tryz.prog 89 #[.pointer (some ⟨b, off, none⟩), fv] w fun e w' => e = .returned (.tuple #[]) ∧ w' = w := by
  have hl := load_ok b off 1 w h0
  have hnot : ∀ (x : Bool) (w : World), (Op.unary .not (.bool x)).run Tryz.prog w = .ok (.bool (!x)) w := fun _ _ => rfl
  go_enter Tryz.func89, Tryz.ntmps89
  go_wp2_with (go_at_call 96; refine hl.mono ?_; rintro e w' ⟨rfl, rfl⟩)
  go_end0
  exact ⟨rfl, rfl⟩

end Go.Proofs.YtcnlooajjnghaaaGreat

/- The walks of package gf: fields. -/
set_option linter.unusedVariables false
set_option linter.unusedSimpArgs false
namespace Go.Proofs.YtcnlooajjnghaaaGreat
open Go Go.Gam


namespace FxFGf
theorem en37 : Ent Tryz.prog 37 := ent Tryz.func37 (by kernel_rfl) (by kernel_rfl)
theorem en51 : Ent Tryz.prog 51 := ent Tryz.func51 (by kernel_rfl) (by kernel_rfl)
theorem en52 : Ent Tryz.prog 52 := ent Tryz.func52 (by kernel_rfl) (by kernel_rfl)
theorem en80 : Ent Tryz.prog 80 := ent Tryz.func80 (by kernel_rfl) (by kernel_rfl)
theorem fa89_1 : FieldFact Tryz.prog 89 1 3 := ff_of (sz := 0) Tryz.underlying89 (by kernel_rfl)
theorem fa89_2 : FieldFact Tryz.prog 89 2 4 := ff_of (sz := 0) Tryz.underlying89 (by kernel_rfl)
theorem fa91_0 : FieldFact Tryz.prog 91 0 0 := ff_of (sz := 0) Tryz.underlying91 (by kernel_rfl)
theorem fa91_1 : FieldFact Tryz.prog 91 1 1 := ff_of (sz := 0) Tryz.underlying91 (by kernel_rfl)
theorem fa91_2 : FieldFact Tryz.prog 91 2 2 := ff_of (sz := 4) Tryz.underlying91 (by kernel_rfl)
theorem hmix : Tryz.prog.follows .mixedOrders = true := by kernel_rfl
theorem on23 : Gam.One Tryz.prog 23 := by unfold Gam.One; kernel_rfl
theorem on3 : Gam.One Tryz.prog 3 := by unfold Gam.One; kernel_rfl
theorem sc23 : Scalar Tryz.prog 23 := ⟨_, Tryz.underlying23, by simp, by simp⟩
theorem sc26 : Scalar Tryz.prog 26 := ⟨_, Tryz.underlying26, by simp, by simp⟩
theorem sc27 : Scalar Tryz.prog 27 := ⟨_, Tryz.underlying27, by simp, by simp⟩
theorem sc3 : Scalar Tryz.prog 3 := ⟨_, Tryz.underlying3, by simp, by simp⟩
theorem sl23 : Sl Tryz.prog 23 3 (.int .i64 0) 8 := sl_of Tryz.underlying23 rfl (by kernel_rfl)
end FxFGf
open FxFGf

theorem v_newField {T : TypeId} {F : Fs} {w : World} {x y : Operand} {wb p : Nat} (hx : ev F x = some (.int .i64 (wb : Int))) (hy : ev F y = some (.int .u32 (p : Int))) :
    Val Tryz.prog (.build 91 #[(0, x), (1, y)]) T F w (.agg (fcells wb p 0 (.slice none 0 0) (.slice none 0 0))) :=
  fun ρ h d pp af g => by
    simp only [execOp, List.map_toArray, List.map_cons, List.map_nil, h x _ hx, h y _ hy]
    kernel_rfl
theorem nil_ne (a : Addr) : (some a : Option Addr).isNone = false := rfl

theorem toI (m : Nat) : ((m : Nat) : Int) = (m : Int) := rfl

set_option maxRecDepth 100000 in
set_option maxHeartbeats 1000000 in
theorem Size_nil (w : World) : Ret Tryz.prog 37 [.pointer none] w fun v w' => v = .int .i64 0 ∧ w' = w := by
  refine enter 10 [(0, .pointer none)] 2 Tryz.func37 rfl rfl rfl rfl rfl ?_; intro a hF
  refine W_sr rfl (fun K hK => ?_)
  refine sv hF (v_assign rfl) rfl ?_; clear hF a; intro a hF
  refine WL_nil (hK _ _ ?_)
  clear hK K
  refine W_seq ?_
  refine W_sr rfl (fun K hK => ?_)
  refine sv hF (v_move rfl) rfl ?_; clear hF a; intro a hF
  refine sv hF ((v_eqlNil (by exact Tryz.underlying26) rfl rfl).as (congrArg Value.bool (rfl))) rfl ?_; clear hF a; intro a hF
  refine WL_nil (hK _ _ ?_)
  clear hK K
  replace hF := hF.sub _ (c_ 4 rfl (c_ 2 rfl (c_ 0 rfl (n_))))
  refine W_ifT hF rfl ?_
  refine W_sr rfl (fun K hK => ?_)
  refine sv hF (v_assign rfl) rfl ?_; clear hF a; intro a hF
  refine WL_nil (hK _ _ ?_)
  clear hK K
  replace hF := hF.sub _ (c_ 2 rfl (c_ 0 rfl (n_)))
  refine W_ret ?_
  refine ⟨_, _, hF, rfl, ?_⟩
  exact ⟨rfl, rfl⟩

set_option maxRecDepth 100000 in
set_option maxHeartbeats 1000000 in
theorem Size_some (k wb : Nat) (w : World) (hw0 : w.cell? ⟨k, 0, none⟩ = some (.int .i64 (wb : Int))) (hwb : wb ≤ 62) : Ret Tryz.prog 37 [.pointer (some ⟨k, 0, none⟩)] w fun v w' => v = .int .i64 ((2 ^ wb : Nat) : Int) ∧ w' = w := by
  refine enter 10 [(0, .pointer (some ⟨k, 0, none⟩))] 2 Tryz.func37 rfl rfl rfl rfl rfl ?_; intro a hF
  refine W_sr rfl (fun K hK => ?_)
  refine sv hF (v_assign rfl) rfl ?_; clear hF a; intro a hF
  refine WL_nil (hK _ _ ?_)
  clear hK K
  refine W_seq ?_
  refine W_sr rfl (fun K hK => ?_)
  refine sv hF (v_move rfl) rfl ?_; clear hF a; intro a hF
  refine sv hF ((v_eqlNil (by exact Tryz.underlying26) rfl rfl).as (congrArg Value.bool (rfl))) rfl ?_; clear hF a; intro a hF
  refine WL_nil (hK _ _ ?_)
  clear hK K
  replace hF := hF.sub _ (c_ 4 rfl (c_ 2 rfl (c_ 0 rfl (n_))))
  refine W_ifF hF rfl ?_
  refine W_skip ?_
  refine W_sr rfl (fun K hK => ?_)
  refine sv hF (v_move rfl) rfl ?_; clear hF a; intro a hF
  refine sv hF (v_nil rfl) rfl ?_; clear hF a; intro a hF
  refine sv hF (v_fieldAddr fa91_0 rfl) rfl ?_; clear hF a; intro a hF
  refine sv hF (v_load sc3 rfl (by first | assumption | (rw [toNat_c]; assumption) | exact KC.c (by assumption) | (rw [toNat_c]; exact KC.c (by assumption)) | exact Box.at (by assumption))) rfl ?_; clear hF a; intro a hF
  refine sv hF ((v_shl rfl rfl (by omega)).as (congrArg _ (shl_i64 hwb))) rfl ?_; clear hF a; intro a hF
  refine sv hF (v_assign rfl) rfl ?_; clear hF a; intro a hF
  refine WL_nil (hK _ _ ?_)
  clear hK K
  replace hF := hF.sub _ (c_ 2 rfl (n_))
  refine W_ret ?_
  refine ⟨_, _, hF, rfl, ?_⟩
  exact ⟨rfl, rfl⟩

theorem Size_ok (B : Nat) (o : Fq) (fv : Value) (w : World) (hf : Fo FDx B w fv o) : Ret Tryz.prog 37 [fv] w fun v w' => v = .int .i64 (fsz o : Int) ∧ w' = w := by
  cases o with
  | none => obtain rfl : fv = .pointer none := hf; exact Size_nil w
  | some q => obtain ⟨h1, k, rfl, h2⟩ := hf; exact Size_some k q.1 w h2.w0 (by have := h1.w; omega)
def fbits : Fq → Nat
  | none => 0
  | some q => q.1

set_option maxRecDepth 100000 in
set_option maxHeartbeats 1000000 in
theorem in_ok (B : Nat) (o : Fq) (fv : Value) (sa : Option Addr) (cp : Nat) (zs : List Int) (w : World) (hI : Inv FDx B w) (hf : Fo FDx B w fv o) (hz : zs.length < 4294967296) (hr : ∀ (i : Nat) (z : Int), zs[i]? = some z → ∃ g o, sa = some ⟨g, o, none⟩ ∧ w.cell? ⟨g, o + i, none⟩ = some (.int .i64 z)) : Ret Tryz.prog 69 [fv, .slice sa zs.length cp] w fun v w' => v = .bool (zs.all (inF o)) ∧ w' = w := by
  refine enter 22 [(0, fv), (1, .slice sa zs.length cp)] 4 Tryz.func69 rfl rfl rfl rfl rfl ?_; intro a hF
  have hS := St.refl hI
  refine W_sr rfl (fun K hK => ?_)
  refine sv hF (v_assign rfl) rfl ?_; clear hF a; intro a hF
  refine WL_nil (hK _ _ ?_)
  clear hK K
  refine W_seq ?_
  refine W_sr rfl (fun K hK => ?_)
  refine sv hF (v_move rfl) rfl ?_; clear hF a; intro a hF
  refine sv hF (v_lenS rfl sl23 rfl) rfl ?_; clear hF a; intro a hF
  refine sv hF (v_move rfl) rfl ?_; clear hF a; intro a hF
  refine WL_nil (hK _ _ ?_)
  clear hK K
  replace hF := hF.sub _ (c_ 9 rfl (c_ 8 rfl (c_ 7 rfl (c_ 4 rfl (c_ 0 rfl (n_))))))
  refine W_block ?_
  refine W_loop (fun m a w1 => ∃ i : Nat, Fr 22 [(0, fv), (7, .slice sa zs.length cp), (8, .int .i64 (zs.length : Int)), (9, .int .i64 (i : Int))] a ∧ w = w1 ∧ i ≤ zs.length ∧ (zs.take i).all (inF o) = true ∧ m + i = zs.length) (zs.length) ?_ ?_
  · skip
    exact ⟨0, hF.sub _ (c_ 0 rfl (c_ 7 rfl (c_ 8 rfl (c_ 9 rfl n_)))), rfl, by omega, rfl, by omega⟩
  · skip
    clear hF
    rintro m a _ ⟨i, hF, rfl, hi, hall, hm⟩
    refine W_sr rfl (fun K hK => ?_)
    refine sv hF (v_lss rfl rfl) rfl ?_; clear hF a; intro a hF
    refine WL_nil (hK _ _ ?_)
    clear hK K
    refine W_seq ?_
    refine W_if hF rfl (fun hc1 => ?_) (fun hc1 => ?_)
    · skip
      try simp only [decide_eq_true_eq, decide_eq_false_iff_not, Bool.not_eq_true', Bool.not_eq_false', Bool.not_true, Bool.not_false] at hc1
      have hlt : i < zs.length := by omega
      obtain ⟨g, oo, rfl, hc⟩ := hr i _ (List.getElem?_eq_getElem hlt)
      generalize hzi : zs[i] = z at hc
      refine W_skip ?_
      refine W_seq ?_
      refine W_block ?_
      refine W_sr rfl (fun K hK => ?_)
      refine sv hF (v_ixS sl23 rfl rfl (by omega) (by omega)) rfl ?_; clear hF a; intro a hF
      refine sv hF (v_load sc3 rfl (by first | assumption | (rw [toNat_c]; assumption) | exact KC.c (by assumption) | (rw [toNat_c]; exact KC.c (by assumption)) | exact Box.at (by assumption))) rfl ?_; clear hF a; intro a hF
      refine sv hF (v_assign rfl) rfl ?_; clear hF a; intro a hF
      refine WL_nil (hK _ _ ?_)
      clear hK K
      replace hF := hF.sub _ (c_ 6 rfl (c_ 0 rfl (c_ 7 rfl (c_ 8 rfl (c_ 9 rfl (n_))))))
      refine W_sr rfl (fun K hK => ?_)
      refine sv hF (v_move rfl) rfl ?_; clear hF a; intro a hF
      refine sb hF (v_lss rfl rfl) rfl ?_ ?_
      · clear hF a; intro hc2 a hF
        try simp only [decide_eq_true_eq, decide_eq_false_iff_not, Bool.not_eq_true', Bool.not_eq_false', Bool.not_true, Bool.not_false] at hc2
        refine sv hF (v_move rfl) rfl ?_; clear hF a; intro a hF
        refine svn hF rfl rfl rfl ?_; clear hF a; intro a hF
        refine svn hF rfl rfl rfl ?_; clear hF a; intro a hF
        refine svn hF rfl rfl rfl ?_; clear hF a; intro a hF
        refine svn hF rfl rfl rfl ?_; clear hF a; intro a hF
        refine sv hF (v_pickT rfl rfl) rfl ?_; clear hF a; intro a hF
        refine WL_nil (hK _ _ ?_)
        clear hK K
        replace hF := hF.sub _ (c_ 20 rfl (c_ 0 rfl (c_ 7 rfl (c_ 8 rfl (c_ 9 rfl (n_))))))
        refine W_ifT hF rfl ?_
        refine W_sr rfl (fun K hK => ?_)
        refine sv hF (v_assign rfl) rfl ?_; clear hF a; intro a hF
        refine WL_nil (hK _ _ ?_)
        clear hK K
        replace hF := hF.sub _ (c_ 4 rfl (c_ 0 rfl (c_ 7 rfl (c_ 8 rfl (c_ 9 rfl (n_))))))
        refine W_ret ?_
        refine ⟨_, _, hF, rfl, ?_⟩
        refine ⟨congrArg _ (Eq.symm ?_), rfl⟩
        rw [List.all_eq_false]
        exact ⟨z, hzi ▸ List.getElem_mem hlt, by unfold inF; simp; omega⟩
      · clear hF a; intro hc2 a hF
        try simp only [decide_eq_true_eq, decide_eq_false_iff_not, Bool.not_eq_true', Bool.not_eq_false', Bool.not_true, Bool.not_false] at hc2
        refine sv hF (v_move rfl) rfl ?_; clear hF a; intro a hF
        refine svg hF rfl ?_
        refine sv hF (v_move rfl) rfl ?_; clear hF a; intro a hF
        refine svg hF rfl ?_
        refine sv hF (v_move rfl) rfl ?_; clear hF a; intro a hF
        refine svg hF rfl ?_
        refine sc hF rfl rfl rfl en37 rfl (Size_ok B o fv _ hf) ?_; clear hF a; intro v w' a hv hF
        obtain ⟨rfl, rfl⟩ := hv
        have hS' := St.refl hS.inv
        replace hS := hS.trans hS'
        clear hS'
        refine svg hF rfl ?_
        refine sv hF (v_geq rfl rfl) rfl ?_; clear hF a; intro a hF
        refine sv hF (v_pickF rfl rfl) rfl ?_; clear hF a; intro a hF
        refine WL_nil (hK _ _ ?_)
        clear hK K
        replace hF := hF.sub _ (c_ 20 rfl (c_ 0 rfl (c_ 7 rfl (c_ 8 rfl (c_ 9 rfl (n_))))))
        refine W_if hF rfl (fun hc3 => ?_) (fun hc3 => ?_)
        · skip
          try simp only [decide_eq_true_eq, decide_eq_false_iff_not, Bool.not_eq_true', Bool.not_eq_false', Bool.not_true, Bool.not_false] at hc3
          refine W_sr rfl (fun K hK => ?_)
          refine sv hF (v_assign rfl) rfl ?_; clear hF a; intro a hF
          refine WL_nil (hK _ _ ?_)
          clear hK K
          replace hF := hF.sub _ (c_ 4 rfl (c_ 0 rfl (c_ 7 rfl (c_ 8 rfl (c_ 9 rfl (n_))))))
          refine W_ret ?_
          refine ⟨_, _, hF, rfl, ?_⟩
          refine ⟨congrArg _ (Eq.symm ?_), rfl⟩
          rw [List.all_eq_false]
          exact ⟨z, hzi ▸ List.getElem_mem hlt, by unfold inF; simp; omega⟩
        · skip
          try simp only [decide_eq_true_eq, decide_eq_false_iff_not, Bool.not_eq_true', Bool.not_eq_false', Bool.not_true, Bool.not_false] at hc3
          refine W_skip ?_
          refine W_reg rfl (fun K hK => ?_)
          refine sv hF (v_addI rfl rfl (by omega)) rfl ?_; clear hF a; intro a hF
          refine sv hF (v_move rfl) rfl ?_; clear hF a; intro a hF
          refine WL_nil (hK _ _ ?_)
          clear hK K
          replace hF := hF.sub _ (c_ 9 rfl (c_ 21 rfl (c_ 0 rfl (c_ 7 rfl (c_ 8 rfl (n_))))))
          refine ⟨m - 1, by omega, i + 1, hF.sub _ (c_ 0 rfl (c_ 7 rfl (c_ 8 rfl (c_ 9 rfl n_)))), rfl, by omega, ?_, by omega⟩
          rw [List.take_succ_eq_append_getElem hlt, List.all_append, hall, hzi]
          simp [inF]; omega
    · skip
      try simp only [decide_eq_true_eq, decide_eq_false_iff_not, Bool.not_eq_true', Bool.not_eq_false', Bool.not_true, Bool.not_false] at hc1
      refine W_exit rfl ?_
      refine W_sr rfl (fun K hK => ?_)
      refine sv hF (v_assign rfl) rfl ?_; clear hF a; intro a hF
      refine WL_nil (hK _ _ ?_)
      clear hK K
      replace hF := hF.sub _ (c_ 4 rfl (c_ 0 rfl (c_ 7 rfl (c_ 8 rfl (c_ 9 rfl (n_))))))
      refine W_ret ?_
      refine ⟨_, _, hF, rfl, ?_⟩
      obtain rfl : i = zs.length := by omega
      rw [List.take_length] at hall
      exact ⟨congrArg _ hall.symm, rfl⟩

set_option maxRecDepth 100000 in
set_option maxHeartbeats 1000000 in
theorem New_ok (B : Nat) (W : Int) (p : Nat) (w : World) (hI : Inv FDx B w) (hW : -9223372036854775808 ≤ W ∧ W < 9223372036854775808) (hp : p < 4294967296) : Ret Tryz.prog 25 [.int .i64 W, .int .u32 (p : Int)] w fun v w' => Fo FDx B w' v (newF W p) ∧ St FDx B w w' := by
  refine enter 27 [(0, .int .i64 W), (1, .int .u32 (p : Int))] 4 Tryz.func25 rfl rfl rfl rfl rfl ?_; intro a hF
  have hS := St.refl hI
  refine W_sr rfl (fun K hK => ?_)
  refine sv hF (v_assign rfl) rfl ?_; clear hF a; intro a hF
  refine WL_nil (hK _ _ ?_)
  clear hK K
  refine W_seq ?_
  refine W_sr rfl (fun K hK => ?_)
  refine sv hF (v_move rfl) rfl ?_; clear hF a; intro a hF
  refine sb hF (v_neq rfl rfl) rfl ?_ ?_
  · clear hF a; intro hc1 a hF
    try simp only [decide_eq_true_eq, decide_eq_false_iff_not, Bool.not_eq_true', Bool.not_eq_false', Bool.not_true, Bool.not_false] at hc1
    refine sv hF (v_move rfl) rfl ?_; clear hF a; intro a hF
    refine svg hF rfl ?_
    refine sv hF (v_move rfl) rfl ?_; clear hF a; intro a hF
    refine svg hF rfl ?_
    refine sb hF (v_neq rfl rfl) rfl ?_ ?_
    · clear hF a; intro hc2 a hF
      try simp only [decide_eq_true_eq, decide_eq_false_iff_not, Bool.not_eq_true', Bool.not_eq_false', Bool.not_true, Bool.not_false] at hc2
      refine sv hF (v_pickT rfl rfl) rfl ?_; clear hF a; intro a hF
      refine sv hF (v_move rfl) rfl ?_; clear hF a; intro a hF
      refine svn hF rfl rfl rfl ?_; clear hF a; intro a hF
      refine svn hF rfl rfl rfl ?_; clear hF a; intro a hF
      refine svn hF rfl rfl rfl ?_; clear hF a; intro a hF
      refine svn hF rfl rfl rfl ?_; clear hF a; intro a hF
      refine svn hF rfl rfl rfl ?_; clear hF a; intro a hF
      refine sv hF (v_pickT rfl rfl) rfl ?_; clear hF a; intro a hF
      refine sv hF (v_move rfl) rfl ?_; clear hF a; intro a hF
      refine svn hF rfl rfl rfl ?_; clear hF a; intro a hF
      refine svn hF rfl rfl rfl ?_; clear hF a; intro a hF
      refine svn hF rfl rfl rfl ?_; clear hF a; intro a hF
      refine sv hF (v_pickT rfl rfl) rfl ?_; clear hF a; intro a hF
      refine WL_nil (hK _ _ ?_)
      clear hK K
      replace hF := hF.sub _ (c_ 22 rfl (c_ 4 rfl (c_ 0 rfl (c_ 1 rfl (n_)))))
      refine W_ifT hF rfl ?_
      refine W_sr rfl (fun K hK => ?_)
      refine sv hF (v_assign rfl) rfl ?_; clear hF a; intro a hF
      refine WL_nil (hK _ _ ?_)
      clear hK K
      replace hF := hF.sub _ (c_ 4 rfl (c_ 0 rfl (c_ 1 rfl (n_))))
      refine W_ret ?_
      refine ⟨_, _, hF, rfl, ?_⟩
      first
        | exact ⟨by rw [newF_f (by rintro ⟨h1, h2, h3⟩; first | omega | (simp_all; done))]; rfl, hS⟩
        | (have hc : ((wb : Int) = 8 ∨ (wb : Int) = 16) ∧ Px.deg p = (wb : Int) ∧ prim p = true := ⟨by omega, by omega, by simp_all⟩
           rw [newF_t hc]
           exact ⟨⟨newF_prm hc, _, rfl, hfk⟩, hS⟩)
    · clear hF a; intro hc2 a hF
      try simp only [decide_eq_true_eq, decide_eq_false_iff_not, Bool.not_eq_true', Bool.not_eq_false', Bool.not_true, Bool.not_false] at hc2
      refine sv hF (v_pickT rfl rfl) rfl ?_; clear hF a; intro a hF
      refine sv hF (v_move rfl) rfl ?_; clear hF a; intro a hF
      refine svg hF rfl ?_
      refine sv hF (v_move rfl) rfl ?_; clear hF a; intro a hF
      refine svg hF rfl ?_
      refine sv hF (v_cv Tryz.underlying27 Tryz.underlying75 rfl (wrap_u64 _ (by omega))) rfl ?_; clear hF a; intro a hF
      refine svg hF rfl ?_
      refine sc hF rfl rfl rfl en51 rfl (Deg_ok B p _ hS.inv (by omega)) ?_; clear hF a; intro v w' a hv hF
      obtain ⟨rfl, hS'⟩ := hv
      replace hS := hS.trans hS'
      clear hS'
      refine svg hF rfl ?_
      refine sv hF (v_move rfl) rfl ?_; clear hF a; intro a hF
      refine svg hF rfl ?_
      refine sb hF (v_neq rfl rfl) rfl ?_ ?_
      · clear hF a; intro hc3 a hF
        try simp only [decide_eq_true_eq, decide_eq_false_iff_not, Bool.not_eq_true', Bool.not_eq_false', Bool.not_true, Bool.not_false] at hc3
        refine sv hF (v_pickF rfl rfl) rfl ?_; clear hF a; intro a hF
        refine sv hF (v_move rfl) rfl ?_; clear hF a; intro a hF
        refine svn hF rfl rfl rfl ?_; clear hF a; intro a hF
        refine svn hF rfl rfl rfl ?_; clear hF a; intro a hF
        refine svn hF rfl rfl rfl ?_; clear hF a; intro a hF
        refine sv hF (v_pickT rfl rfl) rfl ?_; clear hF a; intro a hF
        refine WL_nil (hK _ _ ?_)
        clear hK K
        replace hF := hF.sub _ (c_ 22 rfl (c_ 4 rfl (c_ 0 rfl (c_ 1 rfl (n_)))))
        refine W_ifT hF rfl ?_
        refine W_sr rfl (fun K hK => ?_)
        refine sv hF (v_assign rfl) rfl ?_; clear hF a; intro a hF
        refine WL_nil (hK _ _ ?_)
        clear hK K
        replace hF := hF.sub _ (c_ 4 rfl (c_ 0 rfl (c_ 1 rfl (n_))))
        refine W_ret ?_
        refine ⟨_, _, hF, rfl, ?_⟩
        first
          | exact ⟨by rw [newF_f (by rintro ⟨h1, h2, h3⟩; first | omega | (simp_all; done))]; rfl, hS⟩
          | (have hc : ((wb : Int) = 8 ∨ (wb : Int) = 16) ∧ Px.deg p = (wb : Int) ∧ prim p = true := ⟨by omega, by omega, by simp_all⟩
             rw [newF_t hc]
             exact ⟨⟨newF_prm hc, _, rfl, hfk⟩, hS⟩)
      · clear hF a; intro hc3 a hF
        try simp only [decide_eq_true_eq, decide_eq_false_iff_not, Bool.not_eq_true', Bool.not_eq_false', Bool.not_true, Bool.not_false] at hc3
        refine sv hF (v_pickF rfl rfl) rfl ?_; clear hF a; intro a hF
        refine sv hF (v_move rfl) rfl ?_; clear hF a; intro a hF
        refine svg hF rfl ?_
        refine sv hF (v_move rfl) rfl ?_; clear hF a; intro a hF
        refine svg hF rfl ?_
        refine sc hF rfl rfl rfl en52 rfl (prim_ok B p _ hS.inv hp) ?_; clear hF a; intro v w' a hv hF
        obtain ⟨rfl, hS'⟩ := hv
        replace hS := hS.trans hS'
        clear hS'
        refine svg hF rfl ?_
        refine sv hF (v_not rfl) rfl ?_; clear hF a; intro a hF
        refine sv hF (v_pickF rfl rfl) rfl ?_; clear hF a; intro a hF
        refine WL_nil (hK _ _ ?_)
        clear hK K
        replace hF := hF.sub _ (c_ 22 rfl (c_ 4 rfl (c_ 0 rfl (c_ 1 rfl (n_)))))
        refine W_if hF rfl (fun hc4 => ?_) (fun hc4 => ?_)
        · skip
          try simp only [decide_eq_true_eq, decide_eq_false_iff_not, Bool.not_eq_true', Bool.not_eq_false', Bool.not_true, Bool.not_false] at hc4
          refine W_sr rfl (fun K hK => ?_)
          refine sv hF (v_assign rfl) rfl ?_; clear hF a; intro a hF
          refine WL_nil (hK _ _ ?_)
          clear hK K
          replace hF := hF.sub _ (c_ 4 rfl (c_ 0 rfl (c_ 1 rfl (n_))))
          refine W_ret ?_
          refine ⟨_, _, hF, rfl, ?_⟩
          first
            | exact ⟨by rw [newF_f (by rintro ⟨h1, h2, h3⟩; first | omega | (simp_all; done))]; rfl, hS⟩
            | (have hc : ((wb : Int) = 8 ∨ (wb : Int) = 16) ∧ Px.deg p = (wb : Int) ∧ prim p = true := ⟨by omega, by omega, by simp_all⟩
               rw [newF_t hc]
               exact ⟨⟨newF_prm hc, _, rfl, hfk⟩, hS⟩)
        · skip
          try simp only [decide_eq_true_eq, decide_eq_false_iff_not, Bool.not_eq_true', Bool.not_eq_false', Bool.not_true, Bool.not_false] at hc4
          refine W_skip ?_
          obtain ⟨wb, rfl⟩ : ∃ wb : Nat, W = (wb : Int) := ⟨W.toNat, by omega⟩
          refine W_sr rfl (fun K hK => ?_)
          refine sv hF (v_move rfl) rfl ?_; clear hF a; intro a hF
          refine sv hF (v_move rfl) rfl ?_; clear hF a; intro a hF
          refine sv hF (v_newField rfl rfl) rfl ?_; clear hF a; intro a hF
          refine s_field (D := FDx) (B := B) hF rfl rfl hS.inv rfl ?_; clear hF a; intro w' a hS' hfk hF
          replace hS := hS.trans hS'
          refine sv hF (v_assign rfl) rfl ?_; clear hF a; intro a hF
          refine WL_nil (hK _ _ ?_)
          clear hK K
          replace hF := hF.sub _ (c_ 4 rfl (n_))
          refine W_ret ?_
          refine ⟨_, _, hF, rfl, ?_⟩
          first
            | exact ⟨by rw [newF_f (by rintro ⟨h1, h2, h3⟩; first | omega | (simp_all; done))]; rfl, hS⟩
            | (have hc : ((wb : Int) = 8 ∨ (wb : Int) = 16) ∧ Px.deg p = (wb : Int) ∧ prim p = true := ⟨by omega, by omega, by simp_all⟩
               rw [newF_t hc]
               exact ⟨⟨newF_prm hc, _, rfl, hfk⟩, hS⟩)
  · clear hF a; intro hc1 a hF
    try simp only [decide_eq_true_eq, decide_eq_false_iff_not, Bool.not_eq_true', Bool.not_eq_false', Bool.not_true, Bool.not_false] at hc1
    refine sv hF (v_move rfl) rfl ?_; clear hF a; intro a hF
    refine svn hF rfl rfl rfl ?_; clear hF a; intro a hF
    refine svn hF rfl rfl rfl ?_; clear hF a; intro a hF
    refine sv hF (v_pickF rfl rfl) rfl ?_; clear hF a; intro a hF
    refine sv hF (v_move rfl) rfl ?_; clear hF a; intro a hF
    refine svg hF rfl ?_
    refine sv hF (v_move rfl) rfl ?_; clear hF a; intro a hF
    refine svg hF rfl ?_
    refine sv hF (v_cv Tryz.underlying27 Tryz.underlying75 rfl (wrap_u64 _ (by omega))) rfl ?_; clear hF a; intro a hF
    refine svg hF rfl ?_
    refine sc hF rfl rfl rfl en51 rfl (Deg_ok B p _ hS.inv (by omega)) ?_; clear hF a; intro v w' a hv hF
    obtain ⟨rfl, hS'⟩ := hv
    replace hS := hS.trans hS'
    clear hS'
    refine svg hF rfl ?_
    refine sv hF (v_move rfl) rfl ?_; clear hF a; intro a hF
    refine svg hF rfl ?_
    refine sb hF (v_neq rfl rfl) rfl ?_ ?_
    · clear hF a; intro hc5 a hF
      try simp only [decide_eq_true_eq, decide_eq_false_iff_not, Bool.not_eq_true', Bool.not_eq_false', Bool.not_true, Bool.not_false] at hc5
      refine sv hF (v_pickF rfl rfl) rfl ?_; clear hF a; intro a hF
      refine sv hF (v_move rfl) rfl ?_; clear hF a; intro a hF
      refine svn hF rfl rfl rfl ?_; clear hF a; intro a hF
      refine svn hF rfl rfl rfl ?_; clear hF a; intro a hF
      refine svn hF rfl rfl rfl ?_; clear hF a; intro a hF
      refine sv hF (v_pickT rfl rfl) rfl ?_; clear hF a; intro a hF
      refine WL_nil (hK _ _ ?_)
      clear hK K
      replace hF := hF.sub _ (c_ 22 rfl (c_ 4 rfl (c_ 0 rfl (c_ 1 rfl (n_)))))
      refine W_ifT hF rfl ?_
      refine W_sr rfl (fun K hK => ?_)
      refine sv hF (v_assign rfl) rfl ?_; clear hF a; intro a hF
      refine WL_nil (hK _ _ ?_)
      clear hK K
      replace hF := hF.sub _ (c_ 4 rfl (c_ 0 rfl (c_ 1 rfl (n_))))
      refine W_ret ?_
      refine ⟨_, _, hF, rfl, ?_⟩
      first
        | exact ⟨by rw [newF_f (by rintro ⟨h1, h2, h3⟩; first | omega | (simp_all; done))]; rfl, hS⟩
        | (have hc : ((wb : Int) = 8 ∨ (wb : Int) = 16) ∧ Px.deg p = (wb : Int) ∧ prim p = true := ⟨by omega, by omega, by simp_all⟩
           rw [newF_t hc]
           exact ⟨⟨newF_prm hc, _, rfl, hfk⟩, hS⟩)
    · clear hF a; intro hc5 a hF
      try simp only [decide_eq_true_eq, decide_eq_false_iff_not, Bool.not_eq_true', Bool.not_eq_false', Bool.not_true, Bool.not_false] at hc5
      refine sv hF (v_pickF rfl rfl) rfl ?_; clear hF a; intro a hF
      refine sv hF (v_move rfl) rfl ?_; clear hF a; intro a hF
      refine svg hF rfl ?_
      refine sv hF (v_move rfl) rfl ?_; clear hF a; intro a hF
      refine svg hF rfl ?_
      refine sc hF rfl rfl rfl en52 rfl (prim_ok B p _ hS.inv hp) ?_; clear hF a; intro v w' a hv hF
      obtain ⟨rfl, hS'⟩ := hv
      replace hS := hS.trans hS'
      clear hS'
      refine svg hF rfl ?_
      refine sv hF (v_not rfl) rfl ?_; clear hF a; intro a hF
      refine sv hF (v_pickF rfl rfl) rfl ?_; clear hF a; intro a hF
      refine WL_nil (hK _ _ ?_)
      clear hK K
      replace hF := hF.sub _ (c_ 22 rfl (c_ 4 rfl (c_ 0 rfl (c_ 1 rfl (n_)))))
      refine W_if hF rfl (fun hc6 => ?_) (fun hc6 => ?_)
      · skip
        try simp only [decide_eq_true_eq, decide_eq_false_iff_not, Bool.not_eq_true', Bool.not_eq_false', Bool.not_true, Bool.not_false] at hc6
        refine W_sr rfl (fun K hK => ?_)
        refine sv hF (v_assign rfl) rfl ?_; clear hF a; intro a hF
        refine WL_nil (hK _ _ ?_)
        clear hK K
        replace hF := hF.sub _ (c_ 4 rfl (c_ 0 rfl (c_ 1 rfl (n_))))
        refine W_ret ?_
        refine ⟨_, _, hF, rfl, ?_⟩
        first
          | exact ⟨by rw [newF_f (by rintro ⟨h1, h2, h3⟩; first | omega | (simp_all; done))]; rfl, hS⟩
          | (have hc : ((wb : Int) = 8 ∨ (wb : Int) = 16) ∧ Px.deg p = (wb : Int) ∧ prim p = true := ⟨by omega, by omega, by simp_all⟩
             rw [newF_t hc]
             exact ⟨⟨newF_prm hc, _, rfl, hfk⟩, hS⟩)
      · skip
        try simp only [decide_eq_true_eq, decide_eq_false_iff_not, Bool.not_eq_true', Bool.not_eq_false', Bool.not_true, Bool.not_false] at hc6
        refine W_skip ?_
        obtain ⟨wb, rfl⟩ : ∃ wb : Nat, W = (wb : Int) := ⟨W.toNat, by omega⟩
        refine W_sr rfl (fun K hK => ?_)
        refine sv hF (v_move rfl) rfl ?_; clear hF a; intro a hF
        refine sv hF (v_move rfl) rfl ?_; clear hF a; intro a hF
        refine sv hF (v_newField rfl rfl) rfl ?_; clear hF a; intro a hF
        refine s_field (D := FDx) (B := B) hF rfl rfl hS.inv rfl ?_; clear hF a; intro w' a hS' hfk hF
        replace hS := hS.trans hS'
        refine sv hF (v_assign rfl) rfl ?_; clear hF a; intro a hF
        refine WL_nil (hK _ _ ?_)
        clear hK K
        replace hF := hF.sub _ (c_ 4 rfl (n_))
        refine W_ret ?_
        refine ⟨_, _, hF, rfl, ?_⟩
        first
          | exact ⟨by rw [newF_f (by rintro ⟨h1, h2, h3⟩; first | omega | (simp_all; done))]; rfl, hS⟩
          | (have hc : ((wb : Int) = 8 ∨ (wb : Int) = 16) ∧ Px.deg p = (wb : Int) ∧ prim p = true := ⟨by omega, by omega, by simp_all⟩
             rw [newF_t hc]
             exact ⟨⟨newF_prm hc, _, rfl, hfk⟩, hS⟩)

set_option maxRecDepth 100000 in
set_option maxHeartbeats 1000000 in
theorem ready1_ok (wb p k pb : Nat) (z2 z3 z4 : Value) (w : World) (hp : Prm wb p) (hk : w.heap[k]? = some (.cells #[.int .i64 (wb : Int), .int .u32 (p : Int), z2, z3, z4, .slice none 0 0, .slice none 0 0] FDx.T (0, 0))) (hc : w.cell? ⟨pb, 0, none⟩ = some (.pointer (some ⟨k, 0, none⟩))) (hkb : k ≠ pb) : Ret Tryz.prog 90 [.pointer (some ⟨pb, 0, none⟩)] w fun v w' => v = .tuple #[] ∧ ∃ g1 g2, Tst FDx w w' k #[.int .i64 (wb : Int), .int .u32 (p : Int), z2, z3, z4, .slice (some ⟨g1, 0, none⟩) (2 ^ wb) (2 ^ wb), .slice (some ⟨g2, 0, none⟩) (2 ^ wb) (2 ^ wb)] g1 g2 (Px.expL wb p (2 ^ wb - 1)) (Px.logL wb p (2 ^ wb - 1)) := by
  refine enter0 48 [(0, .pointer (some ⟨pb, 0, none⟩))]  Tryz.func90 rfl rfl rfl rfl rfl ?_; intro a hF
  have hwb : wb ≤ 62 := by have := hp.w; omega
  have hsz := hp.size
  have horder := hp.order
  refine W_cut (fun a w1 => ∃ g1 g2, Fr 48 [(0, .pointer (some ⟨pb, 0, none⟩))] a ∧ Tst FDx w w1 k #[.int .i64 (wb : Int), .int .u32 (p : Int), z2, z3, z4, .slice (some ⟨g1, 0, none⟩) (2 ^ wb) (2 ^ wb), .slice (some ⟨g2, 0, none⟩) (2 ^ wb) (2 ^ wb)] g1 g2 (List.replicate (2 ^ wb) 0) (List.replicate (2 ^ wb) 0)) ?_ ?_
  · skip
    refine W_dS (fun w2 => w2.cell? ⟨pb, 0, none⟩ = some (.pointer (some ⟨k, 0, none⟩)) ∧ w2.cell? ⟨k, 0, none⟩ = some (.int .i64 (wb : Int))) (m := 16) rfl hmix (fun K hK => ?_)
    have hM := Mid.start (E := FDx.E) (T := FDx.T) (m := 2 ^ wb) hk
    have hSS := hM.S hc hkb rfl
    refine b_v (i := 0) rfl (by kernel_rfl) hF (fun w2 hx => v_load sc26 rfl (hx.1)) rfl hSS ?_; clear hF a; intro a hF
    refine b_v (i := 1) rfl (by kernel_rfl) hF (fun w2 hx => v_load sc26 rfl (hx.1)) rfl hSS ?_; clear hF a; intro a hF
    refine b_v (i := 2) rfl (by kernel_rfl) hF (fun w2 hx => v_load sc26 rfl (hx.1)) rfl hSS ?_; clear hF a; intro a hF
    refine b_v (i := 5) rfl (by kernel_rfl) hF (fun w2 hx => v_load sc26 rfl (hx.1)) rfl hSS ?_; clear hF a; intro a hF
    refine b_e (i := 3) (by kernel_rfl) rfl ?_
    refine sc hF rfl rfl rfl en37 rfl (Size_some k wb _ hSS.2 hwb) ?_; clear hF a; intro v w' a hv hF
    obtain ⟨rfl, rfl⟩ := hv
    refine WL_nil ⟨hSS, ?_⟩
    refine b_e2 (i := 4) (i' := 6) (by kernel_rfl) rfl rfl ?_ ?_
    · skip
      refine s_mkM (E := FDx.E) (Tf := FDx.T) hF sl23 rfl rfl (by omega) (by simp only [maxLen]; omega) rfl hM ?_; clear hF a; intro w' a g1 hg1 hM hF
      clear hSS
      have hSS := hM.S hc hkb rfl
      refine WL_nil ⟨hSS, ?_⟩
      refine b_e (i := 6) (by kernel_rfl) rfl ?_
      refine sc hF rfl rfl rfl en37 rfl (Size_some k wb _ hSS.2 hwb) ?_; clear hF a; intro v w' a hv hF
      obtain ⟨rfl, rfl⟩ := hv
      refine WL_nil ⟨hSS, ?_⟩
      refine b_v (i := 8) rfl (by kernel_rfl) hF (fun w2 hx => v_nil rfl) rfl hSS ?_; clear hF a; intro a hF
      refine b_v (i := 9) rfl (by kernel_rfl) hF (fun w2 hx => v_fieldAddr fa91_2 rfl) rfl hSS ?_; clear hF a; intro a hF
      refine b_v (i := 10) rfl (by kernel_rfl) hF (fun w2 hx => v_fieldAddr fa89_1 rfl) rfl hSS ?_; clear hF a; intro a hF
      refine b_e2 (i := 7) (i' := 11) (by kernel_rfl) rfl rfl ?_ ?_
      · skip
        refine s_mkM (E := FDx.E) (Tf := FDx.T) hF sl23 rfl rfl (by omega) (by simp only [maxLen]; omega) rfl hM ?_; clear hF a; intro w' a g2 hg2 hM hF
        clear hSS
        have hSS := hM.S hc hkb rfl
        refine WL_nil ⟨hSS, ?_⟩
        refine b_e (i := 11) (by kernel_rfl) rfl ?_
        refine s_st hF on23 rfl rfl rfl hM.blk (by simp) (fun w' hu => ?_)
        replace hM := hM.store hu
        clear hu hSS
        have hSS := hM.S hc hkb rfl
        refine WL_nil ⟨hSS, ?_⟩
        refine b_v (i := 12) rfl (by kernel_rfl) hF (fun w2 hx => v_nil rfl) rfl hSS ?_; clear hF a; intro a hF
        refine b_v (i := 13) rfl (by kernel_rfl) hF (fun w2 hx => v_fieldAddr fa91_2 rfl) rfl hSS ?_; clear hF a; intro a hF
        refine b_v (i := 14) rfl (by kernel_rfl) hF (fun w2 hx => v_fieldAddr fa89_2 rfl) rfl hSS ?_; clear hF a; intro a hF
        refine b_e (i := 15) (by kernel_rfl) rfl ?_
        refine s_st hF on23 rfl rfl rfl hM.blk (by simp) (fun w' hu => ?_)
        replace hM := hM.store hu
        clear hu hSS
        have hSS := hM.S hc hkb rfl
        refine WL_nil ⟨hSS, ?_⟩
        refine b_done (by kernel_rfl) (hK _ _ ?_)
        clear hK K
        replace hF := hF.sub _ (c_ 0 rfl (n_))
        first
          | exact ⟨g1, g2, hF.sub _ (c_ 0 rfl n_), hM.tst (Nat.ne_of_lt (hg2 g1 (by simp)))⟩
          | exact ⟨g1, g2, hF.sub _ (c_ 0 rfl n_), hM.swap.tst (Nat.ne_of_gt (hg1 g2 (by simp)))⟩
      · skip
        refine s_st hF on23 rfl rfl rfl hM.blk (by simp) (fun w' hu => ?_)
        replace hM := hM.store hu
        clear hu hSS
        have hSS := hM.S hc hkb rfl
        refine WL_nil ⟨hSS, ?_⟩
        refine b_e (i := 7) (by kernel_rfl) rfl ?_
        refine s_mkM (E := FDx.E) (Tf := FDx.T) hF sl23 rfl rfl (by omega) (by simp only [maxLen]; omega) rfl hM ?_; clear hF a; intro w' a g2 hg2 hM hF
        clear hSS
        have hSS := hM.S hc hkb rfl
        refine WL_nil ⟨hSS, ?_⟩
        refine b_v (i := 12) rfl (by kernel_rfl) hF (fun w2 hx => v_nil rfl) rfl hSS ?_; clear hF a; intro a hF
        refine b_v (i := 13) rfl (by kernel_rfl) hF (fun w2 hx => v_fieldAddr fa91_2 rfl) rfl hSS ?_; clear hF a; intro a hF
        refine b_v (i := 14) rfl (by kernel_rfl) hF (fun w2 hx => v_fieldAddr fa89_2 rfl) rfl hSS ?_; clear hF a; intro a hF
        refine b_e (i := 15) (by kernel_rfl) rfl ?_
        refine s_st hF on23 rfl rfl rfl hM.blk (by simp) (fun w' hu => ?_)
        replace hM := hM.store hu
        clear hu hSS
        have hSS := hM.S hc hkb rfl
        refine WL_nil ⟨hSS, ?_⟩
        refine b_done (by kernel_rfl) (hK _ _ ?_)
        clear hK K
        replace hF := hF.sub _ (c_ 0 rfl (n_))
        first
          | exact ⟨g1, g2, hF.sub _ (c_ 0 rfl n_), hM.tst (Nat.ne_of_lt (hg2 g1 (by simp)))⟩
          | exact ⟨g1, g2, hF.sub _ (c_ 0 rfl n_), hM.swap.tst (Nat.ne_of_gt (hg1 g2 (by simp)))⟩
    · skip
      refine sc hF rfl rfl rfl en37 rfl (Size_some k wb _ hSS.2 hwb) ?_; clear hF a; intro v w' a hv hF
      obtain ⟨rfl, rfl⟩ := hv
      refine WL_nil ⟨hSS, ?_⟩
      refine b_e2 (i := 4) (i' := 7) (by kernel_rfl) rfl rfl ?_ ?_
      · skip
        refine s_mkM (E := FDx.E) (Tf := FDx.T) hF sl23 rfl rfl (by omega) (by simp only [maxLen]; omega) rfl hM ?_; clear hF a; intro w' a g1 hg1 hM hF
        clear hSS
        have hSS := hM.S hc hkb rfl
        refine WL_nil ⟨hSS, ?_⟩
        refine b_v (i := 8) rfl (by kernel_rfl) hF (fun w2 hx => v_nil rfl) rfl hSS ?_; clear hF a; intro a hF
        refine b_v (i := 9) rfl (by kernel_rfl) hF (fun w2 hx => v_fieldAddr fa91_2 rfl) rfl hSS ?_; clear hF a; intro a hF
        refine b_v (i := 10) rfl (by kernel_rfl) hF (fun w2 hx => v_fieldAddr fa89_1 rfl) rfl hSS ?_; clear hF a; intro a hF
        refine b_e2 (i := 7) (i' := 11) (by kernel_rfl) rfl rfl ?_ ?_
        · skip
          refine s_mkM (E := FDx.E) (Tf := FDx.T) hF sl23 rfl rfl (by omega) (by simp only [maxLen]; omega) rfl hM ?_; clear hF a; intro w' a g2 hg2 hM hF
          clear hSS
          have hSS := hM.S hc hkb rfl
          refine WL_nil ⟨hSS, ?_⟩
          refine b_e (i := 11) (by kernel_rfl) rfl ?_
          refine s_st hF on23 rfl rfl rfl hM.blk (by simp) (fun w' hu => ?_)
          replace hM := hM.store hu
          clear hu hSS
          have hSS := hM.S hc hkb rfl
          refine WL_nil ⟨hSS, ?_⟩
          refine b_v (i := 12) rfl (by kernel_rfl) hF (fun w2 hx => v_nil rfl) rfl hSS ?_; clear hF a; intro a hF
          refine b_v (i := 13) rfl (by kernel_rfl) hF (fun w2 hx => v_fieldAddr fa91_2 rfl) rfl hSS ?_; clear hF a; intro a hF
          refine b_v (i := 14) rfl (by kernel_rfl) hF (fun w2 hx => v_fieldAddr fa89_2 rfl) rfl hSS ?_; clear hF a; intro a hF
          refine b_e (i := 15) (by kernel_rfl) rfl ?_
          refine s_st hF on23 rfl rfl rfl hM.blk (by simp) (fun w' hu => ?_)
          replace hM := hM.store hu
          clear hu hSS
          have hSS := hM.S hc hkb rfl
          refine WL_nil ⟨hSS, ?_⟩
          refine b_done (by kernel_rfl) (hK _ _ ?_)
          clear hK K
          replace hF := hF.sub _ (c_ 0 rfl (n_))
          first
            | exact ⟨g1, g2, hF.sub _ (c_ 0 rfl n_), hM.tst (Nat.ne_of_lt (hg2 g1 (by simp)))⟩
            | exact ⟨g1, g2, hF.sub _ (c_ 0 rfl n_), hM.swap.tst (Nat.ne_of_gt (hg1 g2 (by simp)))⟩
        · skip
          refine s_st hF on23 rfl rfl rfl hM.blk (by simp) (fun w' hu => ?_)
          replace hM := hM.store hu
          clear hu hSS
          have hSS := hM.S hc hkb rfl
          refine WL_nil ⟨hSS, ?_⟩
          refine b_e (i := 7) (by kernel_rfl) rfl ?_
          refine s_mkM (E := FDx.E) (Tf := FDx.T) hF sl23 rfl rfl (by omega) (by simp only [maxLen]; omega) rfl hM ?_; clear hF a; intro w' a g2 hg2 hM hF
          clear hSS
          have hSS := hM.S hc hkb rfl
          refine WL_nil ⟨hSS, ?_⟩
          refine b_v (i := 12) rfl (by kernel_rfl) hF (fun w2 hx => v_nil rfl) rfl hSS ?_; clear hF a; intro a hF
          refine b_v (i := 13) rfl (by kernel_rfl) hF (fun w2 hx => v_fieldAddr fa91_2 rfl) rfl hSS ?_; clear hF a; intro a hF
          refine b_v (i := 14) rfl (by kernel_rfl) hF (fun w2 hx => v_fieldAddr fa89_2 rfl) rfl hSS ?_; clear hF a; intro a hF
          refine b_e (i := 15) (by kernel_rfl) rfl ?_
          refine s_st hF on23 rfl rfl rfl hM.blk (by simp) (fun w' hu => ?_)
          replace hM := hM.store hu
          clear hu hSS
          have hSS := hM.S hc hkb rfl
          refine WL_nil ⟨hSS, ?_⟩
          refine b_done (by kernel_rfl) (hK _ _ ?_)
          clear hK K
          replace hF := hF.sub _ (c_ 0 rfl (n_))
          first
            | exact ⟨g1, g2, hF.sub _ (c_ 0 rfl n_), hM.tst (Nat.ne_of_lt (hg2 g1 (by simp)))⟩
            | exact ⟨g1, g2, hF.sub _ (c_ 0 rfl n_), hM.swap.tst (Nat.ne_of_gt (hg1 g2 (by simp)))⟩
      · skip
        refine s_mkM (E := FDx.E) (Tf := FDx.T) hF sl23 rfl rfl (by omega) (by simp only [maxLen]; omega) rfl hM ?_; clear hF a; intro w' a g2 hg2 hM hF
        clear hSS
        have hSS := hM.S hc hkb rfl
        refine WL_nil ⟨hSS, ?_⟩
        refine b_e (i := 4) (by kernel_rfl) rfl ?_
        refine s_mkM (E := FDx.E) (Tf := FDx.T) hF sl23 rfl rfl (by omega) (by simp only [maxLen]; omega) rfl hM ?_; clear hF a; intro w' a g1 hg1 hM hF
        clear hSS
        have hSS := hM.S hc hkb rfl
        refine WL_nil ⟨hSS, ?_⟩
        refine b_v (i := 8) rfl (by kernel_rfl) hF (fun w2 hx => v_nil rfl) rfl hSS ?_; clear hF a; intro a hF
        refine b_v (i := 9) rfl (by kernel_rfl) hF (fun w2 hx => v_fieldAddr fa91_2 rfl) rfl hSS ?_; clear hF a; intro a hF
        refine b_v (i := 10) rfl (by kernel_rfl) hF (fun w2 hx => v_fieldAddr fa89_1 rfl) rfl hSS ?_; clear hF a; intro a hF
        refine b_e (i := 11) (by kernel_rfl) rfl ?_
        refine s_st hF on23 rfl rfl rfl hM.blk (by simp) (fun w' hu => ?_)
        replace hM := hM.store hu
        clear hu hSS
        have hSS := hM.S hc hkb rfl
        refine WL_nil ⟨hSS, ?_⟩
        refine b_v (i := 12) rfl (by kernel_rfl) hF (fun w2 hx => v_nil rfl) rfl hSS ?_; clear hF a; intro a hF
        refine b_v (i := 13) rfl (by kernel_rfl) hF (fun w2 hx => v_fieldAddr fa91_2 rfl) rfl hSS ?_; clear hF a; intro a hF
        refine b_v (i := 14) rfl (by kernel_rfl) hF (fun w2 hx => v_fieldAddr fa89_2 rfl) rfl hSS ?_; clear hF a; intro a hF
        refine b_e (i := 15) (by kernel_rfl) rfl ?_
        refine s_st hF on23 rfl rfl rfl hM.blk (by simp) (fun w' hu => ?_)
        replace hM := hM.store hu
        clear hu hSS
        have hSS := hM.S hc hkb rfl
        refine WL_nil ⟨hSS, ?_⟩
        refine b_done (by kernel_rfl) (hK _ _ ?_)
        clear hK K
        replace hF := hF.sub _ (c_ 0 rfl (n_))
        first
          | exact ⟨g1, g2, hF.sub _ (c_ 0 rfl n_), hM.tst (Nat.ne_of_lt (hg2 g1 (by simp)))⟩
          | exact ⟨g1, g2, hF.sub _ (c_ 0 rfl n_), hM.swap.tst (Nat.ne_of_gt (hg1 g2 (by simp)))⟩
  · skip
    clear hF
    rintro a w1 ⟨g1, g2, hF, hT⟩
    refine W_sr rfl (fun K hK => ?_)
    refine sv hF (v_assign rfl) rfl ?_; clear hF a; intro a hF
    refine WL_nil (hK _ _ ?_)
    clear hK K
    refine W_sr rfl (fun K hK => ?_)
    refine sv hF (v_load sc26 rfl (hT.pb hc hkb)) rfl ?_; clear hF a; intro a hF
    refine sc hF rfl rfl rfl en37 rfl (Size_some k wb _ (hT.c 0 rfl) hwb) ?_; clear hF a; intro v w' a hv hF
    obtain ⟨rfl, rfl⟩ := hv
    skip
    refine sv hF (v_subN (m := 2 ^ wb) (n := 1) rfl rfl (by omega) (by omega)) rfl ?_; clear hF a; intro a hF
    refine sv hF (v_move rfl) rfl ?_; clear hF a; intro a hF
    refine WL_nil (hK _ _ ?_)
    clear hK K
    replace hF := hF.sub _ (c_ 20 rfl (c_ 19 rfl (c_ 1 rfl (c_ 0 rfl (n_)))))
    refine W_block ?_
    refine W_loop (fun m a w2 => ∃ i : Nat, Fr 48 [(0, .pointer (some ⟨pb, 0, none⟩)), (1, .int .i64 (Px.pw p i : Int)), (19, .int .i64 ((2 ^ wb - 1 : Nat) : Int)), (20, .int .i64 (i : Int))] a ∧ Tst FDx w w2 k #[.int .i64 (wb : Int), .int .u32 (p : Int), z2, z3, z4, .slice (some ⟨g1, 0, none⟩) (2 ^ wb) (2 ^ wb), .slice (some ⟨g2, 0, none⟩) (2 ^ wb) (2 ^ wb)] g1 g2 (Px.expL wb p i) (Px.logL wb p i) ∧ i ≤ 2 ^ wb - 1 ∧ m + i = 2 ^ wb - 1) (2 ^ wb - 1) ?_ ?_
    · skip
      exact ⟨0, hF.sub _ (c_ 0 rfl (c_ 1 rfl (c_ 19 rfl (c_ 20 rfl n_)))), by rw [expL_zero]; exact hT, by omega, by omega⟩
    · skip
      clear hF
      clear hT
      rintro m a w2 ⟨i, hF, hT, hi, hm⟩
      refine W_sr rfl (fun K hK => ?_)
      refine sv hF (v_lss rfl rfl) rfl ?_; clear hF a; intro a hF
      refine WL_nil (hK _ _ ?_)
      clear hK K
      refine W_seq ?_
      refine W_if hF rfl (fun hc1 => ?_) (fun hc1 => ?_)
      · skip
        try simp only [decide_eq_true_eq, decide_eq_false_iff_not, Bool.not_eq_true', Bool.not_eq_false', Bool.not_true, Bool.not_false] at hc1
        refine W_skip ?_
        refine W_seq ?_
        refine W_block ?_
        refine W_sr rfl (fun K hK => ?_)
        refine sv hF (v_move rfl) rfl ?_; clear hF a; intro a hF
        refine sv hF (v_assign rfl) rfl ?_; clear hF a; intro a hF
        refine WL_nil (hK _ _ ?_)
        clear hK K
        replace hF := hF.sub _ (c_ 2 rfl (c_ 0 rfl (c_ 1 rfl (c_ 19 rfl (c_ 20 rfl (n_))))))
        refine W_cut (fun a w3 => Fr 48 [(0, .pointer (some ⟨pb, 0, none⟩)), (1, .int .i64 (Px.pw p i : Int)), (19, .int .i64 ((2 ^ wb - 1 : Nat) : Int)), (20, .int .i64 (i : Int))] a ∧ Tst FDx w w3 k #[.int .i64 (wb : Int), .int .u32 (p : Int), z2, z3, z4, .slice (some ⟨g1, 0, none⟩) (2 ^ wb) (2 ^ wb), .slice (some ⟨g2, 0, none⟩) (2 ^ wb) (2 ^ wb)] g1 g2 (Px.expL wb p (i + 1)) (Px.logL wb p (i + 1))) ?_ ?_
        · skip
          have hpl := hp.pw_lt i
          have hlt : i < 2 ^ wb := by omega
          refine W_dS (fun w2 => w2.cell? ⟨pb, 0, none⟩ = some (.pointer (some ⟨k, 0, none⟩)) ∧ w2.cell? ⟨k, 5, none⟩ = some (.slice (some ⟨g1, 0, none⟩) (2 ^ wb) (2 ^ wb)) ∧ w2.cell? ⟨k, 6, none⟩ = some (.slice (some ⟨g2, 0, none⟩) (2 ^ wb) (2 ^ wb))) (m := 18) rfl hmix (fun K hK => ?_)
          replace hT := hT.drew
          have hSS := And.intro (hT.pb hc hkb) (And.intro (hT.c 5 rfl) (hT.c 6 rfl))
          refine b_v (i := 0) rfl (by kernel_rfl) hF (fun w2 hx => v_load sc26 rfl (hx.1)) rfl hSS ?_; clear hF a; intro a hF
          refine b_v (i := 1) rfl (by kernel_rfl) hF (fun w2 hx => v_nil rfl) rfl hSS ?_; clear hF a; intro a hF
          refine b_v (i := 2) rfl (by kernel_rfl) hF (fun w2 hx => v_fieldAddr fa91_2 rfl) rfl hSS ?_; clear hF a; intro a hF
          refine b_v (i := 3) rfl (by kernel_rfl) hF (fun w2 hx => v_fieldAddr fa89_1 rfl) rfl hSS ?_; clear hF a; intro a hF
          refine b_v (i := 4) rfl (by kernel_rfl) hF (fun w2 hx => v_load sc23 rfl hx.2.1) rfl hSS ?_; clear hF a; intro a hF
          refine b_v (i := 5) rfl (by kernel_rfl) hF (fun w2 hx => v_move rfl) rfl hSS ?_; clear hF a; intro a hF
          refine b_v (i := 6) rfl (by kernel_rfl) hF (fun w2 hx => v_load sc26 rfl (hx.1)) rfl hSS ?_; clear hF a; intro a hF
          refine b_v (i := 7) rfl (by kernel_rfl) hF (fun w2 hx => v_nil rfl) rfl hSS ?_; clear hF a; intro a hF
          refine b_v (i := 8) rfl (by kernel_rfl) hF (fun w2 hx => v_fieldAddr fa91_2 rfl) rfl hSS ?_; clear hF a; intro a hF
          refine b_v (i := 9) rfl (by kernel_rfl) hF (fun w2 hx => v_fieldAddr fa89_2 rfl) rfl hSS ?_; clear hF a; intro a hF
          refine b_v (i := 10) rfl (by kernel_rfl) hF (fun w2 hx => v_load sc23 rfl hx.2.2) rfl hSS ?_; clear hF a; intro a hF
          refine b_v (i := 11) rfl (by kernel_rfl) hF (fun w2 hx => v_move rfl) rfl hSS ?_; clear hF a; intro a hF
          refine b_v (i := 12) rfl (by kernel_rfl) hF (fun w2 hx => v_move rfl) rfl hSS ?_; clear hF a; intro a hF
          refine b_v (i := 13) rfl (by kernel_rfl) hF (fun w2 hx => v_move rfl) rfl hSS ?_; clear hF a; intro a hF
          refine b_v (i := 14) rfl (by kernel_rfl) hF (fun w2 hx => v_ixS sl23 rfl rfl (by omega) (by omega)) rfl hSS ?_; clear hF a; intro a hF
          refine b_e (i := 15) (by kernel_rfl) rfl ?_
          refine s_st hF on3 rfl rfl rfl hT.b1 (by rw [toNat_c]; simp [expL_len (show i ≤ 2 ^ wb by omega)]; omega) (fun w' hu => ?_)
          rw [toNat_c, Nat.zero_add] at hu
          replace hT := hT.exp hu
          clear hu hSS
          have hSS := And.intro (hT.pb hc hkb) (And.intro (hT.c 5 rfl) (hT.c 6 rfl))
          refine WL_nil ⟨hSS, ?_⟩
          refine b_v (i := 16) rfl (by kernel_rfl) hF (fun w2 hx => v_ixS sl23 rfl rfl (by omega) (by omega)) rfl hSS ?_; clear hF a; intro a hF
          refine b_e (i := 17) (by kernel_rfl) rfl ?_
          refine s_st hF on3 rfl rfl rfl hT.b2 (by rw [toNat_c]; simp [logL_len]; omega) (fun w' hu => ?_)
          rw [toNat_c, Nat.zero_add] at hu
          replace hT := hT.log hu
          clear hu hSS
          have hSS := And.intro (hT.pb hc hkb) (And.intro (hT.c 5 rfl) (hT.c 6 rfl))
          refine WL_nil ⟨hSS, ?_⟩
          refine b_done (by kernel_rfl) (hK _ _ ?_)
          clear hK K
          replace hF := hF.sub _ (c_ 0 rfl (c_ 1 rfl (c_ 19 rfl (c_ 20 rfl (n_)))))
          rw [expL_step hlt] at hT
          exact ⟨hF.sub _ (c_ 0 rfl (c_ 1 rfl (c_ 19 rfl (c_ 20 rfl n_)))), hT⟩
        · skip
          clear hF
          clear hT
          rintro a w3 ⟨hF, hT⟩
          have hpl := hp.pw_lt i
          refine W_reg rfl (fun K hK => ?_)
          refine sv hF (v_move rfl) rfl ?_; clear hF a; intro a hF
          refine sv hF (v_cv Tryz.underlying3 Tryz.underlying27 rfl (wrap_u32 _ (by omega))) rfl ?_; clear hF a; intro a hF
          refine sv hF (v_load sc26 rfl (hT.pb hc hkb)) rfl ?_; clear hF a; intro a hF
          refine sv hF (v_nil rfl) rfl ?_; clear hF a; intro a hF
          refine sv hF (v_fieldAddr fa91_1 rfl) rfl ?_; clear hF a; intro a hF
          refine sv hF (v_load sc27 rfl (hT.c 1 rfl)) rfl ?_; clear hF a; intro a hF
          refine sc hF rfl rfl rfl en80 rfl (MulMod_ok (w.heap.size + 2) (Px.pw p i) 2 p _ hT.inv (by omega) (by decide) (by have := hp.lt; omega)) ?_; clear hF a; intro v w' a hv hF
          obtain ⟨rfl, hS'⟩ := hv
          replace hT := hT.step hS'
          clear hS'
          skip
          have hml := hp.pw_lt (i + 1)
          unfold Px.pw at hml
          refine sv hF (v_cv Tryz.underlying27 Tryz.underlying3 rfl (wrap_i64 _ (by omega))) rfl ?_; clear hF a; intro a hF
          refine sv hF (v_assign rfl) rfl ?_; clear hF a; intro a hF
          refine WL_nil (hK _ _ ?_)
          clear hK K
          replace hF := hF.sub _ (c_ 1 rfl (c_ 0 rfl (c_ 19 rfl (c_ 20 rfl (n_)))))
          refine W_reg rfl (fun K hK => ?_)
          refine sv hF (v_addI rfl rfl (by omega)) rfl ?_; clear hF a; intro a hF
          refine sv hF (v_move rfl) rfl ?_; clear hF a; intro a hF
          refine WL_nil (hK _ _ ?_)
          clear hK K
          exact ⟨m - 1, by omega, i + 1, hF.sub _ (c_ 0 rfl (c_ 1 rfl (c_ 19 rfl (c_ 20 rfl n_)))), hT, by omega, by omega⟩
      · skip
        try simp only [decide_eq_true_eq, decide_eq_false_iff_not, Bool.not_eq_true', Bool.not_eq_false', Bool.not_true, Bool.not_false] at hc1
        refine W_exit rfl ?_
        refine ⟨_, hF, ?_⟩
        obtain rfl : i = 2 ^ wb - 1 := by omega
        exact ⟨rfl, g1, g2, hT⟩

end Go.Proofs.YtcnlooajjnghaaaGreat

/- The walks of package gf: products, powers, inverses. -/
set_option linter.unusedVariables false
set_option linter.unusedSimpArgs false
namespace Go.Proofs.YtcnlooajjnghaaaGreat
open Go Go.Gam


namespace FxFGfb
theorem en37 : Ent Tryz.prog 37 := ent Tryz.func37 (by kernel_rfl) (by kernel_rfl)
theorem en43 : Ent Tryz.prog 43 := ent Tryz.func43 (by kernel_rfl) (by kernel_rfl)
theorem en56 : Ent Tryz.prog 56 := ent Tryz.func56 (by kernel_rfl) (by kernel_rfl)
theorem en69 : Ent Tryz.prog 69 := ent Tryz.func69 (by kernel_rfl) (by kernel_rfl)
theorem en80 : Ent Tryz.prog 80 := ent Tryz.func80 (by kernel_rfl) (by kernel_rfl)
theorem en81 : Ent Tryz.prog 81 := ent Tryz.func81 (by kernel_rfl) (by kernel_rfl)
theorem en82 : Ent Tryz.prog 82 := ent Tryz.func82 (by kernel_rfl) (by kernel_rfl)
theorem en89 : Ent Tryz.prog 89 := ent Tryz.func89 (by kernel_rfl) (by kernel_rfl)
theorem fa89_0 : FieldFact Tryz.prog 89 0 0 := ff_of (sz := 2) Tryz.underlying89 (by kernel_rfl)
theorem fa89_1 : FieldFact Tryz.prog 89 1 3 := ff_of (sz := 0) Tryz.underlying89 (by kernel_rfl)
theorem fa89_2 : FieldFact Tryz.prog 89 2 4 := ff_of (sz := 0) Tryz.underlying89 (by kernel_rfl)
theorem fa91_0 : FieldFact Tryz.prog 91 0 0 := ff_of (sz := 0) Tryz.underlying91 (by kernel_rfl)
theorem fa91_1 : FieldFact Tryz.prog 91 1 1 := ff_of (sz := 0) Tryz.underlying91 (by kernel_rfl)
theorem fa91_2 : FieldFact Tryz.prog 91 2 2 := ff_of (sz := 4) Tryz.underlying91 (by kernel_rfl)
theorem hmix : Tryz.prog.follows .mixedOrders = true := by kernel_rfl
theorem sc23 : Scalar Tryz.prog 23 := ⟨_, Tryz.underlying23, by simp, by simp⟩
theorem sc26 : Scalar Tryz.prog 26 := ⟨_, Tryz.underlying26, by simp, by simp⟩
theorem sc27 : Scalar Tryz.prog 27 := ⟨_, Tryz.underlying27, by simp, by simp⟩
theorem sc3 : Scalar Tryz.prog 3 := ⟨_, Tryz.underlying3, by simp, by simp⟩
theorem sl23 : Sl Tryz.prog 23 3 (.int .i64 0) 8 := sl_of Tryz.underlying23 rfl (by kernel_rfl)
end FxFGfb
open FxFGfb

theorem Do_made_ok (B wb p k ge gl pb : Nat) (w : World) (hm : Made FDx B w k wb p ge gl) :
    Ret Tryz.prog 89 [.pointer (some ⟨k, 2, none⟩), .func (.func 90) #[] #[.pointer (some ⟨pb, 0, none⟩)]] w fun v w' => v = .tuple #[] ∧ w' = w :=
  (do_done k 2 _ w hm.c2).mono fun e w' ⟨h1, h2⟩ => ⟨_, h1, rfl, h2⟩

theorem Do_new_ok (B wb p k pb : Nat) (w : World) (hI : Inv FDx B w) (hB : B ≤ k) (hk : w.heap[k]? = some (.cells (fcells wb p 0 (.slice none 0 0) (.slice none 0 0)) FDx.T (0, 0))) (hp : Prm wb p)
    (hc : w.cell? ⟨pb, 0, none⟩ = some (.pointer (some ⟨k, 0, none⟩))) (hkb : k ≠ pb) :
    Ret Tryz.prog 89 [.pointer (some ⟨k, 2, none⟩), .func (.func 90) #[] #[.pointer (some ⟨pb, 0, none⟩)]] w fun v w' => v = .tuple #[] ∧ St FDx B w w' ∧ ∃ ge gl, Made FDx B w' k wb p ge gl := by
  have hu := setCell_heap (i := 3) (.int .i32 1) hk
  have hc' : (w.setCell ⟨k, 3, none⟩ (.int .i32 1)).cell? ⟨pb, 0, none⟩ = some (.pointer (some ⟨k, 0, none⟩)) := (cell_of_heap (a := ⟨pb, 0, none⟩) (hu.keep pb (Ne.symm hkb))).trans hc
  refine (do_first k 2 ⟨pb, 0, none⟩ w (fun w2 => ∃ g1 g2, Tst FDx (w.setCell ⟨k, 3, none⟩ (.int .i32 1)) w2 k #[.int .i64 (wb : Int), .int .u32 (p : Int), .int .u32 0, .int .i32 1, .int .u32 0, .slice (some ⟨g1, 0, none⟩) (2 ^ wb) (2 ^ wb), .slice (some ⟨g2, 0, none⟩) (2 ^ wb) (2 ^ wb)] g1 g2 (Px.expL wb p (2 ^ wb - 1)) (Px.logL wb p (2 ^ wb - 1))) ?_ ?_ ?_ ?_ ?_).mono ?_
  · simp [World.cell?, hk, fcells]
  · simp [World.cell?, hk, fcells]
  · simp [World.frozen?, hk]
  · exact Calls.mono (ready1_ok wb p k pb (.int .u32 0) (.int .i32 1) (.int .u32 0) _ hp hu.new hc' hkb) fun e w' ⟨v, h1, h2, h3⟩ => ⟨by rw [h1, h2], h3⟩
  · rintro w2 ⟨g1, g2, hT⟩
    exact ⟨hT.c 2 rfl, hT.c 3 rfl, by simp [World.frozen?, hT.blk], by simp [World.frozen?, hT.blk]⟩
  · rintro e w' ⟨rfl, w2, ⟨g1, g2, hT⟩, rfl⟩
    have h := hT.done hI hB hk
    exact ⟨_, rfl, rfl, h.1, g1, g2, h.2⟩

set_option maxRecDepth 100000 in
set_option maxHeartbeats 1000000 in
theorem ready_made (B wb p k ge gl : Nat) (w : World) (hI : Inv FDx B w) (hmd : Made FDx B w k wb p ge gl) : Ret Tryz.prog 81 [.pointer (some ⟨k, 0, none⟩)] w fun v w' => v = .pointer (some ⟨k, 2, none⟩) ∧ St FDx B w w' ∧ ∃ ge gl, Made FDx B w' k wb p ge gl := by
  refine enter 12 [(0, .pointer (some ⟨k, 0, none⟩))] 2 Tryz.func81 rfl rfl rfl rfl rfl ?_; intro a hF
  have hS := St.refl hI
  refine W_sr rfl (fun K hK => ?_)
  refine s_box (D := FDx) (B := B) hF rfl (by decide) hS.inv rfl ?_; clear hF a; intro w' a hm hbox hsz hF
  replace hmd := hm.made hmd
  replace hS := hS.mb0 hm
  clear hm
  refine sv hF (v_assign rfl) rfl ?_; clear hF a; intro a hF
  refine WL_nil (hK _ _ ?_)
  clear hK K
  replace hF := hF.sub _ (c_ 2 rfl (c_ 1 rfl (n_)))
  refine W_sr rfl (fun K hK => ?_)
  refine sv hF (v_load sc26 rfl (hbox.at 0 rfl)) rfl ?_; clear hF a; intro a hF
  refine sv hF (v_nil rfl) rfl ?_; clear hF a; intro a hF
  refine sv hF (v_fieldAddr fa91_2 rfl) rfl ?_; clear hF a; intro a hF
  refine sv hF (v_fieldAddr fa89_0 rfl) rfl ?_; clear hF a; intro a hF
  refine sv hF (v_mkf rfl) rfl ?_; clear hF a; intro a hF
  refine sc hF rfl rfl rfl en89 rfl (Do_made_ok B wb p k ge gl _ _ hmd) ?_; clear hF a; intro v w' a hv hF
  obtain ⟨rfl, rfl⟩ := hv
  have hS' := St.refl hS.inv
  replace hmd := hmd.st hS'
  replace hbox := hbox.st (by decide) hS'
  replace hS := hS.trans hS'
  clear hS'
  refine WL_nil (hK _ _ ?_)
  clear hK K
  replace hF := hF.sub _ (c_ 2 rfl (c_ 1 rfl (n_)))
  refine W_sr rfl (fun K hK => ?_)
  refine sv hF (v_load sc26 rfl (hbox.at 0 rfl)) rfl ?_; clear hF a; intro a hF
  refine sv hF (v_nil rfl) rfl ?_; clear hF a; intro a hF
  refine sv hF (v_fieldAddr fa91_2 rfl) rfl ?_; clear hF a; intro a hF
  refine sv hF (v_assign rfl) rfl ?_; clear hF a; intro a hF
  refine WL_nil (hK _ _ ?_)
  clear hK K
  replace hF := hF.sub _ (c_ 2 rfl (n_))
  refine W_ret ?_
  refine ⟨_, _, hF, rfl, ?_⟩
  exact ⟨rfl, hS, _, _, hmd⟩

set_option maxRecDepth 100000 in
set_option maxHeartbeats 1000000 in
theorem ready_new (B wb p k : Nat) (w : World) (hI : Inv FDx B w) (hB : B ≤ k) (hk : w.heap[k]? = some (.cells (fcells wb p 0 (.slice none 0 0) (.slice none 0 0)) FDx.T (0, 0))) (hp : Prm wb p) : Ret Tryz.prog 81 [.pointer (some ⟨k, 0, none⟩)] w fun v w' => v = .pointer (some ⟨k, 2, none⟩) ∧ St FDx B w w' ∧ ∃ ge gl, Made FDx B w' k wb p ge gl := by
  refine enter 12 [(0, .pointer (some ⟨k, 0, none⟩))] 2 Tryz.func81 rfl rfl rfl rfl rfl ?_; intro a hF
  have hS := St.refl hI
  have hlt := heap_lt hk
  refine W_sr rfl (fun K hK => ?_)
  refine s_box (D := FDx) (B := B) hF rfl (by decide) hS.inv rfl ?_; clear hF a; intro w' a hm hbox hsz hF
  replace hk := (hm.keep _ (heap_lt hk) (by simp)).trans hk
  replace hS := hS.mb0 hm
  clear hm
  have hkb : k ≠ w.heap.size := by omega
  generalize w.heap.size = pb at *
  refine sv hF (v_assign rfl) rfl ?_; clear hF a; intro a hF
  refine WL_nil (hK _ _ ?_)
  clear hK K
  replace hF := hF.sub _ (c_ 2 rfl (c_ 1 rfl (n_)))
  refine W_sr rfl (fun K hK => ?_)
  refine sv hF (v_load sc26 rfl (hbox.at 0 rfl)) rfl ?_; clear hF a; intro a hF
  refine sv hF (v_nil rfl) rfl ?_; clear hF a; intro a hF
  refine sv hF (v_fieldAddr fa91_2 rfl) rfl ?_; clear hF a; intro a hF
  refine sv hF (v_fieldAddr fa89_0 rfl) rfl ?_; clear hF a; intro a hF
  refine sv hF (v_mkf rfl) rfl ?_; clear hF a; intro a hF
  refine sc hF rfl rfl rfl en89 rfl (Do_new_ok B wb p k pb _ hS.inv hB hk hp (hbox.at 0 rfl) hkb) ?_; clear hF a; intro v w' a hv hF
  clear hk
  obtain ⟨rfl, hS', hmd⟩ := hv
  replace hbox := hbox.st (by decide) hS'
  replace hS := hS.trans hS'
  clear hS'
  refine WL_nil (hK _ _ ?_)
  clear hK K
  replace hF := hF.sub _ (c_ 2 rfl (c_ 1 rfl (n_)))
  refine W_sr rfl (fun K hK => ?_)
  refine sv hF (v_load sc26 rfl (hbox.at 0 rfl)) rfl ?_; clear hF a; intro a hF
  refine sv hF (v_nil rfl) rfl ?_; clear hF a; intro a hF
  refine sv hF (v_fieldAddr fa91_2 rfl) rfl ?_; clear hF a; intro a hF
  refine sv hF (v_assign rfl) rfl ?_; clear hF a; intro a hF
  refine WL_nil (hK _ _ ?_)
  clear hK K
  replace hF := hF.sub _ (c_ 2 rfl (n_))
  refine W_ret ?_
  refine ⟨_, _, hF, rfl, ?_⟩
  exact ⟨rfl, hS, hmd⟩

theorem ready_ok (B wb p k : Nat) (w : World) (hI : Inv FDx B w) (hf : FOK FDx B w k wb p) (hp : Prm wb p) : Ret Tryz.prog 81 [.pointer (some ⟨k, 0, none⟩)] w fun v w' => v = .pointer (some ⟨k, 2, none⟩) ∧ St FDx B w w' ∧ ∃ ge gl, Made FDx B w' k wb p ge gl := by
  rcases hf.cases with ⟨hB, hk⟩ | ⟨ge, gl, hmd⟩
  · exact ready_new B wb p k w hI hB hk hp
  · exact ready_made B wb p k ge gl w hI hmd

set_option maxRecDepth 100000 in
set_option maxHeartbeats 1000000 in
theorem Exp_nil (B : Nat) (n : Int) (w : World) (hI : Inv FDx B w) : Ret Tryz.prog 82 [.pointer none, .int .i64 n] w fun v w' => v = .int .i64 (0) ∧ St FDx B w w' := by
  refine enter 25 [(0, .pointer none), (1, .int .i64 n)] 4 Tryz.func82 rfl rfl rfl rfl rfl ?_; intro a hF
  have hS := St.refl hI
  refine W_sr rfl (fun K hK => ?_)
  refine sv hF (v_assign rfl) rfl ?_; clear hF a; intro a hF
  refine WL_nil (hK _ _ ?_)
  clear hK K
  refine W_seq ?_
  refine W_sr rfl (fun K hK => ?_)
  refine sv hF (v_move rfl) rfl ?_; clear hF a; intro a hF
  refine sv hF ((v_eqlNil (by exact Tryz.underlying26) rfl rfl).as (congrArg Value.bool (rfl))) rfl ?_; clear hF a; intro a hF
  refine WL_nil (hK _ _ ?_)
  clear hK K
  replace hF := hF.sub _ (c_ 7 rfl (c_ 4 rfl (c_ 0 rfl (c_ 1 rfl (n_)))))
  refine W_ifT hF rfl ?_
  refine W_sr rfl (fun K hK => ?_)
  refine sv hF (v_assign rfl) rfl ?_; clear hF a; intro a hF
  refine WL_nil (hK _ _ ?_)
  clear hK K
  replace hF := hF.sub _ (c_ 4 rfl (c_ 0 rfl (c_ 1 rfl (n_))))
  refine W_ret ?_
  refine ⟨_, _, hF, rfl, ?_⟩
  exact ⟨rfl, hS⟩

set_option maxRecDepth 100000 in
set_option maxHeartbeats 1000000 in
theorem Exp_some (B wb p k : Nat) (n : Int) (w : World) (hI : Inv FDx B w) (hf : FOK FDx B w k wb p) (hp : Prm wb p) (hn : -9223372036854775808 ≤ n ∧ n < 9223372036854775808) : Ret Tryz.prog 82 [.pointer (some ⟨k, 0, none⟩), .int .i64 n] w fun v w' => v = .int .i64 ((Px.pw p (n % ((2 ^ wb - 1 : Nat) : Int)).toNat : Int)) ∧ St FDx B w w' := by
  refine enter 25 [(0, .pointer (some ⟨k, 0, none⟩)), (1, .int .i64 n)] 4 Tryz.func82 rfl rfl rfl rfl rfl ?_; intro a hF
  have hS := St.refl hI
  have hsz := hp.size
  have horder := hp.order
  have htm := tmod_bd n (m := 2 ^ wb - 1) (by omega)
  have hidx := exp_index n (m := 2 ^ wb - 1) (by omega)
  have hi1 := Int.emod_nonneg n (show ((2 ^ wb - 1 : Nat) : Int) ≠ 0 by omega)
  have hi2 := Int.emod_lt_of_pos n (show (0 : Int) < ((2 ^ wb - 1 : Nat) : Int) by omega)
  obtain ⟨i, hi⟩ : ∃ i : Nat, n % ((2 ^ wb - 1 : Nat) : Int) = (i : Int) := ⟨(n % ((2 ^ wb - 1 : Nat) : Int)).toNat, by omega⟩
  rw [hi] at hidx
  refine W_sr rfl (fun K hK => ?_)
  refine sv hF (v_assign rfl) rfl ?_; clear hF a; intro a hF
  refine WL_nil (hK _ _ ?_)
  clear hK K
  refine W_seq ?_
  refine W_sr rfl (fun K hK => ?_)
  refine sv hF (v_move rfl) rfl ?_; clear hF a; intro a hF
  refine sv hF ((v_eqlNil (by exact Tryz.underlying26) rfl rfl).as (congrArg Value.bool (rfl))) rfl ?_; clear hF a; intro a hF
  refine WL_nil (hK _ _ ?_)
  clear hK K
  replace hF := hF.sub _ (c_ 7 rfl (c_ 4 rfl (c_ 0 rfl (c_ 1 rfl (n_)))))
  refine W_ifF hF rfl ?_
  refine W_skip ?_
  refine W_sr rfl (fun K hK => ?_)
  refine sv hF (v_move rfl) rfl ?_; clear hF a; intro a hF
  refine sc hF rfl rfl rfl en37 rfl (Size_some k wb _ hf.w0 (by have := hp.w; omega)) ?_; clear hF a; intro v w' a hv hF
  obtain ⟨rfl, rfl⟩ := hv
  have hS' := St.refl hS.inv
  replace hf := hf.st hS'
  replace hS := hS.trans hS'
  clear hS'
  refine sv hF (v_subN (m := 2 ^ wb) (n := 1) rfl rfl (by omega) (by omega)) rfl ?_; clear hF a; intro a hF
  refine sv hF (v_assign rfl) rfl ?_; clear hF a; intro a hF
  refine WL_nil (hK _ _ ?_)
  clear hK K
  replace hF := hF.sub _ (c_ 5 rfl (c_ 4 rfl (c_ 0 rfl (c_ 1 rfl (n_)))))
  refine W_sd (m := 15) rfl hmix hS.inv (fun K hK w1 hS' hh => ?_)
  replace hf := hf.st hS'
  replace hS := hS.trans hS'
  clear hS'
  clear hh
  refine a_v (i := 0) rfl (by kernel_rfl) hF (fun w2 hx => v_move rfl) rfl ?_; clear hF a; intro a hF
  refine a_v (i := 5) rfl (by kernel_rfl) hF (fun w2 hx => v_move rfl) rfl ?_; clear hF a; intro a hF
  refine a_v (i := 6) rfl (by kernel_rfl) hF (fun w2 hx => v_move rfl) rfl ?_; clear hF a; intro a hF
  refine a_v (i := 7) rfl (by kernel_rfl) hF (fun w2 hx => v_rem rfl rfl (by omega)) rfl ?_; clear hF a; intro a hF
  refine a_v (i := 8) rfl (by kernel_rfl) hF (fun w2 hx => v_move rfl) rfl ?_; clear hF a; intro a hF
  refine a_v (i := 9) rfl (by kernel_rfl) hF (fun w2 hx => v_addI rfl rfl (by omega)) rfl ?_; clear hF a; intro a hF
  refine a_v (i := 10) rfl (by kernel_rfl) hF (fun w2 hx => v_move rfl) rfl ?_; clear hF a; intro a hF
  refine a_v (i := 11) rfl (by kernel_rfl) hF (fun w2 hx => (v_remI rfl rfl (by omega) (by omega)).as (congrArg _ hidx)) rfl ?_; clear hF a; intro a hF
  refine a_e (i := 1) rfl (by kernel_rfl) ?_
  refine sc hF rfl rfl rfl en81 rfl (ready_ok B wb p k _ hS.inv hf hp) ?_; clear hF a; intro v w' a hv hF
  obtain ⟨rfl, hS', ge, gl, hmd⟩ := hv
  refine WL_nil ⟨hS'.ext, ?_⟩
  replace hS := hS.trans hS'
  clear hS'
  refine a_v (i := 2) rfl (by kernel_rfl) hF (fun w2 hx => v_nil rfl) rfl ?_; clear hF a; intro a hF
  refine a_v (i := 3) rfl (by kernel_rfl) hF (fun w2 hx => v_fieldAddr fa89_1 rfl) rfl ?_; clear hF a; intro a hF
  refine a_v (i := 4) rfl (by kernel_rfl) hF (fun w2 hx => v_load sc23 rfl (hx.made _ _ _ _ _ hmd).c5) rfl ?_; clear hF a; intro a hF
  refine a_v (i := 12) rfl (by kernel_rfl) hF (fun w2 hx => v_ixS sl23 rfl rfl (by omega) (by omega)) rfl ?_; clear hF a; intro a hF
  refine a_v (i := 13) rfl (by kernel_rfl) hF (fun w2 hx => v_load sc3 rfl (by rw [toNat_c, Nat.zero_add]; exact (hx.made _ _ _ _ _ hmd).exp (by omega))) rfl ?_; clear hF a; intro a hF
  refine a_v (i := 14) rfl (by kernel_rfl) hF (fun w2 hx => v_assign rfl) rfl ?_; clear hF a; intro a hF
  refine a_done (by kernel_rfl) (hK _ _ ?_)
  clear hK K
  replace hF := hF.sub _ (c_ 4 rfl (n_))
  refine W_ret ?_
  refine ⟨_, _, hF, rfl, ?_⟩
  exact ⟨by rw [hi]; rfl, hS⟩

theorem Exp_ok (B : Nat) (o : Fq) (fv : Value) (n : Int) (w : World) (hI : Inv FDx B w) (hf : Fo FDx B w fv o) (hn : -9223372036854775808 ≤ n ∧ n < 9223372036854775808) : Ret Tryz.prog 82 [fv, .int .i64 n] w fun v w' => v = .int .i64 (gexp o n) ∧ St FDx B w w' := by
  cases o with
  | none => obtain rfl : fv = .pointer none := hf; exact Exp_nil B n w hI
  | some q => obtain ⟨h1, k, rfl, h2⟩ := hf; exact Exp_some B q.1 q.2 k n w hI h2 h1 hn

set_option maxRecDepth 100000 in
set_option maxHeartbeats 1000000 in
theorem Mul_gf (B : Nat) (o : Fq) (fv : Value) (ia ib : Int) (w : World) (hI : Inv FDx B w) (hf : Fo FDx B w fv o) : Ret Tryz.prog 56 [fv, .int .i64 ia, .int .i64 ib] w fun v w' => v = .int .i64 (gmul o ia ib) ∧ St FDx B w w' := by
  refine enter 58 [(0, fv), (1, .int .i64 ia), (2, .int .i64 ib)] 6 Tryz.func56 rfl rfl rfl rfl rfl ?_; intro a hF
  have hS := St.refl hI
  refine W_sr rfl (fun K hK => ?_)
  refine sv hF (v_assign rfl) rfl ?_; clear hF a; intro a hF
  refine WL_nil (hK _ _ ?_)
  clear hK K
  refine W_seq ?_
  refine W_block ?_
  refine W_sr rfl (fun K hK => ?_)
  refine sv hF (v_move rfl) rfl ?_; clear hF a; intro a hF
  refine sv hF (v_move rfl) rfl ?_; clear hF a; intro a hF
  refine sv hF (v_move rfl) rfl ?_; clear hF a; intro a hF
  refine s_bs (D := FDx) (B := B) hF sl23 rfl rfl (by decide) (by simp [Value.cells]) (by decide) hS.inv rfl ?_; clear hF a; intro w' a hm hI' hb hF
  replace hf := hf.mb hm
  replace hS := hS.mb0 hm
  clear hm hI'
  refine sc hF rfl rfl rfl en69 rfl (in_ok B o fv (some ⟨_, 0, none⟩) 2 [ia, ib] _ hS.inv hf (by simp) (own_in (D := FDx) (B := B) (zs := [ia, ib]) hb (by decide))) ?_; clear hF a; intro v w' a hv hF
  clear hb
  obtain ⟨rfl, rfl⟩ := hv
  have hS' := St.refl hS.inv
  replace hf := hf.st hS'
  replace hS := hS.trans hS'
  clear hS'
  refine sb hF (v_not rfl) rfl ?_ ?_
  · clear hF a; intro hc1 a hF
    try simp only [decide_eq_true_eq, decide_eq_false_iff_not, Bool.not_eq_true', Bool.not_eq_false', Bool.not_true, Bool.not_false] at hc1
    refine sv hF (v_move rfl) rfl ?_; clear hF a; intro a hF
    refine svn hF rfl rfl rfl ?_; clear hF a; intro a hF
    refine svn hF rfl rfl rfl ?_; clear hF a; intro a hF
    refine sv hF (v_pickT rfl rfl) rfl ?_; clear hF a; intro a hF
    refine sv hF (v_move rfl) rfl ?_; clear hF a; intro a hF
    refine svn hF rfl rfl rfl ?_; clear hF a; intro a hF
    refine svn hF rfl rfl rfl ?_; clear hF a; intro a hF
    refine sv hF (v_pickT rfl rfl) rfl ?_; clear hF a; intro a hF
    refine sv hF (v_assign rfl) rfl ?_; clear hF a; intro a hF
    refine WL_nil (hK _ _ ?_)
    clear hK K
    replace hF := hF.sub _ (c_ 8 rfl (c_ 6 rfl (c_ 0 rfl (c_ 1 rfl (c_ 2 rfl (n_))))))
    refine W_ifT hF rfl ?_
    refine W_sr rfl (fun K hK => ?_)
    refine sv hF (v_assign rfl) rfl ?_; clear hF a; intro a hF
    refine WL_nil (hK _ _ ?_)
    clear hK K
    replace hF := hF.sub _ (c_ 6 rfl (c_ 0 rfl (c_ 1 rfl (c_ 2 rfl (n_)))))
    refine W_ret ?_
    refine ⟨_, _, hF, rfl, ?_⟩
    first
      | exact ⟨by rw [gmul_out hc1], hS⟩
      | (subst_vars; exact ⟨by rw [gmul_zl], hS⟩)
      | (subst_vars; exact ⟨by rw [gmul_zr], hS⟩)
      | exact ⟨by rw [gmul_in hx hy, hp.pw_sum ei ej], hS⟩
      | exact ⟨by rw [gmul_in hx hy], hS⟩
  · clear hF a; intro hc1 a hF
    try simp only [decide_eq_true_eq, decide_eq_false_iff_not, Bool.not_eq_true', Bool.not_eq_false', Bool.not_true, Bool.not_false] at hc1
    refine sv hF (v_move rfl) rfl ?_; clear hF a; intro a hF
    refine svg hF rfl ?_
    refine sv hF (v_move rfl) rfl ?_; clear hF a; intro a hF
    refine svg hF rfl ?_
    refine sb hF (v_eql rfl rfl) rfl ?_ ?_
    · clear hF a; intro hc2 a hF
      try simp only [decide_eq_true_eq, decide_eq_false_iff_not, Bool.not_eq_true', Bool.not_eq_false', Bool.not_true, Bool.not_false] at hc2
      refine sv hF (v_pickF rfl rfl) rfl ?_; clear hF a; intro a hF
      refine sv hF (v_move rfl) rfl ?_; clear hF a; intro a hF
      refine svn hF rfl rfl rfl ?_; clear hF a; intro a hF
      refine svn hF rfl rfl rfl ?_; clear hF a; intro a hF
      refine sv hF (v_pickT rfl rfl) rfl ?_; clear hF a; intro a hF
      refine sv hF (v_assign rfl) rfl ?_; clear hF a; intro a hF
      refine WL_nil (hK _ _ ?_)
      clear hK K
      replace hF := hF.sub _ (c_ 8 rfl (c_ 6 rfl (c_ 0 rfl (c_ 1 rfl (c_ 2 rfl (n_))))))
      refine W_ifT hF rfl ?_
      refine W_sr rfl (fun K hK => ?_)
      refine sv hF (v_assign rfl) rfl ?_; clear hF a; intro a hF
      refine WL_nil (hK _ _ ?_)
      clear hK K
      replace hF := hF.sub _ (c_ 6 rfl (c_ 0 rfl (c_ 1 rfl (c_ 2 rfl (n_)))))
      refine W_ret ?_
      refine ⟨_, _, hF, rfl, ?_⟩
      first
        | exact ⟨by rw [gmul_out hc1], hS⟩
        | (subst_vars; exact ⟨by rw [gmul_zl], hS⟩)
        | (subst_vars; exact ⟨by rw [gmul_zr], hS⟩)
        | exact ⟨by rw [gmul_in hx hy, hp.pw_sum ei ej], hS⟩
        | exact ⟨by rw [gmul_in hx hy], hS⟩
    · clear hF a; intro hc2 a hF
      try simp only [decide_eq_true_eq, decide_eq_false_iff_not, Bool.not_eq_true', Bool.not_eq_false', Bool.not_true, Bool.not_false] at hc2
      refine sv hF (v_pickF rfl rfl) rfl ?_; clear hF a; intro a hF
      refine sv hF (v_move rfl) rfl ?_; clear hF a; intro a hF
      refine svg hF rfl ?_
      refine sv hF (v_move rfl) rfl ?_; clear hF a; intro a hF
      refine svg hF rfl ?_
      refine sv hF (v_eql rfl rfl) rfl ?_; clear hF a; intro a hF
      refine sv hF (v_pickF rfl rfl) rfl ?_; clear hF a; intro a hF
      refine sv hF (v_assign rfl) rfl ?_; clear hF a; intro a hF
      refine WL_nil (hK _ _ ?_)
      clear hK K
      replace hF := hF.sub _ (c_ 8 rfl (c_ 6 rfl (c_ 0 rfl (c_ 1 rfl (c_ 2 rfl (n_))))))
      refine W_if hF rfl (fun hc3 => ?_) (fun hc3 => ?_)
      · skip
        try simp only [decide_eq_true_eq, decide_eq_false_iff_not, Bool.not_eq_true', Bool.not_eq_false', Bool.not_true, Bool.not_false] at hc3
        refine W_sr rfl (fun K hK => ?_)
        refine sv hF (v_assign rfl) rfl ?_; clear hF a; intro a hF
        refine WL_nil (hK _ _ ?_)
        clear hK K
        replace hF := hF.sub _ (c_ 6 rfl (c_ 0 rfl (c_ 1 rfl (c_ 2 rfl (n_)))))
        refine W_ret ?_
        refine ⟨_, _, hF, rfl, ?_⟩
        first
          | exact ⟨by rw [gmul_out hc1], hS⟩
          | (subst_vars; exact ⟨by rw [gmul_zl], hS⟩)
          | (subst_vars; exact ⟨by rw [gmul_zr], hS⟩)
          | exact ⟨by rw [gmul_in hx hy, hp.pw_sum ei ej], hS⟩
          | exact ⟨by rw [gmul_in hx hy], hS⟩
      · skip
        try simp only [decide_eq_true_eq, decide_eq_false_iff_not, Bool.not_eq_true', Bool.not_eq_false', Bool.not_true, Bool.not_false] at hc3
        rw [all2, Bool.and_eq_true] at hc1
        obtain ⟨hin, hinb⟩ := hc1
        obtain ⟨wb, p, k, rfl, rfl, hp, hfk⟩ := fo_some hf (a := ia) hin
        obtain ⟨x, rfl, hx⟩ := inF_nat hin
        obtain ⟨y, rfl, hy⟩ := inF_nat hinb
        have hsz := hp.size
        have hml := hp.mulMod_lt x y
        have hplt := hp.lt
        refine W_sr rfl (fun K hK => ?_)
        refine sv hF (v_move rfl) rfl ?_; clear hF a; intro a hF
        refine sv hF (v_nil rfl) rfl ?_; clear hF a; intro a hF
        refine sv hF (v_fieldAddr fa91_0 rfl) rfl ?_; clear hF a; intro a hF
        refine sv hF (v_load sc3 rfl hfk.w0) rfl ?_; clear hF a; intro a hF
        refine sv hF (v_eql rfl rfl) rfl ?_; clear hF a; intro a hF
        refine sv hF (v_assign rfl) rfl ?_; clear hF a; intro a hF
        refine WL_nil (hK _ _ ?_)
        clear hK K
        replace hF := hF.sub _ (c_ 23 rfl (c_ 6 rfl (c_ 0 rfl (c_ 1 rfl (c_ 2 rfl (n_))))))
        refine W_if hF rfl (fun hc4 => ?_) (fun hc4 => ?_)
        · skip
          try simp only [decide_eq_true_eq, decide_eq_false_iff_not, Bool.not_eq_true', Bool.not_eq_false', Bool.not_true, Bool.not_false] at hc4
          refine W_sr rfl (fun K hK => ?_)
          refine sv hF (v_move rfl) rfl ?_; clear hF a; intro a hF
          refine sv hF (v_cv Tryz.underlying3 Tryz.underlying27 rfl (wrap_u32 _ (by omega))) rfl ?_; clear hF a; intro a hF
          refine sv hF (v_move rfl) rfl ?_; clear hF a; intro a hF
          refine sv hF (v_cv Tryz.underlying3 Tryz.underlying27 rfl (wrap_u32 _ (by omega))) rfl ?_; clear hF a; intro a hF
          refine sv hF (v_move rfl) rfl ?_; clear hF a; intro a hF
          refine sv hF (v_nil rfl) rfl ?_; clear hF a; intro a hF
          refine sv hF (v_fieldAddr fa91_1 rfl) rfl ?_; clear hF a; intro a hF
          refine sv hF (v_load sc27 rfl hfk.p0) rfl ?_; clear hF a; intro a hF
          refine sc hF rfl rfl rfl en80 rfl (MulMod_ok B x y p _ hS.inv (by omega) (by omega) (by omega)) ?_; clear hF a; intro v w' a hv hF
          obtain ⟨rfl, hS'⟩ := hv
          replace hS := hS.trans hS'
          clear hS'
          refine sv hF (v_cv Tryz.underlying27 Tryz.underlying3 rfl (wrap_i64 _ (by omega))) rfl ?_; clear hF a; intro a hF
          refine sv hF (v_assign rfl) rfl ?_; clear hF a; intro a hF
          refine WL_nil (hK _ _ ?_)
          clear hK K
          replace hF := hF.sub _ (c_ 6 rfl (c_ 0 rfl (c_ 1 rfl (c_ 2 rfl (n_)))))
          refine W_ret ?_
          refine ⟨_, _, hF, rfl, ?_⟩
          first
            | exact ⟨by rw [gmul_out hc1], hS⟩
            | (subst_vars; exact ⟨by rw [gmul_zl], hS⟩)
            | (subst_vars; exact ⟨by rw [gmul_zr], hS⟩)
            | exact ⟨by rw [gmul_in hx hy, hp.pw_sum ei ej], hS⟩
            | exact ⟨by rw [gmul_in hx hy], hS⟩
        · skip
          try simp only [decide_eq_true_eq, decide_eq_false_iff_not, Bool.not_eq_true', Bool.not_eq_false', Bool.not_true, Bool.not_false] at hc4
          refine W_skip ?_
          refine W_sr rfl (fun K hK => ?_)
          refine sv hF (v_move rfl) rfl ?_; clear hF a; intro a hF
          refine sc hF rfl rfl rfl en81 rfl (ready_ok B wb p k _ hS.inv hfk hp) ?_; clear hF a; intro v w' a hv hF
          obtain ⟨rfl, hS', ge, gl, hmd⟩ := hv
          replace hS := hS.trans hS'
          clear hS'
          refine sv hF (v_assign rfl) rfl ?_; clear hF a; intro a hF
          refine WL_nil (hK _ _ ?_)
          clear hK K
          replace hF := hF.sub _ (c_ 7 rfl (c_ 40 rfl (c_ 39 rfl (c_ 6 rfl (c_ 0 rfl (c_ 1 rfl (c_ 2 rfl (n_))))))))
          obtain ⟨i, hi, ei, li⟩ := hp.log_of hx (by omega)
          obtain ⟨j, hj, ej, lj⟩ := hp.log_of hy (by omega)
          refine W_sd (m := 18) rfl hmix hS.inv (fun K hK w1 hS' hh => ?_)
          replace hmd := hmd.st hS'
          replace hS := hS.trans hS'
          clear hS'
          clear hh
          refine a_v (i := 0) rfl (by kernel_rfl) hF (fun w2 hx => v_move rfl) rfl ?_; clear hF a; intro a hF
          refine a_v (i := 1) rfl (by kernel_rfl) hF (fun w2 hx => v_move rfl) rfl ?_; clear hF a; intro a hF
          refine a_v (i := 2) rfl (by kernel_rfl) hF (fun w2 hx => v_nil rfl) rfl ?_; clear hF a; intro a hF
          refine a_v (i := 3) rfl (by kernel_rfl) hF (fun w2 hx => v_fieldAddr fa89_2 rfl) rfl ?_; clear hF a; intro a hF
          refine a_v (i := 4) rfl (by kernel_rfl) hF (fun w2 hx => v_load sc23 rfl (hx.made _ _ _ _ _ hmd).c6) rfl ?_; clear hF a; intro a hF
          refine a_v (i := 5) rfl (by kernel_rfl) hF (fun w2 hx => v_move rfl) rfl ?_; clear hF a; intro a hF
          refine a_v (i := 6) rfl (by kernel_rfl) hF (fun w2 hx => v_ixS sl23 rfl rfl (by omega) (by omega)) rfl ?_; clear hF a; intro a hF
          refine a_v (i := 7) rfl (by kernel_rfl) hF (fun w2 hx => v_load sc3 rfl (by rw [toNat_c, Nat.zero_add]; exact (hx.made _ _ _ _ _ hmd).log li)) rfl ?_; clear hF a; intro a hF
          refine a_v (i := 8) rfl (by kernel_rfl) hF (fun w2 hx => v_move rfl) rfl ?_; clear hF a; intro a hF
          refine a_v (i := 9) rfl (by kernel_rfl) hF (fun w2 hx => v_nil rfl) rfl ?_; clear hF a; intro a hF
          refine a_v (i := 10) rfl (by kernel_rfl) hF (fun w2 hx => v_fieldAddr fa89_2 rfl) rfl ?_; clear hF a; intro a hF
          refine a_v (i := 11) rfl (by kernel_rfl) hF (fun w2 hx => v_load sc23 rfl (hx.made _ _ _ _ _ hmd).c6) rfl ?_; clear hF a; intro a hF
          refine a_v (i := 12) rfl (by kernel_rfl) hF (fun w2 hx => v_move rfl) rfl ?_; clear hF a; intro a hF
          refine a_v (i := 13) rfl (by kernel_rfl) hF (fun w2 hx => v_ixS sl23 rfl rfl (by omega) (by omega)) rfl ?_; clear hF a; intro a hF
          refine a_v (i := 14) rfl (by kernel_rfl) hF (fun w2 hx => v_load sc3 rfl (by rw [toNat_c, Nat.zero_add]; exact (hx.made _ _ _ _ _ hmd).log lj)) rfl ?_; clear hF a; intro a hF
          refine a_v (i := 15) rfl (by kernel_rfl) hF (fun w2 hx => v_addI rfl rfl (by omega)) rfl ?_; clear hF a; intro a hF
          refine a_e (i := 16) rfl (by kernel_rfl) ?_
          refine sc hF rfl rfl rfl en82 rfl (Exp_some B wb p k ((i : Int) + (j : Int)) _ hS.inv hmd.fok hp (by omega)) ?_; clear hF a; intro v w' a hv hF
          obtain ⟨rfl, hS'⟩ := hv
          refine WL_nil ⟨hS'.ext, ?_⟩
          replace hmd := hmd.st hS'
          replace hS := hS.trans hS'
          clear hS'
          refine a_v (i := 17) rfl (by kernel_rfl) hF (fun w2 hx => v_assign rfl) rfl ?_; clear hF a; intro a hF
          refine a_done (by kernel_rfl) (hK _ _ ?_)
          clear hK K
          refine W_ret ?_
          refine ⟨_, _, hF, rfl, ?_⟩
          first
            | exact ⟨by rw [gmul_out hc1], hS⟩
            | (subst_vars; exact ⟨by rw [gmul_zl], hS⟩)
            | (subst_vars; exact ⟨by rw [gmul_zr], hS⟩)
            | exact ⟨by rw [gmul_in hx hy, hp.pw_sum ei ej], hS⟩
            | exact ⟨by rw [gmul_in hx hy], hS⟩

theorem powB_prm {wb p X n : Nat} (hp : Prm wb p) : powB X p 1 n = Px.pow X p n := by rw [← hp.mod1, powB_one]

set_option maxRecDepth 100000 in
set_option maxHeartbeats 1000000 in
theorem Pow_gf (B : Nat) (o : Fq) (fv : Value) (ia n : Int) (w : World) (hI : Inv FDx B w) (hf : Fo FDx B w fv o) (hn : -9223372036854775808 ≤ n ∧ n < 9223372036854775808) : Ret Tryz.prog 43 [fv, .int .i64 ia, .int .i64 n] w fun v w' => v = .int .i64 (gpow o ia n) ∧ St FDx B w w' := by
  refine enter 33 [(0, fv), (1, .int .i64 ia), (2, .int .i64 n)] 6 Tryz.func43 rfl rfl rfl rfl rfl ?_; intro a hF
  have hS := St.refl hI
  refine W_sr rfl (fun K hK => ?_)
  refine sv hF (v_assign rfl) rfl ?_; clear hF a; intro a hF
  refine WL_nil (hK _ _ ?_)
  clear hK K
  refine W_seq ?_
  refine W_sr rfl (fun K hK => ?_)
  refine sv hF (v_move rfl) rfl ?_; clear hF a; intro a hF
  refine sv hF (v_move rfl) rfl ?_; clear hF a; intro a hF
  refine s_bs (D := FDx) (B := B) hF sl23 rfl rfl (by decide) (by simp [Value.cells]) (by decide) hS.inv rfl ?_; clear hF a; intro w' a hm hI' hb hF
  replace hf := hf.mb hm
  replace hS := hS.mb0 hm
  clear hm hI'
  refine sc hF rfl rfl rfl en69 rfl (in_ok B o fv (some ⟨_, 0, none⟩) 1 [ia] _ hS.inv hf (by simp) (own_in (D := FDx) (B := B) (zs := [ia]) hb (by decide))) ?_; clear hF a; intro v w' a hv hF
  clear hb
  obtain ⟨rfl, rfl⟩ := hv
  have hS' := St.refl hS.inv
  replace hf := hf.st hS'
  replace hS := hS.trans hS'
  clear hS'
  refine sb hF (v_not rfl) rfl ?_ ?_
  · clear hF a; intro hc1 a hF
    try simp only [decide_eq_true_eq, decide_eq_false_iff_not, Bool.not_eq_true', Bool.not_eq_false', Bool.not_true, Bool.not_false] at hc1
    refine sv hF (v_move rfl) rfl ?_; clear hF a; intro a hF
    refine svn hF rfl rfl rfl ?_; clear hF a; intro a hF
    refine svn hF rfl rfl rfl ?_; clear hF a; intro a hF
    refine sv hF (v_pickT rfl rfl) rfl ?_; clear hF a; intro a hF
    refine WL_nil (hK _ _ ?_)
    clear hK K
    replace hF := hF.sub _ (c_ 16 rfl (c_ 6 rfl (c_ 0 rfl (c_ 1 rfl (c_ 2 rfl (n_))))))
    refine W_ifT hF rfl ?_
    refine W_sr rfl (fun K hK => ?_)
    refine sv hF (v_assign rfl) rfl ?_; clear hF a; intro a hF
    refine WL_nil (hK _ _ ?_)
    clear hK K
    replace hF := hF.sub _ (c_ 6 rfl (c_ 0 rfl (c_ 1 rfl (c_ 2 rfl (n_)))))
    refine W_ret ?_
    refine ⟨_, _, hF, rfl, ?_⟩
    rw [all1] at hc1
    exact ⟨by rw [gpow_out (.inl hc1)], hS⟩
  · clear hF a; intro hc1 a hF
    try simp only [decide_eq_true_eq, decide_eq_false_iff_not, Bool.not_eq_true', Bool.not_eq_false', Bool.not_true, Bool.not_false] at hc1
    refine sv hF (v_move rfl) rfl ?_; clear hF a; intro a hF
    refine svg hF rfl ?_
    refine sv hF (v_move rfl) rfl ?_; clear hF a; intro a hF
    refine svg hF rfl ?_
    refine sv hF (v_lss rfl rfl) rfl ?_; clear hF a; intro a hF
    refine sv hF (v_pickF rfl rfl) rfl ?_; clear hF a; intro a hF
    refine WL_nil (hK _ _ ?_)
    clear hK K
    replace hF := hF.sub _ (c_ 16 rfl (c_ 6 rfl (c_ 0 rfl (c_ 1 rfl (c_ 2 rfl (n_))))))
    refine W_if hF rfl (fun hc2 => ?_) (fun hc2 => ?_)
    · skip
      try simp only [decide_eq_true_eq, decide_eq_false_iff_not, Bool.not_eq_true', Bool.not_eq_false', Bool.not_true, Bool.not_false] at hc2
      refine W_sr rfl (fun K hK => ?_)
      refine sv hF (v_assign rfl) rfl ?_; clear hF a; intro a hF
      refine WL_nil (hK _ _ ?_)
      clear hK K
      replace hF := hF.sub _ (c_ 6 rfl (c_ 0 rfl (c_ 1 rfl (c_ 2 rfl (n_)))))
      refine W_ret ?_
      refine ⟨_, _, hF, rfl, ?_⟩
      exact ⟨by rw [gpow_out (.inr (by omega))], hS⟩
    · skip
      try simp only [decide_eq_true_eq, decide_eq_false_iff_not, Bool.not_eq_true', Bool.not_eq_false', Bool.not_true, Bool.not_false] at hc2
      refine W_skip ?_
      rw [all1] at hc1
      have hin := hc1
      obtain ⟨wb, p, k, rfl, rfl, hp, hfk⟩ := fo_some hf (a := ia) hin
      obtain ⟨x0, rfl, hx0⟩ := inF_nat hin
      obtain ⟨n0, rfl⟩ : ∃ n0 : Nat, n = (n0 : Int) := ⟨n.toNat, by omega⟩
      have hsz := hp.size
      refine W_sr rfl (fun K hK => ?_)
      refine sv hF (v_assign rfl) rfl ?_; clear hF a; intro a hF
      refine WL_nil (hK _ _ ?_)
      clear hK K
      replace hF := hF.sub _ (c_ 7 rfl (c_ 6 rfl (c_ 0 rfl (c_ 1 rfl (c_ 2 rfl (n_))))))
      refine W_seq ?_
      refine W_block ?_
      refine W_loop (fun m a w1 => ∃ x q : Nat, Fr 33 [(0, .pointer (some ⟨k, 0, none⟩)), (1, .int .i64 (x : Int)), (2, .int .i64 (m : Int)), (7, .int .i64 (q : Int))] a ∧ St FDx B w w1 ∧ Fo FDx B w1 (.pointer (some ⟨k, 0, none⟩)) (some (wb, p)) ∧ powB x p q m = powB x0 p 1 n0 ∧ x < 2 ^ wb ∧ q < 2 ^ wb ∧ m < 9223372036854775808) (n0) ?_ ?_
      · skip
        exact ⟨_, 1, hF.sub _ (c_ 0 rfl (c_ 1 rfl (c_ 2 rfl (c_ 7 rfl n_)))), hS, hf, rfl, hx0, by omega, by omega⟩
      · skip
        clear hF
        clear hS hf hfk
        rintro m a w1 ⟨x, q, hF, hS, hf, hg, hx, hq, hm⟩
        refine W_seq ?_
        refine W_sr rfl (fun K hK => ?_)
        refine sv hF (v_move rfl) rfl ?_; clear hF a; intro a hF
        refine sv hF (v_gtr rfl rfl) rfl ?_; clear hF a; intro a hF
        refine WL_nil (hK _ _ ?_)
        clear hK K
        replace hF := hF.sub _ (c_ 18 rfl (c_ 0 rfl (c_ 1 rfl (c_ 2 rfl (c_ 7 rfl (n_))))))
        refine W_if hF rfl (fun hc3 => ?_) (fun hc3 => ?_)
        · skip
          try simp only [decide_eq_true_eq, decide_eq_false_iff_not, Bool.not_eq_true', Bool.not_eq_false', Bool.not_true, Bool.not_false] at hc3
          refine W_skip ?_
          refine W_seq ?_
          refine W_block ?_
          refine W_seq ?_
          refine W_sr rfl (fun K hK => ?_)
          refine sv hF (v_move rfl) rfl ?_; clear hF a; intro a hF
          refine sv hF (v_andN (n := 1) rfl rfl (fits_i64 hm) (fits_i64 (by decide))) rfl ?_; clear hF a; intro a hF
          refine sv hF (v_eql rfl rfl) rfl ?_; clear hF a; intro a hF
          refine WL_nil (hK _ _ ?_)
          clear hK K
          replace hF := hF.sub _ (c_ 23 rfl (c_ 0 rfl (c_ 1 rfl (c_ 2 rfl (c_ 7 rfl (n_))))))
          refine W_if hF rfl (fun hc4 => ?_) (fun hc4 => ?_)
          · skip
            try simp only [decide_eq_true_eq, decide_eq_false_iff_not, Bool.not_eq_true', Bool.not_eq_false', Bool.not_true, Bool.not_false] at hc4
            rw [Nat.and_one_is_mod] at hc4
            rw [powB_odd x p q (by omega)] at hg
            have hml := hp.mulMod_lt q x
            refine W_reg rfl (fun K hK => ?_)
            refine sv hF (v_move rfl) rfl ?_; clear hF a; intro a hF
            refine sv hF (v_move rfl) rfl ?_; clear hF a; intro a hF
            refine sv hF (v_move rfl) rfl ?_; clear hF a; intro a hF
            refine sc hF rfl rfl rfl en56 rfl (Mul_gf B (some (wb, p)) _ q x _ hS.inv hf) ?_; clear hF a; intro v w' a hv hF
            obtain ⟨rfl, hS'⟩ := hv
            replace hf := hf.st hS'
            replace hS := hS.trans hS'
            clear hS'
            rw [gmul_in hq hx] at hF
            refine sv hF (v_assign rfl) rfl ?_; clear hF a; intro a hF
            refine WL_nil (hK _ _ ?_)
            clear hK K
            replace hF := hF.sub _ (c_ 7 rfl (c_ 0 rfl (c_ 1 rfl (c_ 2 rfl (n_)))))
            refine W_reg rfl (fun K hK => ?_)
            refine sv hF (v_move rfl) rfl ?_; clear hF a; intro a hF
            refine sv hF (v_move rfl) rfl ?_; clear hF a; intro a hF
            refine sv hF (v_move rfl) rfl ?_; clear hF a; intro a hF
            refine sc hF rfl rfl rfl en56 rfl (Mul_gf B (some (wb, p)) _ x x _ hS.inv hf) ?_; clear hF a; intro v w' a hv hF
            obtain ⟨rfl, hS'⟩ := hv
            replace hf := hf.st hS'
            replace hS := hS.trans hS'
            clear hS'
            rw [gmul_in hx hx] at hF
            refine sv hF (v_assign rfl) rfl ?_; clear hF a; intro a hF
            refine WL_nil (hK _ _ ?_)
            clear hK K
            replace hF := hF.sub _ (c_ 1 rfl (c_ 7 rfl (c_ 0 rfl (c_ 2 rfl (n_)))))
            refine W_reg rfl (fun K hK => ?_)
            refine sv hF (v_move rfl) rfl ?_; clear hF a; intro a hF
            refine sv hF (v_shrN (m := m) rfl rfl (by decide)) rfl ?_; clear hF a; intro a hF
            refine sv hF (v_assign rfl) rfl ?_; clear hF a; intro a hF
            refine WL_nil (hK _ _ ?_)
            clear hK K
            exact ⟨m / 2, by omega, _, _, hF.sub _ (c_ 0 rfl (c_ 1 rfl (c_ 2 rfl (c_ 7 rfl n_)))), hS, hf, hg, hp.mulMod_lt _ _, by first | exact hml | exact hq, by omega⟩
          · skip
            try simp only [decide_eq_true_eq, decide_eq_false_iff_not, Bool.not_eq_true', Bool.not_eq_false', Bool.not_true, Bool.not_false] at hc4
            rw [Nat.and_one_is_mod] at hc4
            rw [powB_even x p q (by omega) (by omega)] at hg
            refine W_skip ?_
            refine W_reg rfl (fun K hK => ?_)
            refine sv hF (v_move rfl) rfl ?_; clear hF a; intro a hF
            refine sv hF (v_move rfl) rfl ?_; clear hF a; intro a hF
            refine sv hF (v_move rfl) rfl ?_; clear hF a; intro a hF
            refine sc hF rfl rfl rfl en56 rfl (Mul_gf B (some (wb, p)) _ x x _ hS.inv hf) ?_; clear hF a; intro v w' a hv hF
            obtain ⟨rfl, hS'⟩ := hv
            replace hf := hf.st hS'
            replace hS := hS.trans hS'
            clear hS'
            rw [gmul_in hx hx] at hF
            refine sv hF (v_assign rfl) rfl ?_; clear hF a; intro a hF
            refine WL_nil (hK _ _ ?_)
            clear hK K
            replace hF := hF.sub _ (c_ 1 rfl (c_ 0 rfl (c_ 2 rfl (c_ 7 rfl (n_)))))
            refine W_reg rfl (fun K hK => ?_)
            refine sv hF (v_move rfl) rfl ?_; clear hF a; intro a hF
            refine sv hF (v_shrN (m := m) rfl rfl (by decide)) rfl ?_; clear hF a; intro a hF
            refine sv hF (v_assign rfl) rfl ?_; clear hF a; intro a hF
            refine WL_nil (hK _ _ ?_)
            clear hK K
            exact ⟨m / 2, by omega, _, _, hF.sub _ (c_ 0 rfl (c_ 1 rfl (c_ 2 rfl (c_ 7 rfl n_)))), hS, hf, hg, hp.mulMod_lt _ _, by first | exact hml | exact hq, by omega⟩
        · skip
          try simp only [decide_eq_true_eq, decide_eq_false_iff_not, Bool.not_eq_true', Bool.not_eq_false', Bool.not_true, Bool.not_false] at hc3
          obtain rfl : m = 0 := by omega
          rw [powB_zero] at hg
          refine W_exit rfl ?_
          refine W_sr rfl (fun K hK => ?_)
          refine sv hF (v_move rfl) rfl ?_; clear hF a; intro a hF
          refine sv hF (v_assign rfl) rfl ?_; clear hF a; intro a hF
          refine WL_nil (hK _ _ ?_)
          clear hK K
          replace hF := hF.sub _ (c_ 6 rfl (c_ 32 rfl (c_ 0 rfl (c_ 1 rfl (c_ 2 rfl (c_ 7 rfl (n_)))))))
          refine W_ret ?_
          refine ⟨_, _, hF, rfl, ?_⟩
          exact ⟨by rw [gpow_in hx0, hg, powB_prm hp], hS⟩

set_option maxRecDepth 100000 in
set_option maxHeartbeats 1000000 in
theorem Inv_gf (B : Nat) (o : Fq) (fv : Value) (ia : Int) (w : World) (hI : Inv FDx B w) (hf : Fo FDx B w fv o) : Ret Tryz.prog 59 [fv, .int .i64 ia] w fun v w' => v = .tuple #[.int .i64 (ginv o ia), .bool (ginvb o ia)] ∧ St FDx B w w' := by
  refine enter2 21 [(0, fv), (1, .int .i64 ia)] 4 5 Tryz.func59 rfl rfl rfl rfl rfl ?_; intro a hF
  have hS := St.refl hI
  refine W_sr rfl (fun K hK => ?_)
  refine sv hF (v_assign rfl) rfl ?_; clear hF a; intro a hF
  refine sv hF (v_assign rfl) rfl ?_; clear hF a; intro a hF
  refine WL_nil (hK _ _ ?_)
  clear hK K
  refine W_seq ?_
  refine W_sr rfl (fun K hK => ?_)
  refine sv hF (v_move rfl) rfl ?_; clear hF a; intro a hF
  refine sv hF (v_move rfl) rfl ?_; clear hF a; intro a hF
  refine s_bs (D := FDx) (B := B) hF sl23 rfl rfl (by decide) (by simp [Value.cells]) (by decide) hS.inv rfl ?_; clear hF a; intro w' a hm hI' hb hF
  replace hf := hf.mb hm
  replace hS := hS.mb0 hm
  clear hm hI'
  refine sc hF rfl rfl rfl en69 rfl (in_ok B o fv (some ⟨_, 0, none⟩) 1 [ia] _ hS.inv hf (by simp) (own_in (D := FDx) (B := B) (zs := [ia]) hb (by decide))) ?_; clear hF a; intro v w' a hv hF
  clear hb
  obtain ⟨rfl, rfl⟩ := hv
  have hS' := St.refl hS.inv
  replace hf := hf.st hS'
  replace hS := hS.trans hS'
  clear hS'
  refine sb hF (v_not rfl) rfl ?_ ?_
  · clear hF a; intro hc1 a hF
    try simp only [decide_eq_true_eq, decide_eq_false_iff_not, Bool.not_eq_true', Bool.not_eq_false', Bool.not_true, Bool.not_false] at hc1
    refine sv hF (v_move rfl) rfl ?_; clear hF a; intro a hF
    refine svn hF rfl rfl rfl ?_; clear hF a; intro a hF
    refine svn hF rfl rfl rfl ?_; clear hF a; intro a hF
    refine sv hF (v_pickT rfl rfl) rfl ?_; clear hF a; intro a hF
    refine WL_nil (hK _ _ ?_)
    clear hK K
    replace hF := hF.sub _ (c_ 14 rfl (c_ 5 rfl (c_ 4 rfl (c_ 0 rfl (c_ 1 rfl (n_))))))
    refine W_ifT hF rfl ?_
    refine W_sr rfl (fun K hK => ?_)
    refine sv hF (v_assign rfl) rfl ?_; clear hF a; intro a hF
    refine sv hF (v_assign rfl) rfl ?_; clear hF a; intro a hF
    refine WL_nil (hK _ _ ?_)
    clear hK K
    replace hF := hF.sub _ (c_ 5 rfl (c_ 4 rfl (c_ 0 rfl (c_ 1 rfl (n_)))))
    refine W_ret ?_
    refine ⟨_, _, _, hF, rfl, rfl, ?_⟩
    rw [all1] at hc1
    exact ⟨by rw [ginv_out (.inl hc1), ginvb_out (.inl hc1)], hS⟩
  · clear hF a; intro hc1 a hF
    try simp only [decide_eq_true_eq, decide_eq_false_iff_not, Bool.not_eq_true', Bool.not_eq_false', Bool.not_true, Bool.not_false] at hc1
    refine sv hF (v_move rfl) rfl ?_; clear hF a; intro a hF
    refine svg hF rfl ?_
    refine sv hF (v_move rfl) rfl ?_; clear hF a; intro a hF
    refine svg hF rfl ?_
    refine sv hF (v_eql rfl rfl) rfl ?_; clear hF a; intro a hF
    refine sv hF (v_pickF rfl rfl) rfl ?_; clear hF a; intro a hF
    refine WL_nil (hK _ _ ?_)
    clear hK K
    replace hF := hF.sub _ (c_ 14 rfl (c_ 5 rfl (c_ 4 rfl (c_ 0 rfl (c_ 1 rfl (n_))))))
    refine W_if hF rfl (fun hc2 => ?_) (fun hc2 => ?_)
    · skip
      try simp only [decide_eq_true_eq, decide_eq_false_iff_not, Bool.not_eq_true', Bool.not_eq_false', Bool.not_true, Bool.not_false] at hc2
      refine W_sr rfl (fun K hK => ?_)
      refine sv hF (v_assign rfl) rfl ?_; clear hF a; intro a hF
      refine sv hF (v_assign rfl) rfl ?_; clear hF a; intro a hF
      refine WL_nil (hK _ _ ?_)
      clear hK K
      replace hF := hF.sub _ (c_ 5 rfl (c_ 4 rfl (c_ 0 rfl (c_ 1 rfl (n_)))))
      refine W_ret ?_
      refine ⟨_, _, _, hF, rfl, rfl, ?_⟩
      exact ⟨by rw [ginv_out (.inr (by omega)), ginvb_out (.inr (by omega))], hS⟩
    · skip
      try simp only [decide_eq_true_eq, decide_eq_false_iff_not, Bool.not_eq_true', Bool.not_eq_false', Bool.not_true, Bool.not_false] at hc2
      refine W_skip ?_
      rw [all1] at hc1
      have hsz := fsz_le hf
      refine W_sr rfl (fun K hK => ?_)
      refine sv hF (v_move rfl) rfl ?_; clear hF a; intro a hF
      refine sv hF (v_move rfl) rfl ?_; clear hF a; intro a hF
      refine sv hF (v_move rfl) rfl ?_; clear hF a; intro a hF
      refine sc hF rfl rfl rfl en37 rfl (Size_ok B o fv _ hf) ?_; clear hF a; intro v w' a hv hF
      obtain ⟨rfl, rfl⟩ := hv
      have hS' := St.refl hS.inv
      replace hf := hf.st hS'
      replace hS := hS.trans hS'
      clear hS'
      refine sv hF (v_subI rfl rfl (by omega)) rfl ?_; clear hF a; intro a hF
      refine sc hF rfl rfl rfl en43 rfl (Pow_gf B o fv ia ((fsz o : Int) - 2) _ hS.inv hf (by omega)) ?_; clear hF a; intro v w' a hv hF
      obtain ⟨rfl, hS'⟩ := hv
      replace hf := hf.st hS'
      replace hS := hS.trans hS'
      clear hS'
      refine sv hF (v_assign rfl) rfl ?_; clear hF a; intro a hF
      refine sv hF (v_assign rfl) rfl ?_; clear hF a; intro a hF
      refine WL_nil (hK _ _ ?_)
      clear hK K
      replace hF := hF.sub _ (c_ 5 rfl (c_ 4 rfl (n_)))
      refine W_ret ?_
      refine ⟨_, _, _, hF, rfl, rfl, ?_⟩
      exact ⟨by rw [ginv_in hc1 (by omega), ginvb_in hc1 (by omega)], hS⟩

end Go.Proofs.YtcnlooajjnghaaaGreat
