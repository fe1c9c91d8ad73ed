/- Texts of the claim CauchyTells (part 4), put together in the order of their imports. -/
import Derived.Test.YtaeljbdpjiciaaaKCauchyTells3
import Derived.Test.YtaeljbdpjiciaaaProg
import Derived.WalkKit
import Derived.Laws.LoneSync
import Derived.Laws.NewBlocks
/- The lock and sync.Once, in the run of one goroutine: each function once. -/
set_option linter.unusedVariables false
set_option linter.unusedSimpArgs false
namespace Go.Proofs.Ytaeljbdpjiciaaa
open Go

theorem disable (w : World) : (callFunc 129 #[]).run Try.prog w = .ok (.value (.tuple #[])) w := run_call_mark0 Try.func129 (by kernel_rfl) (by kernel_rfl) (by kernel_rfl) .disable (by kernel_rfl) w
theorem enable (w : World) : (callFunc 131 #[]).run Try.prog w = .ok (.value (.tuple #[])) w := run_call_mark0 Try.func131 (by kernel_rfl) (by kernel_rfl) (by kernel_rfl) .enable (by kernel_rfl) w
theorem acquire (a : Addr) (w : World) : (callFunc 132 #[.pointer (some a)]).run Try.prog w = .ok (.value (.tuple #[])) w := run_call_marked Try.func132 (by kernel_rfl) (by kernel_rfl) (by kernel_rfl) .acquire (by kernel_rfl) a w
theorem releaseMerge (a : Addr) (w : World) : (callFunc 134 #[.pointer (some a)]).run Try.prog w = .ok (.value (.tuple #[])) w := run_call_marked Try.func134 (by kernel_rfl) (by kernel_rfl) (by kernel_rfl) .releaseMerge (by kernel_rfl) a w

set_option maxRecDepth 100000 in
/-- The inner lock, free: taken. -/
theorem ilock_free (a : Addr) (w : World) (hc : w.cell? a = some (.int .i32 0)) (hz : w.frozen? a = false) :
    Calls Try.prog 125 #[.pointer (some a)] w fun e w' => e = .returned (.tuple #[]) ∧ w' = w.setCell a (.int .i32 1) := by
  have hd := disable
  have he := enable
  have ha := acquire
  have hcas := run_call_cas_hit (P := Try.prog) Try.func130 (by kernel_rfl) (by kernel_rfl) (by kernel_rfl) .i32 (by kernel_rfl) (y := 1) hc hz
  have hc' : (w.setCell a (.int .i32 1)).cell? a = some (.int .i32 1) := World.cell?_setCell_same w a _ hc
  have hcv := run_convert_to_unsafe (P := Try.prog) (src := 150) (dst := 154) Try.underlying150 Try.underlying154 (by kernel_rfl) hc'
  go_enter Try.func125, Try.ntmps125
  go_wp2
  first | go_end0 | (simp only [Exit.inBlock, Exit.then]; refine bodyPost_ret (results_none rfl _ _ _) rfl ?_) | refine bodyPost_ret (results_none rfl _ _ _) rfl ?_
  exact ⟨rfl, rfl⟩

/-- The lock, free: taken. -/
theorem lock_free (b off : Nat) (w : World) (hc : w.cell? ⟨b, off, none⟩ = some (.int .i32 0)) (hz : w.frozen? ⟨b, off, none⟩ = false) :
    Calls Try.prog 120 #[.pointer (some ⟨b, off, none⟩)] w fun e w' => e = .returned (.tuple #[]) ∧ w' = w.setCell ⟨b, off, none⟩ (.int .i32 1) := by
  go_enter Try.func120, Try.ntmps120
  go_wp2_with (go_at_call 125; refine (ilock_free ⟨b, off, none⟩ _ hc hz).mono ?_; rintro e w' ⟨rfl, rfl⟩)
  go_end0
  exact ⟨rfl, rfl⟩

set_option maxRecDepth 100000 in
/-- The inner lock, let go. -/
theorem iunlock_held (a : Addr) (w : World) (hc : w.cell? a = some (.int .i32 1)) (hz : w.frozen? a = false) :
    Calls Try.prog 126 #[.pointer (some a)] w fun e w' => e = .returned (.tuple #[]) ∧ w' = w.setCell a (.int .i32 0) := by
  have hd := disable
  have he := enable
  have hr := releaseMerge
  have hadd := run_call_add (P := Try.prog) Try.func135 (by kernel_rfl) (by kernel_rfl) (by kernel_rfl) .i32 (by kernel_rfl) (y := -1) (s := 0) hc hz (by simp [go_sem]; rfl)
  have hcv := run_convert_to_unsafe (P := Try.prog) (src := 150) (dst := 154) Try.underlying150 Try.underlying154 (by kernel_rfl) hc
  go_enter Try.func126, Try.ntmps126
  go_wp2
  go_end0
  exact ⟨rfl, rfl⟩

/-- The lock, let go, as a deferred call. -/
theorem unlock_deferred (b off : Nat) (u : FrameMode) (w : World) (hc : w.cell? ⟨b, off, none⟩ = some (.int .i32 1)) (hz : w.frozen? ⟨b, off, none⟩ = false) :
    CallsD Try.prog 121 #[.pointer (some ⟨b, off, none⟩)] u w fun e u' w' => u' = u ∧ (e = .returned (.tuple #[]) ∧ w' = w.setCell ⟨b, off, none⟩ (.int .i32 0)) := by
  go_enter_d Try.func121, Try.ntmps121
  go_wp2_with (go_at_call 126; refine (iunlock_held ⟨b, off, none⟩ _ hc hz).mono ?_; rintro e w' ⟨rfl, rfl⟩)
  go_end0
  exact ⟨rfl, rfl⟩

/-- 'Store(true)' as a deferred call: the cell holds 1. -/
theorem store_deferred (b off : Nat) (x : Value) (u : FrameMode) (w : World) (hc : w.cell? ⟨b, off, none⟩ = some x) (hz : w.frozen? ⟨b, off, none⟩ = false) :
    CallsD Try.prog 122 #[.pointer (some ⟨b, off, none⟩), .bool true] u w fun e u' w' => u' = u ∧ (e = .returned (.tuple #[]) ∧ w' = w.drew.setCell ⟨b, off, none⟩ (.int .u32 1)) := by
  have hc' : w.drew.cell? ⟨b, off, none⟩ = some x := by go_simp
  have hz' : w.drew.frozen? ⟨b, off, none⟩ = false := by go_simp
  have hst := run_call_store (P := Try.prog) Try.func127 (by kernel_rfl) (by kernel_rfl) (by kernel_rfl) (by kernel_rfl) (k := .u32) (y := 1) hc' hz'
  go_enter_d Try.func122, Try.ntmps122
  go_wp2
  go_region_calls
  all_goals (go_end0; exact ⟨rfl, rfl⟩)

/-- 'Load'. -/
theorem load_ok (b off : Nat) (x : Int) (w : World) (hc : w.cell? ⟨b, off, none⟩ = some (.int .u32 x)) :
    Calls Try.prog 113 #[.pointer (some ⟨b, off, none⟩)] w fun e w' => e = .returned (.bool (x != 0)) ∧ w' = w := by
  have hl := run_call_load (P := Try.prog) Try.func119 (by kernel_rfl) (by kernel_rfl) (by kernel_rfl) .u32 (by kernel_rfl) hc
  go_enter Try.func113, Try.ntmps113
  go_wp2
  go_ret
  exact ⟨rfl, rfl⟩

set_option maxRecDepth 100000 in
set_option maxHeartbeats 1600000 in
/-- 'doSlow', not yet done, the lock free: the lock is taken, the function is called, 'done' is stored, the lock is let go. -/
theorem slow_ok (b off : Nat) (pl : Addr) (w : World) (Q : World → Prop)
    (h0 : w.cell? ⟨b, off, none⟩ = some (.int .u32 0)) (h1 : w.cell? ⟨b, off + 1, none⟩ = some (.int .i32 0)) (f1 : w.frozen? ⟨b, off + 1, none⟩ = false)
    (hfn : Calls Try.prog 97 #[.pointer (some pl)] (w.setCell ⟨b, off + 1, none⟩ (.int .i32 1)) fun e w' => e = .returned (.tuple #[]) ∧ Q w')
    (hQ : ∀ w', Q w' → w'.cell? ⟨b, off, none⟩ = some (.int .u32 0) ∧ w'.cell? ⟨b, off + 1, none⟩ = some (.int .i32 1) ∧ w'.frozen? ⟨b, off, none⟩ = false ∧ w'.frozen? ⟨b, off + 1, none⟩ = false) :
    Calls Try.prog 114 #[.pointer (some ⟨b, off, none⟩), .func (.func 97) #[] #[.pointer (some pl)]] w fun e w' => e = .returned (.tuple #[]) ∧
      ∃ w2, Q w2 ∧ w' = (w2.drew.setCell ⟨b, off, none⟩ (.int .u32 1)).setCell ⟨b, off + 1, none⟩ (.int .i32 0) := by
  have hl := load_ok b off 0 (w.setCell ⟨b, off + 1, none⟩ (.int .i32 1)) ((World.cell?_setCell_other _ ⟨b, off + 1, none⟩ ⟨b, off, none⟩ _ (by simp)).trans h0)
  have hnot : ∀ (x : Bool) (w : World), (Op.unary .not (.bool x)).run Try.prog w = .ok (.bool (!x)) w := fun _ _ => rfl
  go_enter_defers Try.func114, Try.ntmps114
  go_wp2_with (first
    | (go_at_call 120; refine (lock_free b (off + 1) _ h1 f1).mono ?_; rintro e w' ⟨rfl, rfl⟩)
    | (go_at_call 113; refine hl.mono ?_; rintro e w' ⟨rfl, rfl⟩)
    | (go_at_call 97; refine hfn.mono ?_; rintro e w2 ⟨rfl, hq⟩))
  obtain ⟨q0, q1, q2, q3⟩ := hQ _ hq
  refine leaves_cons (f := 122) (args := #[.pointer (some ⟨b, off, none⟩), .bool true]) (by simp) (by simp [go_sem]) ?_
  refine (store_deferred b off (.int .u32 0) .returning _ q0 q2).mono ?_
  rintro e u' w'' ⟨rfl, rfl, rfl⟩
  refine leaves_cons (f := 121) (args := #[.pointer (some ⟨b, off + 1, none⟩)]) (by simp [settle]) (by simp [go_sem]) ?_
  refine (unlock_deferred b (off + 1) _ _ ?_ (by simp [q3])).mono ?_
  · refine (World.cell?_setCell_other _ ⟨b, off, none⟩ ⟨b, off + 1, none⟩ _ (by simp)).trans ?_
    rw [World.cell?_drew]
    exact q1
  rintro e u' w'' ⟨rfl, rfl, rfl⟩
  simp [Leaves, settle, results, Try.results114]
  exact ⟨w2, hq, rfl⟩

set_option maxRecDepth 100000 in
set_option maxHeartbeats 1600000 in
/-- 'Do', not yet done. -/
theorem do_first (b off : Nat) (pl : Addr) (w : World) (Q : World → Prop)
    (h0 : w.cell? ⟨b, off, none⟩ = some (.int .u32 0)) (h1 : w.cell? ⟨b, off + 1, none⟩ = some (.int .i32 0)) (f1 : w.frozen? ⟨b, off + 1, none⟩ = false)
    (hfn : Calls Try.prog 97 #[.pointer (some pl)] (w.setCell ⟨b, off + 1, none⟩ (.int .i32 1)) fun e w' => e = .returned (.tuple #[]) ∧ Q w')
    (hQ : ∀ w', Q w' → w'.cell? ⟨b, off, none⟩ = some (.int .u32 0) ∧ w'.cell? ⟨b, off + 1, none⟩ = some (.int .i32 1) ∧ w'.frozen? ⟨b, off, none⟩ = false ∧ w'.frozen? ⟨b, off + 1, none⟩ = false) :
    Calls Try.prog 96 #[.pointer (some ⟨b, off, none⟩), .func (.func 97) #[] #[.pointer (some pl)]] w fun e w' => e = .returned (.tuple #[]) ∧
      ∃ w2, Q w2 ∧ w' = (w2.drew.setCell ⟨b, off, none⟩ (.int .u32 1)).setCell ⟨b, off + 1, none⟩ (.int .i32 0) := by
  have hl := load_ok b off 0 w h0
  have hnot : ∀ (x : Bool) (w : World), (Op.unary .not (.bool x)).run Try.prog w = .ok (.bool (!x)) w := fun _ _ => rfl
  go_enter Try.func96, Try.ntmps96
  go_wp2_with (first
    | (go_at_call 114; refine (slow_ok b off pl _ Q h0 h1 f1 hfn hQ).mono ?_; rintro e w' ⟨rfl, w2, hq, rfl⟩)
    | (go_at_call 113; refine hl.mono ?_; rintro e w' ⟨rfl, rfl⟩))
  go_end0
  exact ⟨rfl, w2, hq, rfl⟩

/-- 'Do', done already: the function is not called. -/
theorem do_done (b off : Nat) (fv : Value) (w : World) (h0 : w.cell? ⟨b, off, none⟩ = some (.int .u32 1)) :
    Calls Try.prog 96 #[.pointer (some ⟨b, off, none⟩), fv] w fun e w' => e = .returned (.tuple #[]) ∧ w' = w := by
  have hl := load_ok b off 1 w h0
  have hnot : ∀ (x : Bool) (w : World), (Op.unary .not (.bool x)).run Try.prog w = .ok (.bool (!x)) w := fun _ _ => rfl
  go_enter Try.func96, Try.ntmps96
  go_wp2_with (go_at_call 113; refine hl.mono ?_; rintro e w' ⟨rfl, rfl⟩)
  go_end0
  exact ⟨rfl, rfl⟩

end Go.Proofs.Ytaeljbdpjiciaaa

/- The walks of package gf: fields. -/
set_option linter.unusedVariables false
set_option linter.unusedSimpArgs false
namespace Go.Proofs.Ytaeljbdpjiciaaa
open Go Go.Gam


namespace FxFGf
theorem en53 : Ent Try.prog 53 := ent Try.func53 (by kernel_rfl) (by kernel_rfl)
theorem en65 : Ent Try.prog 65 := ent Try.func65 (by kernel_rfl) (by kernel_rfl)
theorem en76 : Ent Try.prog 76 := ent Try.func76 (by kernel_rfl) (by kernel_rfl)
theorem en77 : Ent Try.prog 77 := ent Try.func77 (by kernel_rfl) (by kernel_rfl)
theorem fa101_1 : FieldFact Try.prog 101 1 3 := ff_of (sz := 0) Try.underlying101 (by kernel_rfl)
theorem fa101_2 : FieldFact Try.prog 101 2 4 := ff_of (sz := 0) Try.underlying101 (by kernel_rfl)
theorem fa103_0 : FieldFact Try.prog 103 0 0 := ff_of (sz := 0) Try.underlying103 (by kernel_rfl)
theorem fa103_1 : FieldFact Try.prog 103 1 1 := ff_of (sz := 0) Try.underlying103 (by kernel_rfl)
theorem fa103_2 : FieldFact Try.prog 103 2 2 := ff_of (sz := 4) Try.underlying103 (by kernel_rfl)
theorem hmix : Try.prog.follows .mixedOrders = true := by kernel_rfl
theorem on3 : Gam.One Try.prog 3 := by unfold Gam.One; kernel_rfl
theorem on37 : Gam.One Try.prog 37 := by unfold Gam.One; kernel_rfl
theorem sc23 : Scalar Try.prog 23 := ⟨_, Try.underlying23, by simp, by simp⟩
theorem sc24 : Scalar Try.prog 24 := ⟨_, Try.underlying24, by simp, by simp⟩
theorem sc3 : Scalar Try.prog 3 := ⟨_, Try.underlying3, by simp, by simp⟩
theorem sc37 : Scalar Try.prog 37 := ⟨_, Try.underlying37, by simp, by simp⟩
theorem sl37 : Sl Try.prog 37 3 (.int .i64 0) 8 := sl_of Try.underlying37 rfl (by kernel_rfl)
end FxFGf
open FxFGf

theorem v_newField {T : TypeId} {F : Fs} {w : World} {x y : Operand} {wb p : Nat} (hx : ev F x = some (.int .i64 (wb : Int))) (hy : ev F y = some (.int .u32 (p : Int))) :
  Val Try.prog (.build 103 #[(0, x), (1, y)]) T F w (.agg (fcells wb p 0 (.slice none 0 0) (.slice none 0 0))) :=
 fun ρ h d pp af g => by
  simp only [execOp, List.map_toArray, List.map_cons, List.map_nil, h x _ hx, h y _ hy]
  kernel_rfl
set_option maxRecDepth 100000 in
set_option maxHeartbeats 1000000 in
theorem Size_nil (w : World) : Ret Try.prog 53 [.pointer none] w fun v w' => v = .int .i64 0 ∧ w' = w := by
 refine enter 10 [(0, .pointer none)] 2 Try.func53 rfl rfl rfl rfl rfl ?_; intro a hF
 refine W_sr rfl (fun K hK => ?_)
 refine sv hF (v_assign rfl) rfl ?_; clear hF a; intro a hF
 refine WL_nil (hK _ _ ?_)
 clear hK K
 refine W_seq ?_
 refine W_sr rfl (fun K hK => ?_)
 refine sv hF (v_move rfl) rfl ?_; clear hF a; intro a hF
 refine sv hF ((v_eqlNil (by exact Try.underlying23) rfl rfl).as (congrArg Value.bool (rfl))) rfl ?_; clear hF a; intro a hF
 refine WL_nil (hK _ _ ?_)
 clear hK K
 replace hF := hF.sub _ (c_ 4 rfl (c_ 2 rfl (c_ 0 rfl (n_))))
 refine W_ifT hF rfl ?_
 refine W_sr rfl (fun K hK => ?_)
 refine sv hF (v_assign rfl) rfl ?_; clear hF a; intro a hF
 refine WL_nil (hK _ _ ?_)
 clear hK K
 replace hF := hF.sub _ (c_ 2 rfl (c_ 0 rfl (n_)))
 refine W_ret ?_
 refine ⟨_, _, hF, rfl, ?_⟩
 exact ⟨rfl, rfl⟩

set_option maxRecDepth 100000 in
set_option maxHeartbeats 1000000 in
theorem Size_some (k wb : Nat) (w : World) (hw0 : w.cell? ⟨k, 0, none⟩ = some (.int .i64 (wb : Int))) (hwb : wb ≤ 62) : Ret Try.prog 53 [.pointer (some ⟨k, 0, none⟩)] w fun v w' => v = .int .i64 ((2 ^ wb : Nat) : Int) ∧ w' = w := by
 refine enter 10 [(0, .pointer (some ⟨k, 0, none⟩))] 2 Try.func53 rfl rfl rfl rfl rfl ?_; intro a hF
 refine W_sr rfl (fun K hK => ?_)
 refine sv hF (v_assign rfl) rfl ?_; clear hF a; intro a hF
 refine WL_nil (hK _ _ ?_)
 clear hK K
 refine W_seq ?_
 refine W_sr rfl (fun K hK => ?_)
 refine sv hF (v_move rfl) rfl ?_; clear hF a; intro a hF
 refine sv hF ((v_eqlNil (by exact Try.underlying23) rfl rfl).as (congrArg Value.bool (rfl))) rfl ?_; clear hF a; intro a hF
 refine WL_nil (hK _ _ ?_)
 clear hK K
 replace hF := hF.sub _ (c_ 4 rfl (c_ 2 rfl (c_ 0 rfl (n_))))
 refine W_ifF hF rfl ?_
 refine W_skip ?_
 refine W_sr rfl (fun K hK => ?_)
 refine sv hF (v_move rfl) rfl ?_; clear hF a; intro a hF
 refine sv hF (v_nil rfl) rfl ?_; clear hF a; intro a hF
 refine sv hF (v_fieldAddr fa103_0 rfl) rfl ?_; clear hF a; intro a hF
 refine sv hF (v_load sc3 rfl (by first | assumption | (rw [toNat_c]; assumption) | exact KC.c (by assumption) | (rw [toNat_c]; exact KC.c (by assumption)) | exact Box.at (by assumption))) rfl ?_; clear hF a; intro a hF
 refine sv hF ((v_shl rfl rfl (by omega)).as (congrArg _ (shl_i64 hwb))) rfl ?_; clear hF a; intro a hF
 refine sv hF (v_assign rfl) rfl ?_; clear hF a; intro a hF
 refine WL_nil (hK _ _ ?_)
 clear hK K
 replace hF := hF.sub _ (c_ 2 rfl (n_))
 refine W_ret ?_
 refine ⟨_, _, hF, rfl, ?_⟩
 exact ⟨rfl, rfl⟩

theorem Size_ok (B : Nat) (o : Fq) (fv : Value) (w : World) (hf : Fo FDx B w fv o) : Ret Try.prog 53 [fv] w fun v w' => v = .int .i64 (fsz o : Int) ∧ w' = w := by
 cases o with
 | none => obtain rfl : fv = .pointer none := hf; exact Size_nil w
 | some q => obtain ⟨h1, k, rfl, h2⟩ := hf; exact Size_some k q.1 w h2.w0 (by have := h1.w; omega)
def fbits : Fq → Nat
 | none => 0
 | some q => q.1

set_option maxRecDepth 100000 in
set_option maxHeartbeats 1000000 in
theorem in_ok (B : Nat) (o : Fq) (fv : Value) (sa : Option Addr) (cp : Nat) (zs : List Int) (w : World) (hI : Inv FDx B w) (hf : Fo FDx B w fv o) (hz : zs.length < 4294967296) (hr : ∀ (i : Nat) (z : Int), zs[i]? = some z → ∃ g o, sa = some ⟨g, o, none⟩ ∧ w.cell? ⟨g, o + i, none⟩ = some (.int .i64 z)) : Ret Try.prog 64 [fv, .slice sa zs.length cp] w fun v w' => v = .bool (zs.all (inF o)) ∧ w' = w := by
 refine enter 22 [(0, fv), (1, .slice sa zs.length cp)] 4 Try.func64 rfl rfl rfl rfl rfl ?_; intro a hF
 have hS := St.refl hI
 refine W_sr rfl (fun K hK => ?_)
 refine sv hF (v_assign rfl) rfl ?_; clear hF a; intro a hF
 refine WL_nil (hK _ _ ?_)
 clear hK K
 refine W_seq ?_
 refine W_sr rfl (fun K hK => ?_)
 refine sv hF (v_move rfl) rfl ?_; clear hF a; intro a hF
 refine sv hF (v_lenS rfl sl37 rfl) rfl ?_; clear hF a; intro a hF
 refine sv hF (v_move rfl) rfl ?_; clear hF a; intro a hF
 refine WL_nil (hK _ _ ?_)
 clear hK K
 replace hF := hF.sub _ (c_ 9 rfl (c_ 8 rfl (c_ 7 rfl (c_ 4 rfl (c_ 0 rfl (n_))))))
 refine W_block ?_
 refine W_loop (fun m a w1 => ∃ i : Nat, Fr 22 [(0, fv), (7, .slice sa zs.length cp), (8, .int .i64 (zs.length : Int)), (9, .int .i64 (i : Int))] a ∧ w = w1 ∧ i ≤ zs.length ∧ (zs.take i).all (inF o) = true ∧ m + i = zs.length) (zs.length) ?_ ?_
 ·
  skip
  exact ⟨0, hF.sub _ (c_ 0 rfl (c_ 7 rfl (c_ 8 rfl (c_ 9 rfl n_)))), rfl, by omega, rfl, by omega⟩
 ·
  skip
  clear hF
  rintro m a _ ⟨i, hF, rfl, hi, hall, hm⟩
  refine W_sr rfl (fun K hK => ?_)
  refine sv hF (v_lss rfl rfl) rfl ?_; clear hF a; intro a hF
  refine WL_nil (hK _ _ ?_)
  clear hK K
  refine W_seq ?_
  refine W_if hF rfl (fun hc1 => ?_) (fun hc1 => ?_)
  ·
   skip
   try simp only [dcl] at hc1
   have hlt : i < zs.length := by omega
   obtain ⟨g, oo, rfl, hc⟩ := hr i _ (List.getElem?_eq_getElem hlt)
   generalize hzi : zs[i] = z at hc
   refine W_skip ?_
   refine W_seq ?_
   refine W_block ?_
   refine W_sr rfl (fun K hK => ?_)
   refine sv hF (v_ixS sl37 rfl rfl (by omega) (by omega)) rfl ?_; clear hF a; intro a hF
   refine sv hF (v_load sc3 rfl (by first | assumption | (rw [toNat_c]; assumption) | exact KC.c (by assumption) | (rw [toNat_c]; exact KC.c (by assumption)) | exact Box.at (by assumption))) rfl ?_; clear hF a; intro a hF
   refine sv hF (v_assign rfl) rfl ?_; clear hF a; intro a hF
   refine WL_nil (hK _ _ ?_)
   clear hK K
   replace hF := hF.sub _ (c_ 6 rfl (c_ 0 rfl (c_ 7 rfl (c_ 8 rfl (c_ 9 rfl (n_))))))
   refine W_sr rfl (fun K hK => ?_)
   refine sv hF (v_move rfl) rfl ?_; clear hF a; intro a hF
   refine sb hF (v_lss rfl rfl) rfl ?_ ?_
   ·
    clear hF a; intro hc2 a hF
    try simp only [dcl] at hc2
    refine sv hF (v_move rfl) rfl ?_; clear hF a; intro a hF
    refine svn hF rfl rfl rfl ?_; clear hF a; intro a hF
    refine svn hF rfl rfl rfl ?_; clear hF a; intro a hF
    refine svn hF rfl rfl rfl ?_; clear hF a; intro a hF
    refine svn hF rfl rfl rfl ?_; clear hF a; intro a hF
    refine sv hF (v_pickT rfl rfl) rfl ?_; clear hF a; intro a hF
    refine WL_nil (hK _ _ ?_)
    clear hK K
    replace hF := hF.sub _ (c_ 20 rfl (c_ 0 rfl (c_ 7 rfl (c_ 8 rfl (c_ 9 rfl (n_))))))
    refine W_ifT hF rfl ?_
    refine W_sr rfl (fun K hK => ?_)
    refine sv hF (v_assign rfl) rfl ?_; clear hF a; intro a hF
    refine WL_nil (hK _ _ ?_)
    clear hK K
    replace hF := hF.sub _ (c_ 4 rfl (c_ 0 rfl (c_ 7 rfl (c_ 8 rfl (c_ 9 rfl (n_))))))
    refine W_ret ?_
    refine ⟨_, _, hF, rfl, ?_⟩
    refine ⟨congrArg _ (Eq.symm ?_), rfl⟩
    rw [List.all_eq_false]
    exact ⟨z, hzi ▸ List.getElem_mem hlt, by unfold inF; simp; omega⟩
   ·
    clear hF a; intro hc2 a hF
    try simp only [dcl] at hc2
    refine sv hF (v_move rfl) rfl ?_; clear hF a; intro a hF
    refine svg hF rfl ?_
    refine sv hF (v_move rfl) rfl ?_; clear hF a; intro a hF
    refine svg hF rfl ?_
    refine sv hF (v_move rfl) rfl ?_; clear hF a; intro a hF
    refine svg hF rfl ?_
    refine sc hF rfl rfl rfl en53 rfl (Size_ok B o fv _ hf) ?_; clear hF a; intro v w' a hv hF
    obtain ⟨rfl, rfl⟩ := hv
    have hS' := St.refl hS.inv
    replace hS := hS.trans hS'
    clear hS'
    refine svg hF rfl ?_
    refine sv hF (v_geq rfl rfl) rfl ?_; clear hF a; intro a hF
    refine sv hF (v_pickF rfl rfl) rfl ?_; clear hF a; intro a hF
    refine WL_nil (hK _ _ ?_)
    clear hK K
    replace hF := hF.sub _ (c_ 20 rfl (c_ 0 rfl (c_ 7 rfl (c_ 8 rfl (c_ 9 rfl (n_))))))
    refine W_if hF rfl (fun hc3 => ?_) (fun hc3 => ?_)
    ·
     skip
     try simp only [dcl] at hc3
     refine W_sr rfl (fun K hK => ?_)
     refine sv hF (v_assign rfl) rfl ?_; clear hF a; intro a hF
     refine WL_nil (hK _ _ ?_)
     clear hK K
     replace hF := hF.sub _ (c_ 4 rfl (c_ 0 rfl (c_ 7 rfl (c_ 8 rfl (c_ 9 rfl (n_))))))
     refine W_ret ?_
     refine ⟨_, _, hF, rfl, ?_⟩
     refine ⟨congrArg _ (Eq.symm ?_), rfl⟩
     rw [List.all_eq_false]
     exact ⟨z, hzi ▸ List.getElem_mem hlt, by unfold inF; simp; omega⟩
    ·
     skip
     try simp only [dcl] at hc3
     refine W_skip ?_
     refine W_reg rfl (fun K hK => ?_)
     refine sv hF (v_addI rfl rfl (by omega)) rfl ?_; clear hF a; intro a hF
     refine sv hF (v_move rfl) rfl ?_; clear hF a; intro a hF
     refine WL_nil (hK _ _ ?_)
     clear hK K
     replace hF := hF.sub _ (c_ 9 rfl (c_ 21 rfl (c_ 0 rfl (c_ 7 rfl (c_ 8 rfl (n_))))))
     refine ⟨m - 1, by omega, i + 1, hF.sub _ (c_ 0 rfl (c_ 7 rfl (c_ 8 rfl (c_ 9 rfl n_)))), rfl, by omega, ?_, by omega⟩
     rw [List.take_succ_eq_append_getElem hlt, List.all_append, hall, hzi]
     simp [inF]; omega
  ·
   skip
   try simp only [dcl] at hc1
   refine W_exit rfl ?_
   refine W_sr rfl (fun K hK => ?_)
   refine sv hF (v_assign rfl) rfl ?_; clear hF a; intro a hF
   refine WL_nil (hK _ _ ?_)
   clear hK K
   replace hF := hF.sub _ (c_ 4 rfl (c_ 0 rfl (c_ 7 rfl (c_ 8 rfl (c_ 9 rfl (n_))))))
   refine W_ret ?_
   refine ⟨_, _, hF, rfl, ?_⟩
   obtain rfl : i = zs.length := by omega
   rw [List.take_length] at hall
   exact ⟨congrArg _ hall.symm, rfl⟩

set_option maxRecDepth 100000 in
set_option maxHeartbeats 1000000 in
theorem New_ok (B : Nat) (W : Int) (p : Nat) (w : World) (hI : Inv FDx B w) (hW : -9223372036854775808 ≤ W ∧ W < 9223372036854775808) (hp : p < 4294967296) : Ret Try.prog 41 [.int .i64 W, .int .u32 (p : Int)] w fun v w' => Fo FDx B w' v (newF W p) ∧ St FDx B w w' := by
 refine enter 27 [(0, .int .i64 W), (1, .int .u32 (p : Int))] 4 Try.func41 rfl rfl rfl rfl rfl ?_; intro a hF
 have hS := St.refl hI
 refine W_sr rfl (fun K hK => ?_)
 refine sv hF (v_assign rfl) rfl ?_; clear hF a; intro a hF
 refine WL_nil (hK _ _ ?_)
 clear hK K
 refine W_seq ?_
 refine W_sr rfl (fun K hK => ?_)
 refine sv hF (v_move rfl) rfl ?_; clear hF a; intro a hF
 refine sb hF (v_neq rfl rfl) rfl ?_ ?_
 ·
  clear hF a; intro hc1 a hF
  try simp only [dcl] at hc1
  refine sv hF (v_move rfl) rfl ?_; clear hF a; intro a hF
  refine svg hF rfl ?_
  refine sv hF (v_move rfl) rfl ?_; clear hF a; intro a hF
  refine svg hF rfl ?_
  refine sb hF (v_neq rfl rfl) rfl ?_ ?_
  ·
   clear hF a; intro hc2 a hF
   try simp only [dcl] at hc2
   refine sv2 hF (v_pickT rfl rfl) (v_move rfl) rfl rfl ?_; clear hF a; intro a hF
   refine svn hF rfl rfl rfl ?_; clear hF a; intro a hF
   refine svn hF rfl rfl rfl ?_; clear hF a; intro a hF
   refine svn hF rfl rfl rfl ?_; clear hF a; intro a hF
   refine svn hF rfl rfl rfl ?_; clear hF a; intro a hF
   refine svn hF rfl rfl rfl ?_; clear hF a; intro a hF
   refine sv2 hF (v_pickT rfl rfl) (v_move rfl) rfl rfl ?_; clear hF a; intro a hF
   refine svn hF rfl rfl rfl ?_; clear hF a; intro a hF
   refine svn hF rfl rfl rfl ?_; clear hF a; intro a hF
   refine svn hF rfl rfl rfl ?_; clear hF a; intro a hF
   refine sv hF (v_pickT rfl rfl) rfl ?_; clear hF a; intro a hF
   refine WL_nil (hK _ _ ?_)
   clear hK K
   replace hF := hF.sub _ (c_ 22 rfl (c_ 4 rfl (c_ 0 rfl (c_ 1 rfl (n_)))))
   refine W_ifT hF rfl ?_
   refine W_sr rfl (fun K hK => ?_)
   refine sv hF (v_assign rfl) rfl ?_; clear hF a; intro a hF
   refine WL_nil (hK _ _ ?_)
   clear hK K
   replace hF := hF.sub _ (c_ 4 rfl (c_ 0 rfl (c_ 1 rfl (n_))))
   refine W_ret ?_
   refine ⟨_, _, hF, rfl, ?_⟩
   first
    | exact ⟨by rw [newF_f (by rintro ⟨h1, h2, h3⟩; first | omega | (simp_all; done))]; rfl, hS⟩
    | (have hc : ((wb : Int) = 8 ∨ (wb : Int) = 16) ∧ Px.deg p = (wb : Int) ∧ prim p = true := ⟨by omega, by omega, by simp_all⟩
       rw [newF_t hc]
       exact ⟨⟨newF_prm hc, _, rfl, hfk⟩, hS⟩)
  ·
   clear hF a; intro hc2 a hF
   try simp only [dcl] at hc2
   refine sv2 hF (v_pickT rfl rfl) (v_move rfl) rfl rfl ?_; clear hF a; intro a hF
   refine svg hF rfl ?_
   refine sv hF (v_move rfl) rfl ?_; clear hF a; intro a hF
   refine svg hF rfl ?_
   refine sv hF (v_cv Try.underlying24 Try.underlying115 rfl (wrap_u64 _ (by omega))) rfl ?_; clear hF a; intro a hF
   refine svg hF rfl ?_
   refine sc hF rfl rfl rfl en76 rfl (Deg_ok B p _ hS.inv (by omega)) ?_; clear hF a; intro v w' a hv hF
   obtain ⟨rfl, hS'⟩ := hv
   replace hS := hS.trans hS'
   clear hS'
   refine svg hF rfl ?_
   refine sv hF (v_move rfl) rfl ?_; clear hF a; intro a hF
   refine svg hF rfl ?_
   refine sb hF (v_neq rfl rfl) rfl ?_ ?_
   ·
    clear hF a; intro hc3 a hF
    try simp only [dcl] at hc3
    refine sv2 hF (v_pickF rfl rfl) (v_move rfl) rfl rfl ?_; clear hF a; intro a hF
    refine svn hF rfl rfl rfl ?_; clear hF a; intro a hF
    refine svn hF rfl rfl rfl ?_; clear hF a; intro a hF
    refine svn hF rfl rfl rfl ?_; clear hF a; intro a hF
    refine sv hF (v_pickT rfl rfl) rfl ?_; clear hF a; intro a hF
    refine WL_nil (hK _ _ ?_)
    clear hK K
    replace hF := hF.sub _ (c_ 22 rfl (c_ 4 rfl (c_ 0 rfl (c_ 1 rfl (n_)))))
    refine W_ifT hF rfl ?_
    refine W_sr rfl (fun K hK => ?_)
    refine sv hF (v_assign rfl) rfl ?_; clear hF a; intro a hF
    refine WL_nil (hK _ _ ?_)
    clear hK K
    replace hF := hF.sub _ (c_ 4 rfl (c_ 0 rfl (c_ 1 rfl (n_))))
    refine W_ret ?_
    refine ⟨_, _, hF, rfl, ?_⟩
    first
     | exact ⟨by rw [newF_f (by rintro ⟨h1, h2, h3⟩; first | omega | (simp_all; done))]; rfl, hS⟩
     | (have hc : ((wb : Int) = 8 ∨ (wb : Int) = 16) ∧ Px.deg p = (wb : Int) ∧ prim p = true := ⟨by omega, by omega, by simp_all⟩
        rw [newF_t hc]
        exact ⟨⟨newF_prm hc, _, rfl, hfk⟩, hS⟩)
   ·
    clear hF a; intro hc3 a hF
    try simp only [dcl] at hc3
    refine sv2 hF (v_pickF rfl rfl) (v_move rfl) rfl rfl ?_; clear hF a; intro a hF
    refine svg hF rfl ?_
    refine sv hF (v_move rfl) rfl ?_; clear hF a; intro a hF
    refine svg hF rfl ?_
    refine sc hF rfl rfl rfl en77 rfl (prim_ok B p _ hS.inv hp) ?_; clear hF a; intro v w' a hv hF
    obtain ⟨rfl, hS'⟩ := hv
    replace hS := hS.trans hS'
    clear hS'
    refine svg hF rfl ?_
    refine sv hF (v_not rfl) rfl ?_; clear hF a; intro a hF
    refine sv hF (v_pickF rfl rfl) rfl ?_; clear hF a; intro a hF
    refine WL_nil (hK _ _ ?_)
    clear hK K
    replace hF := hF.sub _ (c_ 22 rfl (c_ 4 rfl (c_ 0 rfl (c_ 1 rfl (n_)))))
    refine W_if hF rfl (fun hc4 => ?_) (fun hc4 => ?_)
    ·
     skip
     try simp only [dcl] at hc4
     refine W_sr rfl (fun K hK => ?_)
     refine sv hF (v_assign rfl) rfl ?_; clear hF a; intro a hF
     refine WL_nil (hK _ _ ?_)
     clear hK K
     replace hF := hF.sub _ (c_ 4 rfl (c_ 0 rfl (c_ 1 rfl (n_))))
     refine W_ret ?_
     refine ⟨_, _, hF, rfl, ?_⟩
     first
      | exact ⟨by rw [newF_f (by rintro ⟨h1, h2, h3⟩; first | omega | (simp_all; done))]; rfl, hS⟩
      | (have hc : ((wb : Int) = 8 ∨ (wb : Int) = 16) ∧ Px.deg p = (wb : Int) ∧ prim p = true := ⟨by omega, by omega, by simp_all⟩
         rw [newF_t hc]
         exact ⟨⟨newF_prm hc, _, rfl, hfk⟩, hS⟩)
    ·
     skip
     try simp only [dcl] at hc4
     refine W_skip ?_
     obtain ⟨wb, rfl⟩ : ∃ wb : Nat, W = (wb : Int) := ⟨W.toNat, by omega⟩
     refine W_sr rfl (fun K hK => ?_)
     refine sv2 hF (v_move rfl) (v_move rfl) rfl rfl ?_; clear hF a; intro a hF
     refine sv hF (v_newField rfl rfl) rfl ?_; clear hF a; intro a hF
     refine s_field (D := FDx) (B := B) hF rfl rfl hS.inv rfl ?_; clear hF a; intro w' a hS' hfk hF
     replace hS := hS.trans hS'
     refine sv hF (v_assign rfl) rfl ?_; clear hF a; intro a hF
     refine WL_nil (hK _ _ ?_)
     clear hK K
     replace hF := hF.sub _ (c_ 4 rfl (n_))
     refine W_ret ?_
     refine ⟨_, _, hF, rfl, ?_⟩
     first
      | exact ⟨by rw [newF_f (by rintro ⟨h1, h2, h3⟩; first | omega | (simp_all; done))]; rfl, hS⟩
      | (have hc : ((wb : Int) = 8 ∨ (wb : Int) = 16) ∧ Px.deg p = (wb : Int) ∧ prim p = true := ⟨by omega, by omega, by simp_all⟩
         rw [newF_t hc]
         exact ⟨⟨newF_prm hc, _, rfl, hfk⟩, hS⟩)
 ·
  clear hF a; intro hc1 a hF
  try simp only [dcl] at hc1
  refine sv hF (v_move rfl) rfl ?_; clear hF a; intro a hF
  refine svn hF rfl rfl rfl ?_; clear hF a; intro a hF
  refine svn hF rfl rfl rfl ?_; clear hF a; intro a hF
  refine sv2 hF (v_pickF rfl rfl) (v_move rfl) rfl rfl ?_; clear hF a; intro a hF
  refine svg hF rfl ?_
  refine sv hF (v_move rfl) rfl ?_; clear hF a; intro a hF
  refine svg hF rfl ?_
  refine sv hF (v_cv Try.underlying24 Try.underlying115 rfl (wrap_u64 _ (by omega))) rfl ?_; clear hF a; intro a hF
  refine svg hF rfl ?_
  refine sc hF rfl rfl rfl en76 rfl (Deg_ok B p _ hS.inv (by omega)) ?_; clear hF a; intro v w' a hv hF
  obtain ⟨rfl, hS'⟩ := hv
  replace hS := hS.trans hS'
  clear hS'
  refine svg hF rfl ?_
  refine sv hF (v_move rfl) rfl ?_; clear hF a; intro a hF
  refine svg hF rfl ?_
  refine sb hF (v_neq rfl rfl) rfl ?_ ?_
  ·
   clear hF a; intro hc5 a hF
   try simp only [dcl] at hc5
   refine sv2 hF (v_pickF rfl rfl) (v_move rfl) rfl rfl ?_; clear hF a; intro a hF
   refine svn hF rfl rfl rfl ?_; clear hF a; intro a hF
   refine svn hF rfl rfl rfl ?_; clear hF a; intro a hF
   refine svn hF rfl rfl rfl ?_; clear hF a; intro a hF
   refine sv hF (v_pickT rfl rfl) rfl ?_; clear hF a; intro a hF
   refine WL_nil (hK _ _ ?_)
   clear hK K
   replace hF := hF.sub _ (c_ 22 rfl (c_ 4 rfl (c_ 0 rfl (c_ 1 rfl (n_)))))
   refine W_ifT hF rfl ?_
   refine W_sr rfl (fun K hK => ?_)
   refine sv hF (v_assign rfl) rfl ?_; clear hF a; intro a hF
   refine WL_nil (hK _ _ ?_)
   clear hK K
   replace hF := hF.sub _ (c_ 4 rfl (c_ 0 rfl (c_ 1 rfl (n_))))
   refine W_ret ?_
   refine ⟨_, _, hF, rfl, ?_⟩
   first
    | exact ⟨by rw [newF_f (by rintro ⟨h1, h2, h3⟩; first | omega | (simp_all; done))]; rfl, hS⟩
    | (have hc : ((wb : Int) = 8 ∨ (wb : Int) = 16) ∧ Px.deg p = (wb : Int) ∧ prim p = true := ⟨by omega, by omega, by simp_all⟩
       rw [newF_t hc]
       exact ⟨⟨newF_prm hc, _, rfl, hfk⟩, hS⟩)
  ·
   clear hF a; intro hc5 a hF
   try simp only [dcl] at hc5
   refine sv2 hF (v_pickF rfl rfl) (v_move rfl) rfl rfl ?_; clear hF a; intro a hF
   refine svg hF rfl ?_
   refine sv hF (v_move rfl) rfl ?_; clear hF a; intro a hF
   refine svg hF rfl ?_
   refine sc hF rfl rfl rfl en77 rfl (prim_ok B p _ hS.inv hp) ?_; clear hF a; intro v w' a hv hF
   obtain ⟨rfl, hS'⟩ := hv
   replace hS := hS.trans hS'
   clear hS'
   refine svg hF rfl ?_
   refine sv hF (v_not rfl) rfl ?_; clear hF a; intro a hF
   refine sv hF (v_pickF rfl rfl) rfl ?_; clear hF a; intro a hF
   refine WL_nil (hK _ _ ?_)
   clear hK K
   replace hF := hF.sub _ (c_ 22 rfl (c_ 4 rfl (c_ 0 rfl (c_ 1 rfl (n_)))))
   refine W_if hF rfl (fun hc6 => ?_) (fun hc6 => ?_)
   ·
    skip
    try simp only [dcl] at hc6
    refine W_sr rfl (fun K hK => ?_)
    refine sv hF (v_assign rfl) rfl ?_; clear hF a; intro a hF
    refine WL_nil (hK _ _ ?_)
    clear hK K
    replace hF := hF.sub _ (c_ 4 rfl (c_ 0 rfl (c_ 1 rfl (n_))))
    refine W_ret ?_
    refine ⟨_, _, hF, rfl, ?_⟩
    first
     | exact ⟨by rw [newF_f (by rintro ⟨h1, h2, h3⟩; first | omega | (simp_all; done))]; rfl, hS⟩
     | (have hc : ((wb : Int) = 8 ∨ (wb : Int) = 16) ∧ Px.deg p = (wb : Int) ∧ prim p = true := ⟨by omega, by omega, by simp_all⟩
        rw [newF_t hc]
        exact ⟨⟨newF_prm hc, _, rfl, hfk⟩, hS⟩)
   ·
    skip
    try simp only [dcl] at hc6
    refine W_skip ?_
    obtain ⟨wb, rfl⟩ : ∃ wb : Nat, W = (wb : Int) := ⟨W.toNat, by omega⟩
    refine W_sr rfl (fun K hK => ?_)
    refine sv2 hF (v_move rfl) (v_move rfl) rfl rfl ?_; clear hF a; intro a hF
    refine sv hF (v_newField rfl rfl) rfl ?_; clear hF a; intro a hF
    refine s_field (D := FDx) (B := B) hF rfl rfl hS.inv rfl ?_; clear hF a; intro w' a hS' hfk hF
    replace hS := hS.trans hS'
    refine sv hF (v_assign rfl) rfl ?_; clear hF a; intro a hF
    refine WL_nil (hK _ _ ?_)
    clear hK K
    replace hF := hF.sub _ (c_ 4 rfl (n_))
    refine W_ret ?_
    refine ⟨_, _, hF, rfl, ?_⟩
    first
     | exact ⟨by rw [newF_f (by rintro ⟨h1, h2, h3⟩; first | omega | (simp_all; done))]; rfl, hS⟩
     | (have hc : ((wb : Int) = 8 ∨ (wb : Int) = 16) ∧ Px.deg p = (wb : Int) ∧ prim p = true := ⟨by omega, by omega, by simp_all⟩
        rw [newF_t hc]
        exact ⟨⟨newF_prm hc, _, rfl, hfk⟩, hS⟩)

set_option maxRecDepth 100000 in
set_option maxHeartbeats 1000000 in
theorem ready1_ok (wb p k pb : Nat) (z2 z3 z4 : Value) (w : World) (hp : Prm wb p) (hk : w.heap[k]? = some (.cells #[.int .i64 (wb : Int), .int .u32 (p : Int), z2, z3, z4, .slice none 0 0, .slice none 0 0] FDx.T (0, 0))) (hc : w.cell? ⟨pb, 0, none⟩ = some (.pointer (some ⟨k, 0, none⟩))) (hkb : k ≠ pb) : Ret Try.prog 97 [.pointer (some ⟨pb, 0, none⟩)] w fun v w' => v = .tuple #[] ∧ ∃ g1 g2, Tst FDx w w' k #[.int .i64 (wb : Int), .int .u32 (p : Int), z2, z3, z4, .slice (some ⟨g1, 0, none⟩) (2 ^ wb) (2 ^ wb), .slice (some ⟨g2, 0, none⟩) (2 ^ wb) (2 ^ wb)] g1 g2 (Px.expL wb p (2 ^ wb - 1)) (Px.logL wb p (2 ^ wb - 1)) := by
 refine enter0 48 [(0, .pointer (some ⟨pb, 0, none⟩))]  Try.func97 rfl rfl rfl rfl rfl ?_; intro a hF
 have hwb : wb ≤ 62 := by have := hp.w; omega
 have hsz := hp.size
 have horder := hp.order
 refine W_cut (fun a w1 => ∃ g1 g2, Fr 48 [(0, .pointer (some ⟨pb, 0, none⟩))] a ∧ Tst FDx w w1 k #[.int .i64 (wb : Int), .int .u32 (p : Int), z2, z3, z4, .slice (some ⟨g1, 0, none⟩) (2 ^ wb) (2 ^ wb), .slice (some ⟨g2, 0, none⟩) (2 ^ wb) (2 ^ wb)] g1 g2 (List.replicate (2 ^ wb) 0) (List.replicate (2 ^ wb) 0)) ?_ ?_
 ·
  skip
  refine W_dS (fun w2 => w2.cell? ⟨pb, 0, none⟩ = some (.pointer (some ⟨k, 0, none⟩)) ∧ w2.cell? ⟨k, 0, none⟩ = some (.int .i64 (wb : Int))) (m := 16) rfl hmix (fun K hK => ?_)
  have hM := Mid.start (E := FDx.E) (T := FDx.T) (m := 2 ^ wb) hk
  have hSS := hM.S hc hkb rfl
  refine b_v (i := 0) rfl (by kernel_rfl) hF (fun w2 hx => v_load sc23 rfl (hx.1)) rfl hSS ?_; clear hF a; intro a hF
  refine b_v (i := 1) rfl (by kernel_rfl) hF (fun w2 hx => v_load sc23 rfl (hx.1)) rfl hSS ?_; clear hF a; intro a hF
  refine b_v (i := 2) rfl (by kernel_rfl) hF (fun w2 hx => v_load sc23 rfl (hx.1)) rfl hSS ?_; clear hF a; intro a hF
  refine b_v (i := 5) rfl (by kernel_rfl) hF (fun w2 hx => v_load sc23 rfl (hx.1)) rfl hSS ?_; clear hF a; intro a hF
  refine b_e (i := 3) (by kernel_rfl) rfl ?_
  refine sc hF rfl rfl rfl en53 rfl (Size_some k wb _ hSS.2 hwb) ?_; clear hF a; intro v w' a hv hF
  obtain ⟨rfl, rfl⟩ := hv
  refine WL_nil ⟨hSS, ?_⟩
  refine b_e2 (i := 4) (i' := 6) (by kernel_rfl) rfl rfl ?_ ?_
  ·
   skip
   refine s_mkM (E := FDx.E) (Tf := FDx.T) hF sl37 rfl rfl (by omega) (by simp only [maxLen]; omega) rfl hM ?_; clear hF a; intro w' a g1 hg1 hM hF
   clear hSS
   have hSS := hM.S hc hkb rfl
   refine WL_nil ⟨hSS, ?_⟩
   refine b_e (i := 6) (by kernel_rfl) rfl ?_
   refine sc hF rfl rfl rfl en53 rfl (Size_some k wb _ hSS.2 hwb) ?_; clear hF a; intro v w' a hv hF
   obtain ⟨rfl, rfl⟩ := hv
   refine WL_nil ⟨hSS, ?_⟩
   refine b_v (i := 8) rfl (by kernel_rfl) hF (fun w2 hx => v_nil rfl) rfl hSS ?_; clear hF a; intro a hF
   refine b_v (i := 9) rfl (by kernel_rfl) hF (fun w2 hx => v_fieldAddr fa103_2 rfl) rfl hSS ?_; clear hF a; intro a hF
   refine b_v (i := 10) rfl (by kernel_rfl) hF (fun w2 hx => v_fieldAddr fa101_1 rfl) rfl hSS ?_; clear hF a; intro a hF
   refine b_e2 (i := 7) (i' := 11) (by kernel_rfl) rfl rfl ?_ ?_
   ·
    skip
    refine s_mkM (E := FDx.E) (Tf := FDx.T) hF sl37 rfl rfl (by omega) (by simp only [maxLen]; omega) rfl hM ?_; clear hF a; intro w' a g2 hg2 hM hF
    clear hSS
    have hSS := hM.S hc hkb rfl
    refine WL_nil ⟨hSS, ?_⟩
    refine b_e (i := 11) (by kernel_rfl) rfl ?_
    refine s_st hF on37 rfl rfl rfl hM.blk (by simp) (fun w' hu => ?_)
    replace hM := hM.store hu
    clear hu hSS
    have hSS := hM.S hc hkb rfl
    refine WL_nil ⟨hSS, ?_⟩
    refine b_v (i := 12) rfl (by kernel_rfl) hF (fun w2 hx => v_nil rfl) rfl hSS ?_; clear hF a; intro a hF
    refine b_v (i := 13) rfl (by kernel_rfl) hF (fun w2 hx => v_fieldAddr fa103_2 rfl) rfl hSS ?_; clear hF a; intro a hF
    refine b_v (i := 14) rfl (by kernel_rfl) hF (fun w2 hx => v_fieldAddr fa101_2 rfl) rfl hSS ?_; clear hF a; intro a hF
    refine b_e (i := 15) (by kernel_rfl) rfl ?_
    refine s_st hF on37 rfl rfl rfl hM.blk (by simp) (fun w' hu => ?_)
    replace hM := hM.store hu
    clear hu hSS
    have hSS := hM.S hc hkb rfl
    refine WL_nil ⟨hSS, ?_⟩
    refine b_done (by kernel_rfl) (hK _ _ ?_)
    clear hK K
    replace hF := hF.sub _ (c_ 0 rfl (n_))
    first
     | exact ⟨g1, g2, hF.sub _ (c_ 0 rfl n_), hM.tst (Nat.ne_of_lt (hg2 g1 (by simp)))⟩
     | exact ⟨g1, g2, hF.sub _ (c_ 0 rfl n_), hM.swap.tst (Nat.ne_of_gt (hg1 g2 (by simp)))⟩
   ·
    skip
    refine s_st hF on37 rfl rfl rfl hM.blk (by simp) (fun w' hu => ?_)
    replace hM := hM.store hu
    clear hu hSS
    have hSS := hM.S hc hkb rfl
    refine WL_nil ⟨hSS, ?_⟩
    refine b_e (i := 7) (by kernel_rfl) rfl ?_
    refine s_mkM (E := FDx.E) (Tf := FDx.T) hF sl37 rfl rfl (by omega) (by simp only [maxLen]; omega) rfl hM ?_; clear hF a; intro w' a g2 hg2 hM hF
    clear hSS
    have hSS := hM.S hc hkb rfl
    refine WL_nil ⟨hSS, ?_⟩
    refine b_v (i := 12) rfl (by kernel_rfl) hF (fun w2 hx => v_nil rfl) rfl hSS ?_; clear hF a; intro a hF
    refine b_v (i := 13) rfl (by kernel_rfl) hF (fun w2 hx => v_fieldAddr fa103_2 rfl) rfl hSS ?_; clear hF a; intro a hF
    refine b_v (i := 14) rfl (by kernel_rfl) hF (fun w2 hx => v_fieldAddr fa101_2 rfl) rfl hSS ?_; clear hF a; intro a hF
    refine b_e (i := 15) (by kernel_rfl) rfl ?_
    refine s_st hF on37 rfl rfl rfl hM.blk (by simp) (fun w' hu => ?_)
    replace hM := hM.store hu
    clear hu hSS
    have hSS := hM.S hc hkb rfl
    refine WL_nil ⟨hSS, ?_⟩
    refine b_done (by kernel_rfl) (hK _ _ ?_)
    clear hK K
    replace hF := hF.sub _ (c_ 0 rfl (n_))
    first
     | exact ⟨g1, g2, hF.sub _ (c_ 0 rfl n_), hM.tst (Nat.ne_of_lt (hg2 g1 (by simp)))⟩
     | exact ⟨g1, g2, hF.sub _ (c_ 0 rfl n_), hM.swap.tst (Nat.ne_of_gt (hg1 g2 (by simp)))⟩
  ·
   skip
   refine sc hF rfl rfl rfl en53 rfl (Size_some k wb _ hSS.2 hwb) ?_; clear hF a; intro v w' a hv hF
   obtain ⟨rfl, rfl⟩ := hv
   refine WL_nil ⟨hSS, ?_⟩
   refine b_e2 (i := 4) (i' := 7) (by kernel_rfl) rfl rfl ?_ ?_
   ·
    skip
    refine s_mkM (E := FDx.E) (Tf := FDx.T) hF sl37 rfl rfl (by omega) (by simp only [maxLen]; omega) rfl hM ?_; clear hF a; intro w' a g1 hg1 hM hF
    clear hSS
    have hSS := hM.S hc hkb rfl
    refine WL_nil ⟨hSS, ?_⟩
    refine b_v (i := 8) rfl (by kernel_rfl) hF (fun w2 hx => v_nil rfl) rfl hSS ?_; clear hF a; intro a hF
    refine b_v (i := 9) rfl (by kernel_rfl) hF (fun w2 hx => v_fieldAddr fa103_2 rfl) rfl hSS ?_; clear hF a; intro a hF
    refine b_v (i := 10) rfl (by kernel_rfl) hF (fun w2 hx => v_fieldAddr fa101_1 rfl) rfl hSS ?_; clear hF a; intro a hF
    refine b_e2 (i := 7) (i' := 11) (by kernel_rfl) rfl rfl ?_ ?_
    ·
     skip
     refine s_mkM (E := FDx.E) (Tf := FDx.T) hF sl37 rfl rfl (by omega) (by simp only [maxLen]; omega) rfl hM ?_; clear hF a; intro w' a g2 hg2 hM hF
     clear hSS
     have hSS := hM.S hc hkb rfl
     refine WL_nil ⟨hSS, ?_⟩
     refine b_e (i := 11) (by kernel_rfl) rfl ?_
     refine s_st hF on37 rfl rfl rfl hM.blk (by simp) (fun w' hu => ?_)
     replace hM := hM.store hu
     clear hu hSS
     have hSS := hM.S hc hkb rfl
     refine WL_nil ⟨hSS, ?_⟩
     refine b_v (i := 12) rfl (by kernel_rfl) hF (fun w2 hx => v_nil rfl) rfl hSS ?_; clear hF a; intro a hF
     refine b_v (i := 13) rfl (by kernel_rfl) hF (fun w2 hx => v_fieldAddr fa103_2 rfl) rfl hSS ?_; clear hF a; intro a hF
     refine b_v (i := 14) rfl (by kernel_rfl) hF (fun w2 hx => v_fieldAddr fa101_2 rfl) rfl hSS ?_; clear hF a; intro a hF
     refine b_e (i := 15) (by kernel_rfl) rfl ?_
     refine s_st hF on37 rfl rfl rfl hM.blk (by simp) (fun w' hu => ?_)
     replace hM := hM.store hu
     clear hu hSS
     have hSS := hM.S hc hkb rfl
     refine WL_nil ⟨hSS, ?_⟩
     refine b_done (by kernel_rfl) (hK _ _ ?_)
     clear hK K
     replace hF := hF.sub _ (c_ 0 rfl (n_))
     first
      | exact ⟨g1, g2, hF.sub _ (c_ 0 rfl n_), hM.tst (Nat.ne_of_lt (hg2 g1 (by simp)))⟩
      | exact ⟨g1, g2, hF.sub _ (c_ 0 rfl n_), hM.swap.tst (Nat.ne_of_gt (hg1 g2 (by simp)))⟩
    ·
     skip
     refine s_st hF on37 rfl rfl rfl hM.blk (by simp) (fun w' hu => ?_)
     replace hM := hM.store hu
     clear hu hSS
     have hSS := hM.S hc hkb rfl
     refine WL_nil ⟨hSS, ?_⟩
     refine b_e (i := 7) (by kernel_rfl) rfl ?_
     refine s_mkM (E := FDx.E) (Tf := FDx.T) hF sl37 rfl rfl (by omega) (by simp only [maxLen]; omega) rfl hM ?_; clear hF a; intro w' a g2 hg2 hM hF
     clear hSS
     have hSS := hM.S hc hkb rfl
     refine WL_nil ⟨hSS, ?_⟩
     refine b_v (i := 12) rfl (by kernel_rfl) hF (fun w2 hx => v_nil rfl) rfl hSS ?_; clear hF a; intro a hF
     refine b_v (i := 13) rfl (by kernel_rfl) hF (fun w2 hx => v_fieldAddr fa103_2 rfl) rfl hSS ?_; clear hF a; intro a hF
     refine b_v (i := 14) rfl (by kernel_rfl) hF (fun w2 hx => v_fieldAddr fa101_2 rfl) rfl hSS ?_; clear hF a; intro a hF
     refine b_e (i := 15) (by kernel_rfl) rfl ?_
     refine s_st hF on37 rfl rfl rfl hM.blk (by simp) (fun w' hu => ?_)
     replace hM := hM.store hu
     clear hu hSS
     have hSS := hM.S hc hkb rfl
     refine WL_nil ⟨hSS, ?_⟩
     refine b_done (by kernel_rfl) (hK _ _ ?_)
     clear hK K
     replace hF := hF.sub _ (c_ 0 rfl (n_))
     first
      | exact ⟨g1, g2, hF.sub _ (c_ 0 rfl n_), hM.tst (Nat.ne_of_lt (hg2 g1 (by simp)))⟩
      | exact ⟨g1, g2, hF.sub _ (c_ 0 rfl n_), hM.swap.tst (Nat.ne_of_gt (hg1 g2 (by simp)))⟩
   ·
    skip
    refine s_mkM (E := FDx.E) (Tf := FDx.T) hF sl37 rfl rfl (by omega) (by simp only [maxLen]; omega) rfl hM ?_; clear hF a; intro w' a g2 hg2 hM hF
    clear hSS
    have hSS := hM.S hc hkb rfl
    refine WL_nil ⟨hSS, ?_⟩
    refine b_e (i := 4) (by kernel_rfl) rfl ?_
    refine s_mkM (E := FDx.E) (Tf := FDx.T) hF sl37 rfl rfl (by omega) (by simp only [maxLen]; omega) rfl hM ?_; clear hF a; intro w' a g1 hg1 hM hF
    clear hSS
    have hSS := hM.S hc hkb rfl
    refine WL_nil ⟨hSS, ?_⟩
    refine b_v (i := 8) rfl (by kernel_rfl) hF (fun w2 hx => v_nil rfl) rfl hSS ?_; clear hF a; intro a hF
    refine b_v (i := 9) rfl (by kernel_rfl) hF (fun w2 hx => v_fieldAddr fa103_2 rfl) rfl hSS ?_; clear hF a; intro a hF
    refine b_v (i := 10) rfl (by kernel_rfl) hF (fun w2 hx => v_fieldAddr fa101_1 rfl) rfl hSS ?_; clear hF a; intro a hF
    refine b_e (i := 11) (by kernel_rfl) rfl ?_
    refine s_st hF on37 rfl rfl rfl hM.blk (by simp) (fun w' hu => ?_)
    replace hM := hM.store hu
    clear hu hSS
    have hSS := hM.S hc hkb rfl
    refine WL_nil ⟨hSS, ?_⟩
    refine b_v (i := 12) rfl (by kernel_rfl) hF (fun w2 hx => v_nil rfl) rfl hSS ?_; clear hF a; intro a hF
    refine b_v (i := 13) rfl (by kernel_rfl) hF (fun w2 hx => v_fieldAddr fa103_2 rfl) rfl hSS ?_; clear hF a; intro a hF
    refine b_v (i := 14) rfl (by kernel_rfl) hF (fun w2 hx => v_fieldAddr fa101_2 rfl) rfl hSS ?_; clear hF a; intro a hF
    refine b_e (i := 15) (by kernel_rfl) rfl ?_
    refine s_st hF on37 rfl rfl rfl hM.blk (by simp) (fun w' hu => ?_)
    replace hM := hM.store hu
    clear hu hSS
    have hSS := hM.S hc hkb rfl
    refine WL_nil ⟨hSS, ?_⟩
    refine b_done (by kernel_rfl) (hK _ _ ?_)
    clear hK K
    replace hF := hF.sub _ (c_ 0 rfl (n_))
    first
     | exact ⟨g1, g2, hF.sub _ (c_ 0 rfl n_), hM.tst (Nat.ne_of_lt (hg2 g1 (by simp)))⟩
     | exact ⟨g1, g2, hF.sub _ (c_ 0 rfl n_), hM.swap.tst (Nat.ne_of_gt (hg1 g2 (by simp)))⟩
 ·
  skip
  clear hF
  rintro a w1 ⟨g1, g2, hF, hT⟩
  refine W_sr rfl (fun K hK => ?_)
  refine sv hF (v_assign rfl) rfl ?_; clear hF a; intro a hF
  refine WL_nil (hK _ _ ?_)
  clear hK K
  refine W_sr rfl (fun K hK => ?_)
  refine sv hF (v_load sc23 rfl (hT.pb hc hkb)) rfl ?_; clear hF a; intro a hF
  refine sc hF rfl rfl rfl en53 rfl (Size_some k wb _ (hT.c 0 rfl) hwb) ?_; clear hF a; intro v w' a hv hF
  obtain ⟨rfl, rfl⟩ := hv
  skip
  refine sv hF (v_subN (m := 2 ^ wb) (n := 1) rfl rfl (by omega) (by omega)) rfl ?_; clear hF a; intro a hF
  refine sv hF (v_move rfl) rfl ?_; clear hF a; intro a hF
  refine WL_nil (hK _ _ ?_)
  clear hK K
  replace hF := hF.sub _ (c_ 20 rfl (c_ 19 rfl (c_ 1 rfl (c_ 0 rfl (n_)))))
  refine W_block ?_
  refine W_loop (fun m a w2 => ∃ i : Nat, Fr 48 [(0, .pointer (some ⟨pb, 0, none⟩)), (1, .int .i64 (Px.pw p i : Int)), (19, .int .i64 ((2 ^ wb - 1 : Nat) : Int)), (20, .int .i64 (i : Int))] a ∧ Tst FDx w w2 k #[.int .i64 (wb : Int), .int .u32 (p : Int), z2, z3, z4, .slice (some ⟨g1, 0, none⟩) (2 ^ wb) (2 ^ wb), .slice (some ⟨g2, 0, none⟩) (2 ^ wb) (2 ^ wb)] g1 g2 (Px.expL wb p i) (Px.logL wb p i) ∧ i ≤ 2 ^ wb - 1 ∧ m + i = 2 ^ wb - 1) (2 ^ wb - 1) ?_ ?_
  ·
   skip
   exact ⟨0, hF.sub _ (c_ 0 rfl (c_ 1 rfl (c_ 19 rfl (c_ 20 rfl n_)))), by rw [expL_zero]; exact hT, by omega, by omega⟩
  ·
   skip
   clear hF
   clear hT
   rintro m a w2 ⟨i, hF, hT, hi, hm⟩
   refine W_sr rfl (fun K hK => ?_)
   refine sv hF (v_lss rfl rfl) rfl ?_; clear hF a; intro a hF
   refine WL_nil (hK _ _ ?_)
   clear hK K
   refine W_seq ?_
   refine W_if hF rfl (fun hc1 => ?_) (fun hc1 => ?_)
   ·
    skip
    try simp only [dcl] at hc1
    refine W_skip ?_
    refine W_seq ?_
    refine W_block ?_
    refine W_sr rfl (fun K hK => ?_)
    refine sv2 hF (v_move rfl) (v_assign rfl) rfl rfl ?_; clear hF a; intro a hF
    refine WL_nil (hK _ _ ?_)
    clear hK K
    replace hF := hF.sub _ (c_ 2 rfl (c_ 0 rfl (c_ 1 rfl (c_ 19 rfl (c_ 20 rfl (n_))))))
    refine W_cut (fun a w3 => Fr 48 [(0, .pointer (some ⟨pb, 0, none⟩)), (1, .int .i64 (Px.pw p i : Int)), (19, .int .i64 ((2 ^ wb - 1 : Nat) : Int)), (20, .int .i64 (i : Int))] a ∧ Tst FDx w w3 k #[.int .i64 (wb : Int), .int .u32 (p : Int), z2, z3, z4, .slice (some ⟨g1, 0, none⟩) (2 ^ wb) (2 ^ wb), .slice (some ⟨g2, 0, none⟩) (2 ^ wb) (2 ^ wb)] g1 g2 (Px.expL wb p (i + 1)) (Px.logL wb p (i + 1))) ?_ ?_
    ·
     skip
     have hpl := hp.pw_lt i
     have hlt : i < 2 ^ wb := by omega
     refine W_dS (fun w2 => w2.cell? ⟨pb, 0, none⟩ = some (.pointer (some ⟨k, 0, none⟩)) ∧ w2.cell? ⟨k, 5, none⟩ = some (.slice (some ⟨g1, 0, none⟩) (2 ^ wb) (2 ^ wb)) ∧ w2.cell? ⟨k, 6, none⟩ = some (.slice (some ⟨g2, 0, none⟩) (2 ^ wb) (2 ^ wb))) (m := 18) rfl hmix (fun K hK => ?_)
     replace hT := hT.drew
     have hSS := And.intro (hT.pb hc hkb) (And.intro (hT.c 5 rfl) (hT.c 6 rfl))
     refine b_v (i := 0) rfl (by kernel_rfl) hF (fun w2 hx => v_load sc23 rfl (hx.1)) rfl hSS ?_; clear hF a; intro a hF
     refine b_v (i := 1) rfl (by kernel_rfl) hF (fun w2 hx => v_nil rfl) rfl hSS ?_; clear hF a; intro a hF
     refine b_v (i := 2) rfl (by kernel_rfl) hF (fun w2 hx => v_fieldAddr fa103_2 rfl) rfl hSS ?_; clear hF a; intro a hF
     refine b_v (i := 3) rfl (by kernel_rfl) hF (fun w2 hx => v_fieldAddr fa101_1 rfl) rfl hSS ?_; clear hF a; intro a hF
     refine b_v (i := 4) rfl (by kernel_rfl) hF (fun w2 hx => v_load sc37 rfl hx.2.1) rfl hSS ?_; clear hF a; intro a hF
     refine b_v (i := 5) rfl (by kernel_rfl) hF (fun w2 hx => v_move rfl) rfl hSS ?_; clear hF a; intro a hF
     refine b_v (i := 6) rfl (by kernel_rfl) hF (fun w2 hx => v_load sc23 rfl (hx.1)) rfl hSS ?_; clear hF a; intro a hF
     refine b_v (i := 7) rfl (by kernel_rfl) hF (fun w2 hx => v_nil rfl) rfl hSS ?_; clear hF a; intro a hF
     refine b_v (i := 8) rfl (by kernel_rfl) hF (fun w2 hx => v_fieldAddr fa103_2 rfl) rfl hSS ?_; clear hF a; intro a hF
     refine b_v (i := 9) rfl (by kernel_rfl) hF (fun w2 hx => v_fieldAddr fa101_2 rfl) rfl hSS ?_; clear hF a; intro a hF
     refine b_v (i := 10) rfl (by kernel_rfl) hF (fun w2 hx => v_load sc37 rfl hx.2.2) rfl hSS ?_; clear hF a; intro a hF
     refine b_v (i := 11) rfl (by kernel_rfl) hF (fun w2 hx => v_move rfl) rfl hSS ?_; clear hF a; intro a hF
     refine b_v (i := 12) rfl (by kernel_rfl) hF (fun w2 hx => v_move rfl) rfl hSS ?_; clear hF a; intro a hF
     refine b_v (i := 13) rfl (by kernel_rfl) hF (fun w2 hx => v_move rfl) rfl hSS ?_; clear hF a; intro a hF
     refine b_v (i := 14) rfl (by kernel_rfl) hF (fun w2 hx => v_ixS sl37 rfl rfl (by omega) (by omega)) rfl hSS ?_; clear hF a; intro a hF
     refine b_e (i := 15) (by kernel_rfl) rfl ?_
     refine s_st hF on3 rfl rfl rfl hT.b1 (by rw [toNat_c]; simp [expL_len (show i ≤ 2 ^ wb by omega)]; omega) (fun w' hu => ?_)
     rw [toNat_c, Nat.zero_add] at hu
     replace hT := hT.exp hu
     clear hu hSS
     have hSS := And.intro (hT.pb hc hkb) (And.intro (hT.c 5 rfl) (hT.c 6 rfl))
     refine WL_nil ⟨hSS, ?_⟩
     refine b_v (i := 16) rfl (by kernel_rfl) hF (fun w2 hx => v_ixS sl37 rfl rfl (by omega) (by omega)) rfl hSS ?_; clear hF a; intro a hF
     refine b_e (i := 17) (by kernel_rfl) rfl ?_
     refine s_st hF on3 rfl rfl rfl hT.b2 (by rw [toNat_c]; simp [logL_len]; omega) (fun w' hu => ?_)
     rw [toNat_c, Nat.zero_add] at hu
     replace hT := hT.log hu
     clear hu hSS
     have hSS := And.intro (hT.pb hc hkb) (And.intro (hT.c 5 rfl) (hT.c 6 rfl))
     refine WL_nil ⟨hSS, ?_⟩
     refine b_done (by kernel_rfl) (hK _ _ ?_)
     clear hK K
     replace hF := hF.sub _ (c_ 0 rfl (c_ 1 rfl (c_ 19 rfl (c_ 20 rfl (n_)))))
     rw [expL_step hlt] at hT
     exact ⟨hF.sub _ (c_ 0 rfl (c_ 1 rfl (c_ 19 rfl (c_ 20 rfl n_)))), hT⟩
    ·
     skip
     clear hF
     clear hT
     rintro a w3 ⟨hF, hT⟩
     have hpl := hp.pw_lt i
     refine W_reg rfl (fun K hK => ?_)
     refine sv hF (v_move rfl) rfl ?_; clear hF a; intro a hF
     refine sv hF (v_cv Try.underlying3 Try.underlying24 rfl (wrap_u32 _ (by omega))) rfl ?_; clear hF a; intro a hF
     refine sv hF (v_load sc23 rfl (hT.pb hc hkb)) rfl ?_; clear hF a; intro a hF
     refine sv hF (v_nil rfl) rfl ?_; clear hF a; intro a hF
     refine sv hF (v_fieldAddr fa103_1 rfl) rfl ?_; clear hF a; intro a hF
     refine sv hF (v_load sc24 rfl (hT.c 1 rfl)) rfl ?_; clear hF a; intro a hF
     refine sc hF rfl rfl rfl en65 rfl (MulMod_ok (w.heap.size + 2) (Px.pw p i) 2 p _ hT.inv (by omega) (by decide) (by have := hp.lt; omega)) ?_; clear hF a; intro v w' a hv hF
     obtain ⟨rfl, hS'⟩ := hv
     replace hT := hT.step hS'
     clear hS'
     skip
     have hml := hp.pw_lt (i + 1)
     unfold Px.pw at hml
     refine sv hF (v_cv Try.underlying24 Try.underlying3 rfl (wrap_i64 _ (by omega))) rfl ?_; clear hF a; intro a hF
     refine sv hF (v_assign rfl) rfl ?_; clear hF a; intro a hF
     refine WL_nil (hK _ _ ?_)
     clear hK K
     replace hF := hF.sub _ (c_ 1 rfl (c_ 0 rfl (c_ 19 rfl (c_ 20 rfl (n_)))))
     refine W_reg rfl (fun K hK => ?_)
     refine sv hF (v_addI rfl rfl (by omega)) rfl ?_; clear hF a; intro a hF
     refine sv hF (v_move rfl) rfl ?_; clear hF a; intro a hF
     refine WL_nil (hK _ _ ?_)
     clear hK K
     exact ⟨m - 1, by omega, i + 1, hF.sub _ (c_ 0 rfl (c_ 1 rfl (c_ 19 rfl (c_ 20 rfl n_)))), hT, by omega, by omega⟩
   ·
    skip
    try simp only [dcl] at hc1
    refine W_exit rfl ?_
    refine ⟨_, hF, ?_⟩
    obtain rfl : i = 2 ^ wb - 1 := by omega
    exact ⟨rfl, g1, g2, hT⟩

end Go.Proofs.Ytaeljbdpjiciaaa

/- The walks of package gf: products, powers, inverses. -/
set_option linter.unusedVariables false
set_option linter.unusedSimpArgs false
namespace Go.Proofs.Ytaeljbdpjiciaaa
open Go Go.Gam


namespace FxFGfb
theorem en29 : Ent Try.prog 29 := ent Try.func29 (by kernel_rfl) (by kernel_rfl)
theorem en42 : Ent Try.prog 42 := ent Try.func42 (by kernel_rfl) (by kernel_rfl)
theorem en53 : Ent Try.prog 53 := ent Try.func53 (by kernel_rfl) (by kernel_rfl)
theorem en64 : Ent Try.prog 64 := ent Try.func64 (by kernel_rfl) (by kernel_rfl)
theorem en65 : Ent Try.prog 65 := ent Try.func65 (by kernel_rfl) (by kernel_rfl)
theorem en66 : Ent Try.prog 66 := ent Try.func66 (by kernel_rfl) (by kernel_rfl)
theorem en67 : Ent Try.prog 67 := ent Try.func67 (by kernel_rfl) (by kernel_rfl)
theorem en96 : Ent Try.prog 96 := ent Try.func96 (by kernel_rfl) (by kernel_rfl)
theorem fa101_0 : FieldFact Try.prog 101 0 0 := ff_of (sz := 2) Try.underlying101 (by kernel_rfl)
theorem fa101_1 : FieldFact Try.prog 101 1 3 := ff_of (sz := 0) Try.underlying101 (by kernel_rfl)
theorem fa101_2 : FieldFact Try.prog 101 2 4 := ff_of (sz := 0) Try.underlying101 (by kernel_rfl)
theorem fa103_0 : FieldFact Try.prog 103 0 0 := ff_of (sz := 0) Try.underlying103 (by kernel_rfl)
theorem fa103_1 : FieldFact Try.prog 103 1 1 := ff_of (sz := 0) Try.underlying103 (by kernel_rfl)
theorem fa103_2 : FieldFact Try.prog 103 2 2 := ff_of (sz := 4) Try.underlying103 (by kernel_rfl)
theorem hmix : Try.prog.follows .mixedOrders = true := by kernel_rfl
theorem sc23 : Scalar Try.prog 23 := ⟨_, Try.underlying23, by simp, by simp⟩
theorem sc24 : Scalar Try.prog 24 := ⟨_, Try.underlying24, by simp, by simp⟩
theorem sc3 : Scalar Try.prog 3 := ⟨_, Try.underlying3, by simp, by simp⟩
theorem sc37 : Scalar Try.prog 37 := ⟨_, Try.underlying37, by simp, by simp⟩
theorem sl37 : Sl Try.prog 37 3 (.int .i64 0) 8 := sl_of Try.underlying37 rfl (by kernel_rfl)
end FxFGfb
open FxFGfb

theorem Do_made_ok (B wb p k ge gl pb : Nat) (w : World) (hm : Made FDx B w k wb p ge gl) :
  Ret Try.prog 96 [.pointer (some ⟨k, 2, none⟩), .func (.func 97) #[] #[.pointer (some ⟨pb, 0, none⟩)]] w fun v w' => v = .tuple #[] ∧ w' = w :=
 (do_done k 2 _ w hm.c2).mono fun e w' ⟨h1, h2⟩ => ⟨_, h1, rfl, h2⟩

theorem Do_new_ok (B wb p k pb : Nat) (w : World) (hI : Inv FDx B w) (hB : B ≤ k) (hk : w.heap[k]? = some (.cells (fcells wb p 0 (.slice none 0 0) (.slice none 0 0)) FDx.T (0, 0))) (hp : Prm wb p)
  (hc : w.cell? ⟨pb, 0, none⟩ = some (.pointer (some ⟨k, 0, none⟩))) (hkb : k ≠ pb) :
  Ret Try.prog 96 [.pointer (some ⟨k, 2, none⟩), .func (.func 97) #[] #[.pointer (some ⟨pb, 0, none⟩)]] w fun v w' => v = .tuple #[] ∧ St FDx B w w' ∧ ∃ ge gl, Made FDx B w' k wb p ge gl := by
 have hu := setCell_heap (i := 3) (.int .i32 1) hk
 have hc' : (w.setCell ⟨k, 3, none⟩ (.int .i32 1)).cell? ⟨pb, 0, none⟩ = some (.pointer (some ⟨k, 0, none⟩)) := (cell_of_heap (a := ⟨pb, 0, none⟩) (hu.keep pb (Ne.symm hkb))).trans hc
 refine (do_first k 2 ⟨pb, 0, none⟩ w (fun w2 => ∃ g1 g2, Tst FDx (w.setCell ⟨k, 3, none⟩ (.int .i32 1)) w2 k #[.int .i64 (wb : Int), .int .u32 (p : Int), .int .u32 0, .int .i32 1, .int .u32 0, .slice (some ⟨g1, 0, none⟩) (2 ^ wb) (2 ^ wb), .slice (some ⟨g2, 0, none⟩) (2 ^ wb) (2 ^ wb)] g1 g2 (Px.expL wb p (2 ^ wb - 1)) (Px.logL wb p (2 ^ wb - 1))) ?_ ?_ ?_ ?_ ?_).mono ?_
 ·
  simp [World.cell?, hk, fcells]
 ·
  simp [World.cell?, hk, fcells]
 ·
  simp [World.frozen?, hk]
 ·
  exact Calls.mono (ready1_ok wb p k pb (.int .u32 0) (.int .i32 1) (.int .u32 0) _ hp hu.new hc' hkb) fun e w' ⟨v, h1, h2, h3⟩ => ⟨by rw [h1, h2], h3⟩
 ·
  rintro w2 ⟨g1, g2, hT⟩
  exact ⟨hT.c 2 rfl, hT.c 3 rfl, by simp [World.frozen?, hT.blk], by simp [World.frozen?, hT.blk]⟩
 ·
  rintro e w' ⟨rfl, w2, ⟨g1, g2, hT⟩, rfl⟩
  have h := hT.done hI hB hk
  exact ⟨_, rfl, rfl, h.1, g1, g2, h.2⟩

set_option maxRecDepth 100000 in
set_option maxHeartbeats 1000000 in
theorem ready_made (B wb p k ge gl : Nat) (w : World) (hI : Inv FDx B w) (hmd : Made FDx B w k wb p ge gl) : Ret Try.prog 66 [.pointer (some ⟨k, 0, none⟩)] w fun v w' => v = .pointer (some ⟨k, 2, none⟩) ∧ St FDx B w w' ∧ ∃ ge gl, Made FDx B w' k wb p ge gl := by
 refine enter 12 [(0, .pointer (some ⟨k, 0, none⟩))] 2 Try.func66 rfl rfl rfl rfl rfl ?_; intro a hF
 have hS := St.refl hI
 refine W_sr rfl (fun K hK => ?_)
 refine s_box (D := FDx) (B := B) hF rfl (by decide) hS.inv rfl ?_; clear hF a; intro w' a hm hbox hsz hF
 replace hmd := hm.made hmd
 replace hS := hS.mb0 hm
 clear hm
 refine sv hF (v_assign rfl) rfl ?_; clear hF a; intro a hF
 refine WL_nil (hK _ _ ?_)
 clear hK K
 replace hF := hF.sub _ (c_ 2 rfl (c_ 1 rfl (n_)))
 refine W_sr rfl (fun K hK => ?_)
 refine sv hF (v_load sc23 rfl (hbox.at 0 rfl)) rfl ?_; clear hF a; intro a hF
 refine sv hF (v_nil rfl) rfl ?_; clear hF a; intro a hF
 refine sv hF (v_fieldAddr fa103_2 rfl) rfl ?_; clear hF a; intro a hF
 refine sv hF (v_fieldAddr fa101_0 rfl) rfl ?_; clear hF a; intro a hF
 refine sv hF (v_mkf rfl) rfl ?_; clear hF a; intro a hF
 refine sc hF rfl rfl rfl en96 rfl (Do_made_ok B wb p k ge gl _ _ hmd) ?_; clear hF a; intro v w' a hv hF
 obtain ⟨rfl, rfl⟩ := hv
 have hS' := St.refl hS.inv
 replace hmd := hmd.st hS'
 replace hbox := hbox.st (by decide) hS'
 replace hS := hS.trans hS'
 clear hS'
 refine WL_nil (hK _ _ ?_)
 clear hK K
 replace hF := hF.sub _ (c_ 2 rfl (c_ 1 rfl (n_)))
 refine W_sr rfl (fun K hK => ?_)
 refine sv hF (v_load sc23 rfl (hbox.at 0 rfl)) rfl ?_; clear hF a; intro a hF
 refine sv hF (v_nil rfl) rfl ?_; clear hF a; intro a hF
 refine sv hF (v_fieldAddr fa103_2 rfl) rfl ?_; clear hF a; intro a hF
 refine sv hF (v_assign rfl) rfl ?_; clear hF a; intro a hF
 refine WL_nil (hK _ _ ?_)
 clear hK K
 replace hF := hF.sub _ (c_ 2 rfl (n_))
 refine W_ret ?_
 refine ⟨_, _, hF, rfl, ?_⟩
 exact ⟨rfl, hS, _, _, hmd⟩

set_option maxRecDepth 100000 in
set_option maxHeartbeats 1000000 in
theorem ready_new (B wb p k : Nat) (w : World) (hI : Inv FDx B w) (hB : B ≤ k) (hk : w.heap[k]? = some (.cells (fcells wb p 0 (.slice none 0 0) (.slice none 0 0)) FDx.T (0, 0))) (hp : Prm wb p) : Ret Try.prog 66 [.pointer (some ⟨k, 0, none⟩)] w fun v w' => v = .pointer (some ⟨k, 2, none⟩) ∧ St FDx B w w' ∧ ∃ ge gl, Made FDx B w' k wb p ge gl := by
 refine enter 12 [(0, .pointer (some ⟨k, 0, none⟩))] 2 Try.func66 rfl rfl rfl rfl rfl ?_; intro a hF
 have hS := St.refl hI
 have hlt := heap_lt hk
 refine W_sr rfl (fun K hK => ?_)
 refine s_box (D := FDx) (B := B) hF rfl (by decide) hS.inv rfl ?_; clear hF a; intro w' a hm hbox hsz hF
 replace hk := (hm.keep _ (heap_lt hk) (by simp)).trans hk
 replace hS := hS.mb0 hm
 clear hm
 have hkb : k ≠ w.heap.size := by omega
 generalize w.heap.size = pb at *
 refine sv hF (v_assign rfl) rfl ?_; clear hF a; intro a hF
 refine WL_nil (hK _ _ ?_)
 clear hK K
 replace hF := hF.sub _ (c_ 2 rfl (c_ 1 rfl (n_)))
 refine W_sr rfl (fun K hK => ?_)
 refine sv hF (v_load sc23 rfl (hbox.at 0 rfl)) rfl ?_; clear hF a; intro a hF
 refine sv hF (v_nil rfl) rfl ?_; clear hF a; intro a hF
 refine sv hF (v_fieldAddr fa103_2 rfl) rfl ?_; clear hF a; intro a hF
 refine sv hF (v_fieldAddr fa101_0 rfl) rfl ?_; clear hF a; intro a hF
 refine sv hF (v_mkf rfl) rfl ?_; clear hF a; intro a hF
 refine sc hF rfl rfl rfl en96 rfl (Do_new_ok B wb p k pb _ hS.inv hB hk hp (hbox.at 0 rfl) hkb) ?_; clear hF a; intro v w' a hv hF
 clear hk
 obtain ⟨rfl, hS', hmd⟩ := hv
 replace hbox := hbox.st (by decide) hS'
 replace hS := hS.trans hS'
 clear hS'
 refine WL_nil (hK _ _ ?_)
 clear hK K
 replace hF := hF.sub _ (c_ 2 rfl (c_ 1 rfl (n_)))
 refine W_sr rfl (fun K hK => ?_)
 refine sv hF (v_load sc23 rfl (hbox.at 0 rfl)) rfl ?_; clear hF a; intro a hF
 refine sv hF (v_nil rfl) rfl ?_; clear hF a; intro a hF
 refine sv hF (v_fieldAddr fa103_2 rfl) rfl ?_; clear hF a; intro a hF
 refine sv hF (v_assign rfl) rfl ?_; clear hF a; intro a hF
 refine WL_nil (hK _ _ ?_)
 clear hK K
 replace hF := hF.sub _ (c_ 2 rfl (n_))
 refine W_ret ?_
 refine ⟨_, _, hF, rfl, ?_⟩
 exact ⟨rfl, hS, hmd⟩

theorem ready_ok (B wb p k : Nat) (w : World) (hI : Inv FDx B w) (hf : FOK FDx B w k wb p) (hp : Prm wb p) : Ret Try.prog 66 [.pointer (some ⟨k, 0, none⟩)] w fun v w' => v = .pointer (some ⟨k, 2, none⟩) ∧ St FDx B w w' ∧ ∃ ge gl, Made FDx B w' k wb p ge gl := by
 rcases hf.cases with ⟨hB, hk⟩ | ⟨ge, gl, hmd⟩
 ·
  exact ready_new B wb p k w hI hB hk hp
 ·
  exact ready_made B wb p k ge gl w hI hmd

set_option maxRecDepth 100000 in
set_option maxHeartbeats 1000000 in
theorem Exp_some (B wb p k : Nat) (n : Int) (w : World) (hI : Inv FDx B w) (hf : FOK FDx B w k wb p) (hp : Prm wb p) (hn : -9223372036854775808 ≤ n ∧ n < 9223372036854775808) : Ret Try.prog 67 [.pointer (some ⟨k, 0, none⟩), .int .i64 n] w fun v w' => v = .int .i64 ((Px.pw p (n % ((2 ^ wb - 1 : Nat) : Int)).toNat : Int)) ∧ St FDx B w w' := by
 refine enter 25 [(0, .pointer (some ⟨k, 0, none⟩)), (1, .int .i64 n)] 4 Try.func67 rfl rfl rfl rfl rfl ?_; intro a hF
 have hS := St.refl hI
 have hsz := hp.size
 have horder := hp.order
 have htm := tmod_bd n (m := 2 ^ wb - 1) (by omega)
 have hidx := exp_index n (m := 2 ^ wb - 1) (by omega)
 have hi1 := Int.emod_nonneg n (show ((2 ^ wb - 1 : Nat) : Int) ≠ 0 by omega)
 have hi2 := Int.emod_lt_of_pos n (show (0 : Int) < ((2 ^ wb - 1 : Nat) : Int) by omega)
 obtain ⟨i, hi⟩ : ∃ i : Nat, n % ((2 ^ wb - 1 : Nat) : Int) = (i : Int) := ⟨(n % ((2 ^ wb - 1 : Nat) : Int)).toNat, by omega⟩
 rw [hi] at hidx
 refine W_sr rfl (fun K hK => ?_)
 refine sv hF (v_assign rfl) rfl ?_; clear hF a; intro a hF
 refine WL_nil (hK _ _ ?_)
 clear hK K
 refine W_seq ?_
 refine W_sr rfl (fun K hK => ?_)
 refine sv hF (v_move rfl) rfl ?_; clear hF a; intro a hF
 refine sv hF ((v_eqlNil (by exact Try.underlying23) rfl rfl).as (congrArg Value.bool (rfl))) rfl ?_; clear hF a; intro a hF
 refine WL_nil (hK _ _ ?_)
 clear hK K
 replace hF := hF.sub _ (c_ 7 rfl (c_ 4 rfl (c_ 0 rfl (c_ 1 rfl (n_)))))
 refine W_ifF hF rfl ?_
 refine W_skip ?_
 refine W_sr rfl (fun K hK => ?_)
 refine sv hF (v_move rfl) rfl ?_; clear hF a; intro a hF
 refine sc hF rfl rfl rfl en53 rfl (Size_some k wb _ hf.w0 (by have := hp.w; omega)) ?_; clear hF a; intro v w' a hv hF
 obtain ⟨rfl, rfl⟩ := hv
 have hS' := St.refl hS.inv
 replace hf := hf.st hS'
 replace hS := hS.trans hS'
 clear hS'
 refine sv hF (v_subN (m := 2 ^ wb) (n := 1) rfl rfl (by omega) (by omega)) rfl ?_; clear hF a; intro a hF
 refine sv hF (v_assign rfl) rfl ?_; clear hF a; intro a hF
 refine WL_nil (hK _ _ ?_)
 clear hK K
 replace hF := hF.sub _ (c_ 5 rfl (c_ 4 rfl (c_ 0 rfl (c_ 1 rfl (n_)))))
 refine W_sd (m := 15) rfl hmix hS.inv (fun K hK w1 hS' hh => ?_)
 replace hf := hf.st hS'
 replace hS := hS.trans hS'
 clear hS'
 clear hh
 refine a_v (i := 0) rfl (by kernel_rfl) hF (fun w2 hx => v_move rfl) rfl ?_; clear hF a; intro a hF
 refine a_v (i := 5) rfl (by kernel_rfl) hF (fun w2 hx => v_move rfl) rfl ?_; clear hF a; intro a hF
 refine a_v (i := 6) rfl (by kernel_rfl) hF (fun w2 hx => v_move rfl) rfl ?_; clear hF a; intro a hF
 refine a_v (i := 7) rfl (by kernel_rfl) hF (fun w2 hx => v_rem rfl rfl (by omega)) rfl ?_; clear hF a; intro a hF
 refine a_v (i := 8) rfl (by kernel_rfl) hF (fun w2 hx => v_move rfl) rfl ?_; clear hF a; intro a hF
 refine a_v (i := 9) rfl (by kernel_rfl) hF (fun w2 hx => v_addI rfl rfl (by omega)) rfl ?_; clear hF a; intro a hF
 refine a_v (i := 10) rfl (by kernel_rfl) hF (fun w2 hx => v_move rfl) rfl ?_; clear hF a; intro a hF
 refine a_v (i := 11) rfl (by kernel_rfl) hF (fun w2 hx => (v_remI rfl rfl (by omega) (by omega)).as (congrArg _ hidx)) rfl ?_; clear hF a; intro a hF
 refine a_e (i := 1) rfl (by kernel_rfl) ?_
 refine sc hF rfl rfl rfl en66 rfl (ready_ok B wb p k _ hS.inv hf hp) ?_; clear hF a; intro v w' a hv hF
 obtain ⟨rfl, hS', ge, gl, hmd⟩ := hv
 refine WL_nil ⟨hS'.ext, ?_⟩
 replace hS := hS.trans hS'
 clear hS'
 refine a_v (i := 2) rfl (by kernel_rfl) hF (fun w2 hx => v_nil rfl) rfl ?_; clear hF a; intro a hF
 refine a_v (i := 3) rfl (by kernel_rfl) hF (fun w2 hx => v_fieldAddr fa101_1 rfl) rfl ?_; clear hF a; intro a hF
 refine a_v (i := 4) rfl (by kernel_rfl) hF (fun w2 hx => v_load sc37 rfl (hx.made _ _ _ _ _ hmd).c5) rfl ?_; clear hF a; intro a hF
 refine a_v (i := 12) rfl (by kernel_rfl) hF (fun w2 hx => v_ixS sl37 rfl rfl (by omega) (by omega)) rfl ?_; clear hF a; intro a hF
 refine a_v (i := 13) rfl (by kernel_rfl) hF (fun w2 hx => v_load sc3 rfl (by rw [toNat_c, Nat.zero_add]; exact (hx.made _ _ _ _ _ hmd).exp (by omega))) rfl ?_; clear hF a; intro a hF
 refine a_v (i := 14) rfl (by kernel_rfl) hF (fun w2 hx => v_assign rfl) rfl ?_; clear hF a; intro a hF
 refine a_done (by kernel_rfl) (hK _ _ ?_)
 clear hK K
 replace hF := hF.sub _ (c_ 4 rfl (n_))
 refine W_ret ?_
 refine ⟨_, _, hF, rfl, ?_⟩
 exact ⟨by rw [hi]; rfl, hS⟩

set_option maxRecDepth 100000 in
set_option maxHeartbeats 1000000 in
theorem Mul_gf (B : Nat) (o : Fq) (fv : Value) (ia ib : Int) (w : World) (hI : Inv FDx B w) (hf : Fo FDx B w fv o) : Ret Try.prog 29 [fv, .int .i64 ia, .int .i64 ib] w fun v w' => v = .int .i64 (gmul o ia ib) ∧ St FDx B w w' := by
 refine enter 58 [(0, fv), (1, .int .i64 ia), (2, .int .i64 ib)] 6 Try.func29 rfl rfl rfl rfl rfl ?_; intro a hF
 have hS := St.refl hI
 refine W_sr rfl (fun K hK => ?_)
 refine sv hF (v_assign rfl) rfl ?_; clear hF a; intro a hF
 refine WL_nil (hK _ _ ?_)
 clear hK K
 refine W_seq ?_
 refine W_block ?_
 refine W_sr rfl (fun K hK => ?_)
 refine sv3 hF (v_move rfl) (v_move rfl) (v_move rfl) rfl rfl rfl ?_; clear hF a; intro a hF
 refine s_bs (D := FDx) (B := B) hF sl37 rfl rfl (by decide) (by simp [Value.cells]) (by decide) hS.inv rfl ?_; clear hF a; intro w' a hm hI' hb hF
 replace hf := hf.mb hm
 replace hS := hS.mb0 hm
 clear hm hI'
 refine sc hF rfl rfl rfl en64 rfl (in_ok B o fv (some ⟨_, 0, none⟩) 2 [ia, ib] _ hS.inv hf (by simp) (own_in (D := FDx) (B := B) (zs := [ia, ib]) hb (by decide))) ?_; clear hF a; intro v w' a hv hF
 clear hb
 obtain ⟨rfl, rfl⟩ := hv
 have hS' := St.refl hS.inv
 replace hf := hf.st hS'
 replace hS := hS.trans hS'
 clear hS'
 refine sb hF (v_not rfl) rfl ?_ ?_
 ·
  clear hF a; intro hc1 a hF
  try simp only [dcl] at hc1
  refine sv hF (v_move rfl) rfl ?_; clear hF a; intro a hF
  refine svn hF rfl rfl rfl ?_; clear hF a; intro a hF
  refine svn hF rfl rfl rfl ?_; clear hF a; intro a hF
  refine sv2 hF (v_pickT rfl rfl) (v_move rfl) rfl rfl ?_; clear hF a; intro a hF
  refine svn hF rfl rfl rfl ?_; clear hF a; intro a hF
  refine svn hF rfl rfl rfl ?_; clear hF a; intro a hF
  refine sv2 hF (v_pickT rfl rfl) (v_assign rfl) rfl rfl ?_; clear hF a; intro a hF
  refine WL_nil (hK _ _ ?_)
  clear hK K
  replace hF := hF.sub _ (c_ 8 rfl (c_ 6 rfl (c_ 0 rfl (c_ 1 rfl (c_ 2 rfl (n_))))))
  refine W_ifT hF rfl ?_
  refine W_sr rfl (fun K hK => ?_)
  refine sv hF (v_assign rfl) rfl ?_; clear hF a; intro a hF
  refine WL_nil (hK _ _ ?_)
  clear hK K
  replace hF := hF.sub _ (c_ 6 rfl (c_ 0 rfl (c_ 1 rfl (c_ 2 rfl (n_)))))
  refine W_ret ?_
  refine ⟨_, _, hF, rfl, ?_⟩
  first
   | exact ⟨by rw [gmul_out hc1], hS⟩
   | (subst_vars; exact ⟨by rw [gmul_zl], hS⟩)
   | (subst_vars; exact ⟨by rw [gmul_zr], hS⟩)
   | exact ⟨by rw [gmul_in hx hy, hp.pw_sum ei ej], hS⟩
   | exact ⟨by rw [gmul_in hx hy], hS⟩
 ·
  clear hF a; intro hc1 a hF
  try simp only [dcl] at hc1
  refine sv hF (v_move rfl) rfl ?_; clear hF a; intro a hF
  refine svg hF rfl ?_
  refine sv hF (v_move rfl) rfl ?_; clear hF a; intro a hF
  refine svg hF rfl ?_
  refine sb hF (v_eql rfl rfl) rfl ?_ ?_
  ·
   clear hF a; intro hc2 a hF
   try simp only [dcl] at hc2
   refine sv2 hF (v_pickF rfl rfl) (v_move rfl) rfl rfl ?_; clear hF a; intro a hF
   refine svn hF rfl rfl rfl ?_; clear hF a; intro a hF
   refine svn hF rfl rfl rfl ?_; clear hF a; intro a hF
   refine sv2 hF (v_pickT rfl rfl) (v_assign rfl) rfl rfl ?_; clear hF a; intro a hF
   refine WL_nil (hK _ _ ?_)
   clear hK K
   replace hF := hF.sub _ (c_ 8 rfl (c_ 6 rfl (c_ 0 rfl (c_ 1 rfl (c_ 2 rfl (n_))))))
   refine W_ifT hF rfl ?_
   refine W_sr rfl (fun K hK => ?_)
   refine sv hF (v_assign rfl) rfl ?_; clear hF a; intro a hF
   refine WL_nil (hK _ _ ?_)
   clear hK K
   replace hF := hF.sub _ (c_ 6 rfl (c_ 0 rfl (c_ 1 rfl (c_ 2 rfl (n_)))))
   refine W_ret ?_
   refine ⟨_, _, hF, rfl, ?_⟩
   first
    | exact ⟨by rw [gmul_out hc1], hS⟩
    | (subst_vars; exact ⟨by rw [gmul_zl], hS⟩)
    | (subst_vars; exact ⟨by rw [gmul_zr], hS⟩)
    | exact ⟨by rw [gmul_in hx hy, hp.pw_sum ei ej], hS⟩
    | exact ⟨by rw [gmul_in hx hy], hS⟩
  ·
   clear hF a; intro hc2 a hF
   try simp only [dcl] at hc2
   refine sv2 hF (v_pickF rfl rfl) (v_move rfl) rfl rfl ?_; clear hF a; intro a hF
   refine svg hF rfl ?_
   refine sv hF (v_move rfl) rfl ?_; clear hF a; intro a hF
   refine svg hF rfl ?_
   refine sv hF (v_eql rfl rfl) rfl ?_; clear hF a; intro a hF
   refine sv2 hF (v_pickF rfl rfl) (v_assign rfl) rfl rfl ?_; clear hF a; intro a hF
   refine WL_nil (hK _ _ ?_)
   clear hK K
   replace hF := hF.sub _ (c_ 8 rfl (c_ 6 rfl (c_ 0 rfl (c_ 1 rfl (c_ 2 rfl (n_))))))
   refine W_if hF rfl (fun hc3 => ?_) (fun hc3 => ?_)
   ·
    skip
    try simp only [dcl] at hc3
    refine W_sr rfl (fun K hK => ?_)
    refine sv hF (v_assign rfl) rfl ?_; clear hF a; intro a hF
    refine WL_nil (hK _ _ ?_)
    clear hK K
    replace hF := hF.sub _ (c_ 6 rfl (c_ 0 rfl (c_ 1 rfl (c_ 2 rfl (n_)))))
    refine W_ret ?_
    refine ⟨_, _, hF, rfl, ?_⟩
    first
     | exact ⟨by rw [gmul_out hc1], hS⟩
     | (subst_vars; exact ⟨by rw [gmul_zl], hS⟩)
     | (subst_vars; exact ⟨by rw [gmul_zr], hS⟩)
     | exact ⟨by rw [gmul_in hx hy, hp.pw_sum ei ej], hS⟩
     | exact ⟨by rw [gmul_in hx hy], hS⟩
   ·
    skip
    try simp only [dcl] at hc3
    rw [all2, Bool.and_eq_true] at hc1
    obtain ⟨hin, hinb⟩ := hc1
    obtain ⟨wb, p, k, rfl, rfl, hp, hfk⟩ := fo_some hf (a := ia) hin
    obtain ⟨x, rfl, hx⟩ := inF_nat hin
    obtain ⟨y, rfl, hy⟩ := inF_nat hinb
    have hsz := hp.size
    have hml := hp.mulMod_lt x y
    have hplt := hp.lt
    refine W_sr rfl (fun K hK => ?_)
    refine sv hF (v_move rfl) rfl ?_; clear hF a; intro a hF
    refine sv hF (v_nil rfl) rfl ?_; clear hF a; intro a hF
    refine sv hF (v_fieldAddr fa103_0 rfl) rfl ?_; clear hF a; intro a hF
    refine sv hF (v_load sc3 rfl hfk.w0) rfl ?_; clear hF a; intro a hF
    refine sv hF (v_eql rfl rfl) rfl ?_; clear hF a; intro a hF
    refine sv hF (v_assign rfl) rfl ?_; clear hF a; intro a hF
    refine WL_nil (hK _ _ ?_)
    clear hK K
    replace hF := hF.sub _ (c_ 23 rfl (c_ 6 rfl (c_ 0 rfl (c_ 1 rfl (c_ 2 rfl (n_))))))
    refine W_if hF rfl (fun hc4 => ?_) (fun hc4 => ?_)
    ·
     skip
     try simp only [dcl] at hc4
     refine W_sr rfl (fun K hK => ?_)
     refine sv hF (v_move rfl) rfl ?_; clear hF a; intro a hF
     refine sv hF (v_cv Try.underlying3 Try.underlying24 rfl (wrap_u32 _ (by omega))) rfl ?_; clear hF a; intro a hF
     refine sv hF (v_move rfl) rfl ?_; clear hF a; intro a hF
     refine sv hF (v_cv Try.underlying3 Try.underlying24 rfl (wrap_u32 _ (by omega))) rfl ?_; clear hF a; intro a hF
     refine sv hF (v_move rfl) rfl ?_; clear hF a; intro a hF
     refine sv hF (v_nil rfl) rfl ?_; clear hF a; intro a hF
     refine sv hF (v_fieldAddr fa103_1 rfl) rfl ?_; clear hF a; intro a hF
     refine sv hF (v_load sc24 rfl hfk.p0) rfl ?_; clear hF a; intro a hF
     refine sc hF rfl rfl rfl en65 rfl (MulMod_ok B x y p _ hS.inv (by omega) (by omega) (by omega)) ?_; clear hF a; intro v w' a hv hF
     obtain ⟨rfl, hS'⟩ := hv
     replace hS := hS.trans hS'
     clear hS'
     refine sv hF (v_cv Try.underlying24 Try.underlying3 rfl (wrap_i64 _ (by omega))) rfl ?_; clear hF a; intro a hF
     refine sv hF (v_assign rfl) rfl ?_; clear hF a; intro a hF
     refine WL_nil (hK _ _ ?_)
     clear hK K
     replace hF := hF.sub _ (c_ 6 rfl (c_ 0 rfl (c_ 1 rfl (c_ 2 rfl (n_)))))
     refine W_ret ?_
     refine ⟨_, _, hF, rfl, ?_⟩
     first
      | exact ⟨by rw [gmul_out hc1], hS⟩
      | (subst_vars; exact ⟨by rw [gmul_zl], hS⟩)
      | (subst_vars; exact ⟨by rw [gmul_zr], hS⟩)
      | exact ⟨by rw [gmul_in hx hy, hp.pw_sum ei ej], hS⟩
      | exact ⟨by rw [gmul_in hx hy], hS⟩
    ·
     skip
     try simp only [dcl] at hc4
     refine W_skip ?_
     refine W_sr rfl (fun K hK => ?_)
     refine sv hF (v_move rfl) rfl ?_; clear hF a; intro a hF
     refine sc hF rfl rfl rfl en66 rfl (ready_ok B wb p k _ hS.inv hfk hp) ?_; clear hF a; intro v w' a hv hF
     obtain ⟨rfl, hS', ge, gl, hmd⟩ := hv
     replace hS := hS.trans hS'
     clear hS'
     refine sv hF (v_assign rfl) rfl ?_; clear hF a; intro a hF
     refine WL_nil (hK _ _ ?_)
     clear hK K
     replace hF := hF.sub _ (c_ 7 rfl (c_ 40 rfl (c_ 39 rfl (c_ 6 rfl (c_ 0 rfl (c_ 1 rfl (c_ 2 rfl (n_))))))))
     obtain ⟨i, hi, ei, li⟩ := hp.log_of hx (by omega)
     obtain ⟨j, hj, ej, lj⟩ := hp.log_of hy (by omega)
     refine W_sd (m := 18) rfl hmix hS.inv (fun K hK w1 hS' hh => ?_)
     replace hmd := hmd.st hS'
     replace hS := hS.trans hS'
     clear hS'
     clear hh
     refine a_v (i := 0) rfl (by kernel_rfl) hF (fun w2 hx => v_move rfl) rfl ?_; clear hF a; intro a hF
     refine a_v (i := 1) rfl (by kernel_rfl) hF (fun w2 hx => v_move rfl) rfl ?_; clear hF a; intro a hF
     refine a_v (i := 2) rfl (by kernel_rfl) hF (fun w2 hx => v_nil rfl) rfl ?_; clear hF a; intro a hF
     refine a_v (i := 3) rfl (by kernel_rfl) hF (fun w2 hx => v_fieldAddr fa101_2 rfl) rfl ?_; clear hF a; intro a hF
     refine a_v (i := 4) rfl (by kernel_rfl) hF (fun w2 hx => v_load sc37 rfl (hx.made _ _ _ _ _ hmd).c6) rfl ?_; clear hF a; intro a hF
     refine a_v (i := 5) rfl (by kernel_rfl) hF (fun w2 hx => v_move rfl) rfl ?_; clear hF a; intro a hF
     refine a_v (i := 6) rfl (by kernel_rfl) hF (fun w2 hx => v_ixS sl37 rfl rfl (by omega) (by omega)) rfl ?_; clear hF a; intro a hF
     refine a_v (i := 7) rfl (by kernel_rfl) hF (fun w2 hx => v_load sc3 rfl (by rw [toNat_c, Nat.zero_add]; exact (hx.made _ _ _ _ _ hmd).log li)) rfl ?_; clear hF a; intro a hF
     refine a_v (i := 8) rfl (by kernel_rfl) hF (fun w2 hx => v_move rfl) rfl ?_; clear hF a; intro a hF
     refine a_v (i := 9) rfl (by kernel_rfl) hF (fun w2 hx => v_nil rfl) rfl ?_; clear hF a; intro a hF
     refine a_v (i := 10) rfl (by kernel_rfl) hF (fun w2 hx => v_fieldAddr fa101_2 rfl) rfl ?_; clear hF a; intro a hF
     refine a_v (i := 11) rfl (by kernel_rfl) hF (fun w2 hx => v_load sc37 rfl (hx.made _ _ _ _ _ hmd).c6) rfl ?_; clear hF a; intro a hF
     refine a_v (i := 12) rfl (by kernel_rfl) hF (fun w2 hx => v_move rfl) rfl ?_; clear hF a; intro a hF
     refine a_v (i := 13) rfl (by kernel_rfl) hF (fun w2 hx => v_ixS sl37 rfl rfl (by omega) (by omega)) rfl ?_; clear hF a; intro a hF
     refine a_v (i := 14) rfl (by kernel_rfl) hF (fun w2 hx => v_load sc3 rfl (by rw [toNat_c, Nat.zero_add]; exact (hx.made _ _ _ _ _ hmd).log lj)) rfl ?_; clear hF a; intro a hF
     refine a_v (i := 15) rfl (by kernel_rfl) hF (fun w2 hx => v_addI rfl rfl (by omega)) rfl ?_; clear hF a; intro a hF
     refine a_e (i := 16) rfl (by kernel_rfl) ?_
     refine sc hF rfl rfl rfl en67 rfl (Exp_some B wb p k ((i : Int) + (j : Int)) _ hS.inv hmd.fok hp (by omega)) ?_; clear hF a; intro v w' a hv hF
     obtain ⟨rfl, hS'⟩ := hv
     refine WL_nil ⟨hS'.ext, ?_⟩
     replace hmd := hmd.st hS'
     replace hS := hS.trans hS'
     clear hS'
     refine a_v (i := 17) rfl (by kernel_rfl) hF (fun w2 hx => v_assign rfl) rfl ?_; clear hF a; intro a hF
     refine a_done (by kernel_rfl) (hK _ _ ?_)
     clear hK K
     refine W_ret ?_
     refine ⟨_, _, hF, rfl, ?_⟩
     first
      | exact ⟨by rw [gmul_out hc1], hS⟩
      | (subst_vars; exact ⟨by rw [gmul_zl], hS⟩)
      | (subst_vars; exact ⟨by rw [gmul_zr], hS⟩)
      | exact ⟨by rw [gmul_in hx hy, hp.pw_sum ei ej], hS⟩
      | exact ⟨by rw [gmul_in hx hy], hS⟩

theorem powB_prm {wb p X n : Nat} (hp : Prm wb p) : powB X p 1 n = Px.pow X p n := by rw [← hp.mod1, powB_one]

set_option maxRecDepth 100000 in
set_option maxHeartbeats 1000000 in
theorem Pow_gf (B : Nat) (o : Fq) (fv : Value) (ia n : Int) (w : World) (hI : Inv FDx B w) (hf : Fo FDx B w fv o) (hn : -9223372036854775808 ≤ n ∧ n < 9223372036854775808) : Ret Try.prog 42 [fv, .int .i64 ia, .int .i64 n] w fun v w' => v = .int .i64 (gpow o ia n) ∧ St FDx B w w' := by
 refine enter 33 [(0, fv), (1, .int .i64 ia), (2, .int .i64 n)] 6 Try.func42 rfl rfl rfl rfl rfl ?_; intro a hF
 have hS := St.refl hI
 refine W_sr rfl (fun K hK => ?_)
 refine sv hF (v_assign rfl) rfl ?_; clear hF a; intro a hF
 refine WL_nil (hK _ _ ?_)
 clear hK K
 refine W_seq ?_
 refine W_sr rfl (fun K hK => ?_)
 refine sv2 hF (v_move rfl) (v_move rfl) rfl rfl ?_; clear hF a; intro a hF
 refine s_bs (D := FDx) (B := B) hF sl37 rfl rfl (by decide) (by simp [Value.cells]) (by decide) hS.inv rfl ?_; clear hF a; intro w' a hm hI' hb hF
 replace hf := hf.mb hm
 replace hS := hS.mb0 hm
 clear hm hI'
 refine sc hF rfl rfl rfl en64 rfl (in_ok B o fv (some ⟨_, 0, none⟩) 1 [ia] _ hS.inv hf (by simp) (own_in (D := FDx) (B := B) (zs := [ia]) hb (by decide))) ?_; clear hF a; intro v w' a hv hF
 clear hb
 obtain ⟨rfl, rfl⟩ := hv
 have hS' := St.refl hS.inv
 replace hf := hf.st hS'
 replace hS := hS.trans hS'
 clear hS'
 refine sb hF (v_not rfl) rfl ?_ ?_
 ·
  clear hF a; intro hc1 a hF
  try simp only [dcl] at hc1
  refine sv hF (v_move rfl) rfl ?_; clear hF a; intro a hF
  refine svn hF rfl rfl rfl ?_; clear hF a; intro a hF
  refine svn hF rfl rfl rfl ?_; clear hF a; intro a hF
  refine sv hF (v_pickT rfl rfl) rfl ?_; clear hF a; intro a hF
  refine WL_nil (hK _ _ ?_)
  clear hK K
  replace hF := hF.sub _ (c_ 16 rfl (c_ 6 rfl (c_ 0 rfl (c_ 1 rfl (c_ 2 rfl (n_))))))
  refine W_ifT hF rfl ?_
  refine W_sr rfl (fun K hK => ?_)
  refine sv hF (v_assign rfl) rfl ?_; clear hF a; intro a hF
  refine WL_nil (hK _ _ ?_)
  clear hK K
  replace hF := hF.sub _ (c_ 6 rfl (c_ 0 rfl (c_ 1 rfl (c_ 2 rfl (n_)))))
  refine W_ret ?_
  refine ⟨_, _, hF, rfl, ?_⟩
  rw [all1] at hc1
  exact ⟨by rw [gpow_out (.inl hc1)], hS⟩
 ·
  clear hF a; intro hc1 a hF
  try simp only [dcl] at hc1
  refine sv hF (v_move rfl) rfl ?_; clear hF a; intro a hF
  refine svg hF rfl ?_
  refine sv hF (v_move rfl) rfl ?_; clear hF a; intro a hF
  refine svg hF rfl ?_
  refine sv hF (v_lss rfl rfl) rfl ?_; clear hF a; intro a hF
  refine sv hF (v_pickF rfl rfl) rfl ?_; clear hF a; intro a hF
  refine WL_nil (hK _ _ ?_)
  clear hK K
  replace hF := hF.sub _ (c_ 16 rfl (c_ 6 rfl (c_ 0 rfl (c_ 1 rfl (c_ 2 rfl (n_))))))
  refine W_if hF rfl (fun hc2 => ?_) (fun hc2 => ?_)
  ·
   skip
   try simp only [dcl] at hc2
   refine W_sr rfl (fun K hK => ?_)
   refine sv hF (v_assign rfl) rfl ?_; clear hF a; intro a hF
   refine WL_nil (hK _ _ ?_)
   clear hK K
   replace hF := hF.sub _ (c_ 6 rfl (c_ 0 rfl (c_ 1 rfl (c_ 2 rfl (n_)))))
   refine W_ret ?_
   refine ⟨_, _, hF, rfl, ?_⟩
   exact ⟨by rw [gpow_out (.inr (by omega))], hS⟩
  ·
   skip
   try simp only [dcl] at hc2
   refine W_skip ?_
   rw [all1] at hc1
   have hin := hc1
   obtain ⟨wb, p, k, rfl, rfl, hp, hfk⟩ := fo_some hf (a := ia) hin
   obtain ⟨x0, rfl, hx0⟩ := inF_nat hin
   obtain ⟨n0, rfl⟩ : ∃ n0 : Nat, n = (n0 : Int) := ⟨n.toNat, by omega⟩
   have hsz := hp.size
   refine W_sr rfl (fun K hK => ?_)
   refine sv hF (v_assign rfl) rfl ?_; clear hF a; intro a hF
   refine WL_nil (hK _ _ ?_)
   clear hK K
   replace hF := hF.sub _ (c_ 7 rfl (c_ 6 rfl (c_ 0 rfl (c_ 1 rfl (c_ 2 rfl (n_))))))
   refine W_seq ?_
   refine W_block ?_
   refine W_loop (fun m a w1 => ∃ x q : Nat, Fr 33 [(0, .pointer (some ⟨k, 0, none⟩)), (1, .int .i64 (x : Int)), (2, .int .i64 (m : Int)), (7, .int .i64 (q : Int))] a ∧ St FDx B w w1 ∧ Fo FDx B w1 (.pointer (some ⟨k, 0, none⟩)) (some (wb, p)) ∧ powB x p q m = powB x0 p 1 n0 ∧ x < 2 ^ wb ∧ q < 2 ^ wb ∧ m < 9223372036854775808) (n0) ?_ ?_
   ·
    skip
    exact ⟨_, 1, hF.sub _ (c_ 0 rfl (c_ 1 rfl (c_ 2 rfl (c_ 7 rfl n_)))), hS, hf, rfl, hx0, by omega, by omega⟩
   ·
    skip
    clear hF
    clear hS hf hfk
    rintro m a w1 ⟨x, q, hF, hS, hf, hg, hx, hq, hm⟩
    refine W_seq ?_
    refine W_sr rfl (fun K hK => ?_)
    refine sv hF (v_move rfl) rfl ?_; clear hF a; intro a hF
    refine sv hF (v_gtr rfl rfl) rfl ?_; clear hF a; intro a hF
    refine WL_nil (hK _ _ ?_)
    clear hK K
    replace hF := hF.sub _ (c_ 18 rfl (c_ 0 rfl (c_ 1 rfl (c_ 2 rfl (c_ 7 rfl (n_))))))
    refine W_if hF rfl (fun hc3 => ?_) (fun hc3 => ?_)
    ·
     skip
     try simp only [dcl] at hc3
     refine W_skip ?_
     refine W_seq ?_
     refine W_block ?_
     refine W_seq ?_
     refine W_sr rfl (fun K hK => ?_)
     refine sv hF (v_move rfl) rfl ?_; clear hF a; intro a hF
     refine sv hF (v_andN (n := 1) rfl rfl (fits_i64 hm) (fits_i64 (by decide))) rfl ?_; clear hF a; intro a hF
     refine sv hF (v_eql rfl rfl) rfl ?_; clear hF a; intro a hF
     refine WL_nil (hK _ _ ?_)
     clear hK K
     replace hF := hF.sub _ (c_ 23 rfl (c_ 0 rfl (c_ 1 rfl (c_ 2 rfl (c_ 7 rfl (n_))))))
     refine W_if hF rfl (fun hc4 => ?_) (fun hc4 => ?_)
     ·
      skip
      try simp only [dcl] at hc4
      rw [Nat.and_one_is_mod] at hc4
      rw [powB_odd x p q (by omega)] at hg
      have hml := hp.mulMod_lt q x
      refine W_reg rfl (fun K hK => ?_)
      refine sv3 hF (v_move rfl) (v_move rfl) (v_move rfl) rfl rfl rfl ?_; clear hF a; intro a hF
      refine sc hF rfl rfl rfl en29 rfl (Mul_gf B (some (wb, p)) _ q x _ hS.inv hf) ?_; clear hF a; intro v w' a hv hF
      obtain ⟨rfl, hS'⟩ := hv
      replace hf := hf.st hS'
      replace hS := hS.trans hS'
      clear hS'
      rw [gmul_in hq hx] at hF
      refine sv hF (v_assign rfl) rfl ?_; clear hF a; intro a hF
      refine WL_nil (hK _ _ ?_)
      clear hK K
      replace hF := hF.sub _ (c_ 7 rfl (c_ 0 rfl (c_ 1 rfl (c_ 2 rfl (n_)))))
      refine W_reg rfl (fun K hK => ?_)
      refine sv3 hF (v_move rfl) (v_move rfl) (v_move rfl) rfl rfl rfl ?_; clear hF a; intro a hF
      refine sc hF rfl rfl rfl en29 rfl (Mul_gf B (some (wb, p)) _ x x _ hS.inv hf) ?_; clear hF a; intro v w' a hv hF
      obtain ⟨rfl, hS'⟩ := hv
      replace hf := hf.st hS'
      replace hS := hS.trans hS'
      clear hS'
      rw [gmul_in hx hx] at hF
      refine sv hF (v_assign rfl) rfl ?_; clear hF a; intro a hF
      refine WL_nil (hK _ _ ?_)
      clear hK K
      replace hF := hF.sub _ (c_ 1 rfl (c_ 7 rfl (c_ 0 rfl (c_ 2 rfl (n_)))))
      refine W_reg rfl (fun K hK => ?_)
      refine sv hF (v_move rfl) rfl ?_; clear hF a; intro a hF
      refine sv hF (v_shrN (m := m) rfl rfl (by decide)) rfl ?_; clear hF a; intro a hF
      refine sv hF (v_assign rfl) rfl ?_; clear hF a; intro a hF
      refine WL_nil (hK _ _ ?_)
      clear hK K
      exact ⟨m / 2, by omega, _, _, hF.sub _ (c_ 0 rfl (c_ 1 rfl (c_ 2 rfl (c_ 7 rfl n_)))), hS, hf, hg, hp.mulMod_lt _ _, by first | exact hml | exact hq, by omega⟩
     ·
      skip
      try simp only [dcl] at hc4
      rw [Nat.and_one_is_mod] at hc4
      rw [powB_even x p q (by omega) (by omega)] at hg
      refine W_skip ?_
      refine W_reg rfl (fun K hK => ?_)
      refine sv3 hF (v_move rfl) (v_move rfl) (v_move rfl) rfl rfl rfl ?_; clear hF a; intro a hF
      refine sc hF rfl rfl rfl en29 rfl (Mul_gf B (some (wb, p)) _ x x _ hS.inv hf) ?_; clear hF a; intro v w' a hv hF
      obtain ⟨rfl, hS'⟩ := hv
      replace hf := hf.st hS'
      replace hS := hS.trans hS'
      clear hS'
      rw [gmul_in hx hx] at hF
      refine sv hF (v_assign rfl) rfl ?_; clear hF a; intro a hF
      refine WL_nil (hK _ _ ?_)
      clear hK K
      replace hF := hF.sub _ (c_ 1 rfl (c_ 0 rfl (c_ 2 rfl (c_ 7 rfl (n_)))))
      refine W_reg rfl (fun K hK => ?_)
      refine sv hF (v_move rfl) rfl ?_; clear hF a; intro a hF
      refine sv hF (v_shrN (m := m) rfl rfl (by decide)) rfl ?_; clear hF a; intro a hF
      refine sv hF (v_assign rfl) rfl ?_; clear hF a; intro a hF
      refine WL_nil (hK _ _ ?_)
      clear hK K
      exact ⟨m / 2, by omega, _, _, hF.sub _ (c_ 0 rfl (c_ 1 rfl (c_ 2 rfl (c_ 7 rfl n_)))), hS, hf, hg, hp.mulMod_lt _ _, by first | exact hml | exact hq, by omega⟩
    ·
     skip
     try simp only [dcl] at hc3
     obtain rfl : m = 0 := by omega
     rw [powB_zero] at hg
     refine W_exit rfl ?_
     refine W_sr rfl (fun K hK => ?_)
     refine sv2 hF (v_move rfl) (v_assign rfl) rfl rfl ?_; clear hF a; intro a hF
     refine WL_nil (hK _ _ ?_)
     clear hK K
     replace hF := hF.sub _ (c_ 6 rfl (c_ 32 rfl (c_ 0 rfl (c_ 1 rfl (c_ 2 rfl (c_ 7 rfl (n_)))))))
     refine W_ret ?_
     refine ⟨_, _, hF, rfl, ?_⟩
     exact ⟨by rw [gpow_in hx0, hg, powB_prm hp], hS⟩

set_option maxRecDepth 100000 in
set_option maxHeartbeats 1000000 in
theorem Inv_gf (B : Nat) (o : Fq) (fv : Value) (ia : Int) (w : World) (hI : Inv FDx B w) (hf : Fo FDx B w fv o) : Ret Try.prog 46 [fv, .int .i64 ia] w fun v w' => v = .tuple #[.int .i64 (ginv o ia), .bool (ginvb o ia)] ∧ St FDx B w w' := by
 refine enter2 21 [(0, fv), (1, .int .i64 ia)] 4 5 Try.func46 rfl rfl rfl rfl rfl ?_; intro a hF
 have hS := St.refl hI
 refine W_sr rfl (fun K hK => ?_)
 refine sv2 hF (v_assign rfl) (v_assign rfl) rfl rfl ?_; clear hF a; intro a hF
 refine WL_nil (hK _ _ ?_)
 clear hK K
 refine W_seq ?_
 refine W_sr rfl (fun K hK => ?_)
 refine sv2 hF (v_move rfl) (v_move rfl) rfl rfl ?_; clear hF a; intro a hF
 refine s_bs (D := FDx) (B := B) hF sl37 rfl rfl (by decide) (by simp [Value.cells]) (by decide) hS.inv rfl ?_; clear hF a; intro w' a hm hI' hb hF
 replace hf := hf.mb hm
 replace hS := hS.mb0 hm
 clear hm hI'
 refine sc hF rfl rfl rfl en64 rfl (in_ok B o fv (some ⟨_, 0, none⟩) 1 [ia] _ hS.inv hf (by simp) (own_in (D := FDx) (B := B) (zs := [ia]) hb (by decide))) ?_; clear hF a; intro v w' a hv hF
 clear hb
 obtain ⟨rfl, rfl⟩ := hv
 have hS' := St.refl hS.inv
 replace hf := hf.st hS'
 replace hS := hS.trans hS'
 clear hS'
 refine sb hF (v_not rfl) rfl ?_ ?_
 ·
  clear hF a; intro hc1 a hF
  try simp only [dcl] at hc1
  refine sv hF (v_move rfl) rfl ?_; clear hF a; intro a hF
  refine svn hF rfl rfl rfl ?_; clear hF a; intro a hF
  refine svn hF rfl rfl rfl ?_; clear hF a; intro a hF
  refine sv hF (v_pickT rfl rfl) rfl ?_; clear hF a; intro a hF
  refine WL_nil (hK _ _ ?_)
  clear hK K
  replace hF := hF.sub _ (c_ 14 rfl (c_ 5 rfl (c_ 4 rfl (c_ 0 rfl (c_ 1 rfl (n_))))))
  refine W_ifT hF rfl ?_
  refine W_sr rfl (fun K hK => ?_)
  refine sv2 hF (v_assign rfl) (v_assign rfl) rfl rfl ?_; clear hF a; intro a hF
  refine WL_nil (hK _ _ ?_)
  clear hK K
  replace hF := hF.sub _ (c_ 5 rfl (c_ 4 rfl (c_ 0 rfl (c_ 1 rfl (n_)))))
  refine W_ret ?_
  refine ⟨_, _, _, hF, rfl, rfl, ?_⟩
  rw [all1] at hc1
  exact ⟨by rw [ginv_out (.inl hc1), ginvb_out (.inl hc1)], hS⟩
 ·
  clear hF a; intro hc1 a hF
  try simp only [dcl] at hc1
  refine sv hF (v_move rfl) rfl ?_; clear hF a; intro a hF
  refine svg hF rfl ?_
  refine sv hF (v_move rfl) rfl ?_; clear hF a; intro a hF
  refine svg hF rfl ?_
  refine sv hF (v_eql rfl rfl) rfl ?_; clear hF a; intro a hF
  refine sv hF (v_pickF rfl rfl) rfl ?_; clear hF a; intro a hF
  refine WL_nil (hK _ _ ?_)
  clear hK K
  replace hF := hF.sub _ (c_ 14 rfl (c_ 5 rfl (c_ 4 rfl (c_ 0 rfl (c_ 1 rfl (n_))))))
  refine W_if hF rfl (fun hc2 => ?_) (fun hc2 => ?_)
  ·
   skip
   try simp only [dcl] at hc2
   refine W_sr rfl (fun K hK => ?_)
   refine sv2 hF (v_assign rfl) (v_assign rfl) rfl rfl ?_; clear hF a; intro a hF
   refine WL_nil (hK _ _ ?_)
   clear hK K
   replace hF := hF.sub _ (c_ 5 rfl (c_ 4 rfl (c_ 0 rfl (c_ 1 rfl (n_)))))
   refine W_ret ?_
   refine ⟨_, _, _, hF, rfl, rfl, ?_⟩
   exact ⟨by rw [ginv_out (.inr (by omega)), ginvb_out (.inr (by omega))], hS⟩
  ·
   skip
   try simp only [dcl] at hc2
   refine W_skip ?_
   rw [all1] at hc1
   have hsz := fsz_le hf
   refine W_sr rfl (fun K hK => ?_)
   refine sv3 hF (v_move rfl) (v_move rfl) (v_move rfl) rfl rfl rfl ?_; clear hF a; intro a hF
   refine sc hF rfl rfl rfl en53 rfl (Size_ok B o fv _ hf) ?_; clear hF a; intro v w' a hv hF
   obtain ⟨rfl, rfl⟩ := hv
   have hS' := St.refl hS.inv
   replace hf := hf.st hS'
   replace hS := hS.trans hS'
   clear hS'
   refine sv hF (v_subI rfl rfl (by omega)) rfl ?_; clear hF a; intro a hF
   refine sc hF rfl rfl rfl en42 rfl (Pow_gf B o fv ia ((fsz o : Int) - 2) _ hS.inv hf (by omega)) ?_; clear hF a; intro v w' a hv hF
   obtain ⟨rfl, hS'⟩ := hv
   replace hf := hf.st hS'
   replace hS := hS.trans hS'
   clear hS'
   refine sv2 hF (v_assign rfl) (v_assign rfl) rfl rfl ?_; clear hF a; intro a hF
   refine WL_nil (hK _ _ ?_)
   clear hK K
   replace hF := hF.sub _ (c_ 5 rfl (c_ 4 rfl (n_)))
   refine W_ret ?_
   refine ⟨_, _, _, hF, rfl, rfl, ?_⟩
   exact ⟨by rw [ginv_in hc1 (by omega), ginvb_in hc1 (by omega)], hS⟩

end Go.Proofs.Ytaeljbdpjiciaaa

/- The walks of package matrix: whether rows are a matrix; rows copied; the identity. -/
set_option linter.unusedVariables false
set_option linter.unusedSimpArgs false
namespace Go.Proofs.Ytaeljbdpjiciaaa
open Go Go.Gam


namespace FxFMatA
theorem en53 : Ent Try.prog 53 := ent Try.func53 (by kernel_rfl) (by kernel_rfl)
theorem en68 : Ent Try.prog 68 := ent Try.func68 (by kernel_rfl) (by kernel_rfl)
theorem en86 : Ent Try.prog 86 := ent Try.func86 (by kernel_rfl) (by kernel_rfl)
theorem en88 : Ent Try.prog 88 := ent Try.func88 (by kernel_rfl) (by kernel_rfl)
theorem en92 : Ent Try.prog 92 := ent Try.func92 (by kernel_rfl) (by kernel_rfl)
theorem en110 : Ent Try.prog 110 := ent Try.func110 (by kernel_rfl) (by kernel_rfl)
theorem sc23 : Scalar Try.prog 23 := ⟨_, Try.underlying23, by simp, by simp⟩
theorem sc28 : Scalar Try.prog 28 := ⟨_, Try.underlying28, by simp, by simp⟩
theorem sc3 : Scalar Try.prog 3 := ⟨_, Try.underlying3, by simp, by simp⟩
theorem sc37 : Scalar Try.prog 37 := ⟨_, Try.underlying37, by simp, by simp⟩
theorem sl28 : Sl Try.prog 28 37 (.slice none 0 0) 24 := sl_of Try.underlying28 rfl (by kernel_rfl)
theorem sl37 : Sl Try.prog 37 3 (.int .i64 0) 8 := sl_of Try.underlying37 rfl (by kernel_rfl)
end FxFMatA
open FxFMatA

set_option maxRecDepth 100000 in
set_option maxHeartbeats 1000000 in
theorem within_ok (n : Int) (w : World) : Ret Try.prog 68 [.int .i64 n] w fun v w' => v = .bool (decide (1 ≤ n ∧ n ≤ 20)) ∧ w' = w := by
 refine enter 9 [(0, .int .i64 n)] 2 Try.func68 rfl rfl rfl rfl rfl ?_; intro a hF
 refine W_sr rfl (fun K hK => ?_)
 refine sv hF (v_assign rfl) rfl ?_; clear hF a; intro a hF
 refine WL_nil (hK _ _ ?_)
 clear hK K
 refine W_sr rfl (fun K hK => ?_)
 refine sv hF (v_move rfl) rfl ?_; clear hF a; intro a hF
 refine sb hF (v_geq rfl rfl) rfl ?_ ?_
 ·
  clear hF a; intro hc1 a hF
  try simp only [dcl] at hc1
  refine sv hF (v_move rfl) rfl ?_; clear hF a; intro a hF
  refine svg hF rfl ?_
  refine sv hF (v_move rfl) rfl ?_; clear hF a; intro a hF
  refine svg hF rfl ?_
  refine sv hF (v_leq rfl rfl) rfl ?_; clear hF a; intro a hF
  refine sv2 hF (v_pickT rfl rfl) (v_assign rfl) rfl rfl ?_; clear hF a; intro a hF
  refine WL_nil (hK _ _ ?_)
  clear hK K
  replace hF := hF.sub _ (c_ 2 rfl (n_))
  refine W_ret ?_
  refine ⟨_, _, hF, rfl, ?_⟩
  exact ⟨by congr 1; first | (rw [decide_eq_decide]; omega) | (symm; rw [decide_eq_false_iff_not]; omega) | (symm; rw [decide_eq_true_iff]; omega), rfl⟩
 ·
  clear hF a; intro hc1 a hF
  try simp only [dcl] at hc1
  refine sv hF (v_move rfl) rfl ?_; clear hF a; intro a hF
  refine svn hF rfl rfl rfl ?_; clear hF a; intro a hF
  refine svn hF rfl rfl rfl ?_; clear hF a; intro a hF
  refine sv2 hF (v_pickF rfl rfl) (v_assign rfl) rfl rfl ?_; clear hF a; intro a hF
  refine WL_nil (hK _ _ ?_)
  clear hK K
  replace hF := hF.sub _ (c_ 2 rfl (n_))
  refine W_ret ?_
  refine ⟨_, _, hF, rfl, ?_⟩
  exact ⟨by congr 1; first | (rw [decide_eq_decide]; omega) | (symm; rw [decide_eq_false_iff_not]; omega) | (symm; rw [decide_eq_true_iff]; omega), rfl⟩

set_option maxRecDepth 100000 in
set_option maxHeartbeats 1000000 in
theorem May11_ok (B : Nat) (o : Fq) (fv : Value) (pf : Nat) (x : Int) (w : World) (hI : Inv FDx B w) (hf : Fo FDx B w fv o) (hk : KC FDx B w ⟨pf, 0, none⟩ fv) : Ret Try.prog 89 [.int .i64 x, .pointer (some ⟨pf, 0, none⟩)] w fun v w' => v = .bool (!inF o x) ∧ St FDx B w w' := by
 refine enter 12 [(0, .int .i64 x), (1, .pointer (some ⟨pf, 0, none⟩))] 3 Try.func89 rfl rfl rfl rfl rfl ?_; intro a hF
 have hS := St.refl hI
 refine W_sr rfl (fun K hK => ?_)
 refine sv hF (v_assign rfl) rfl ?_; clear hF a; intro a hF
 refine WL_nil (hK _ _ ?_)
 clear hK K
 refine W_sr rfl (fun K hK => ?_)
 refine sv hF (v_move rfl) rfl ?_; clear hF a; intro a hF
 refine sb hF (v_lss rfl rfl) rfl ?_ ?_
 ·
  clear hF a; intro hc1 a hF
  try simp only [dcl] at hc1
  refine sv hF (v_move rfl) rfl ?_; clear hF a; intro a hF
  refine svn hF rfl rfl rfl ?_; clear hF a; intro a hF
  refine svn hF rfl rfl rfl ?_; clear hF a; intro a hF
  refine svn hF rfl rfl rfl ?_; clear hF a; intro a hF
  refine svn hF rfl rfl rfl ?_; clear hF a; intro a hF
  refine sv2 hF (v_pickT rfl rfl) (v_assign rfl) rfl rfl ?_; clear hF a; intro a hF
  refine WL_nil (hK _ _ ?_)
  clear hK K
  replace hF := hF.sub _ (c_ 3 rfl (n_))
  refine W_ret ?_
  refine ⟨_, _, hF, rfl, ?_⟩
  exact ⟨by congr 1; unfold inF; first | (symm; rw [Bool.not_eq_true', decide_eq_false_iff_not]; omega) | (rw [← decide_not, decide_eq_decide]; omega), hS⟩
 ·
  clear hF a; intro hc1 a hF
  try simp only [dcl] at hc1
  refine sv hF (v_move rfl) rfl ?_; clear hF a; intro a hF
  refine svg hF rfl ?_
  refine sv hF (v_move rfl) rfl ?_; clear hF a; intro a hF
  refine svg hF rfl ?_
  refine sv hF (v_load sc23 rfl (by first | assumption | (rw [toNat_c]; assumption) | exact KC.c (by assumption) | (rw [toNat_c]; exact KC.c (by assumption)) | exact Box.at (by assumption))) rfl ?_; clear hF a; intro a hF
  refine svg hF rfl ?_
  refine sc hF rfl rfl rfl en53 rfl (Size_ok B o fv _ hf) ?_; clear hF a; intro v w' a hv hF
  obtain ⟨rfl, hw⟩ := hv
  obtain rfl := hw.symm
  have hS' := St.refl hS.inv
  replace hS := hS.trans hS'
  clear hS'
  refine svg hF rfl ?_
  refine sv hF (v_geq rfl rfl) rfl ?_; clear hF a; intro a hF
  refine sv2 hF (v_pickF rfl rfl) (v_assign rfl) rfl rfl ?_; clear hF a; intro a hF
  refine WL_nil (hK _ _ ?_)
  clear hK K
  replace hF := hF.sub _ (c_ 3 rfl (n_))
  refine W_ret ?_
  refine ⟨_, _, hF, rfl, ?_⟩
  exact ⟨by congr 1; unfold inF; first | (symm; rw [Bool.not_eq_true', decide_eq_false_iff_not]; omega) | (rw [← decide_not, decide_eq_decide]; omega), hS⟩

set_option maxRecDepth 100000 in
set_option maxHeartbeats 1000000 in
theorem IdxI_ok (B M : Nat) (g : FuncId) (lb : List Value) (p : Int → Bool) (pxs : Option Addr) (cxs : Nat) (xs : List Int) (w : World) (hI : Inv FDx B w) (hx : Row FDx B M w (.slice pxs xs.length cxs) (zints xs)) (hl : xs.length ≤ maxLen) (eg : Ent Try.prog g) (hc : ∀ x ∈ xs, ∀ w1, St FDx B w w1 → Ret Try.prog g (.int .i64 x :: lb) w1 fun v w' => v = .bool (p x) ∧ St FDx B w1 w') : Ret Try.prog 110 [.slice pxs xs.length cxs, .func (.func g) ([] : List Value).toArray (lb : List Value).toArray] w fun v w' => v = .int .i64 (idxZ p xs) ∧ St FDx B w w' := by
 refine enter 19 [(0, .slice pxs xs.length cxs), (1, .func (.func g) ([] : List Value).toArray (lb : List Value).toArray)] 4 Try.func110 rfl rfl rfl rfl rfl ?_; intro a hF
 have hS := St.refl hI
 have hl2 := hl
 simp only [maxLen] at hl2
 refine W_sr rfl (fun K hK => ?_)
 refine sv hF (v_assign rfl) rfl ?_; clear hF a; intro a hF
 refine WL_nil (hK _ _ ?_)
 clear hK K
 refine W_seq ?_
 refine W_sr rfl (fun K hK => ?_)
 refine sv hF (v_move rfl) rfl ?_; clear hF a; intro a hF
 refine sv hF (v_lenS rfl sl37 rfl) rfl ?_; clear hF a; intro a hF
 refine sv hF (v_move rfl) rfl ?_; clear hF a; intro a hF
 refine WL_nil (hK _ _ ?_)
 clear hK K
 replace hF := hF.sub _ (c_ 8 rfl (c_ 7 rfl (c_ 4 rfl (c_ 0 rfl (c_ 1 rfl (n_))))))
 refine W_block ?_
 refine W_loop (fun m a w1 => ∃ (i : Nat), Fr 19 [(0, .slice pxs xs.length cxs), (1, .func (.func g) ([] : List Value).toArray (lb : List Value).toArray), (7, .int .i64 (xs.length : Int)), (8, .int .i64 (i : Int))] a ∧ (St FDx B w w1) ∧ (Row FDx B M w1 (.slice pxs xs.length cxs) (zints xs)) ∧ (i ≤ xs.length) ∧ (∀ y ∈ xs.take i, p y = false) ∧ (m + i = xs.length)) (xs.length) ?_ ?_
 ·
  skip
  exact ⟨0, hF.sub _ (c_ 0 rfl (c_ 1 rfl (c_ 7 rfl (c_ 8 rfl (n_))))), hS, hx, by omega, by simp, by omega⟩
 ·
  skip
  clear hF
  clear hS hx
  rintro m a w1 ⟨i, hF, hS, hx, hi, hn, hm⟩
  refine W_sr rfl (fun K hK => ?_)
  refine sv hF (v_lss rfl rfl) rfl ?_; clear hF a; intro a hF
  refine WL_nil (hK _ _ ?_)
  clear hK K
  refine W_seq ?_
  refine W_if hF rfl (fun hc1 => ?_) (fun hc1 => ?_)
  ·
   skip
   try simp only [dcl] at hc1
   have hlt : i < xs.length := by omega
   obtain ⟨z, hz⟩ : ∃ z, xs[i]? = some z := ⟨_, List.getElem?_eq_getElem hlt⟩
   obtain ⟨gx, ox, hgx, hkc, -⟩ := hx.kat (zints_at hz)
   subst hgx
   refine W_skip ?_
   refine W_seq ?_
   refine W_block ?_
   refine W_sr rfl (fun K hK => ?_)
   refine sv2 hF (v_move rfl) (v_assign rfl) rfl rfl ?_; clear hF a; intro a hF
   refine WL_nil (hK _ _ ?_)
   clear hK K
   replace hF := hF.sub _ (c_ 5 rfl (c_ 0 rfl (c_ 1 rfl (c_ 7 rfl (c_ 8 rfl (n_))))))
   refine W_sr rfl (fun K hK => ?_)
   refine sv3 hF (v_move rfl) (v_move rfl) (v_move rfl) rfl rfl rfl ?_; clear hF a; intro a hF
   refine sv hF (v_ixS sl37 rfl rfl (by omega) (by omega)) rfl ?_; clear hF a; intro a hF
   refine sv hF (v_load sc3 rfl (by first | assumption | (rw [toNat_c]; assumption) | exact KC.c (by assumption) | (rw [toNat_c]; exact KC.c (by assumption)) | exact Box.at (by assumption))) rfl ?_; clear hF a; intro a hF
   refine sc hF rfl rfl rfl eg rfl (hc z (List.mem_of_getElem? hz) _ hS) ?_; clear hF a; intro v w' a hv hF
   obtain ⟨rfl, hS'⟩ := hv
   replace hx := hx.st hS'
   replace hS := hS.trans hS'
   clear hS'
   refine WL_nil (hK _ _ ?_)
   clear hK K
   replace hF := hF.sub _ (c_ 16 rfl (c_ 5 rfl (c_ 0 rfl (c_ 1 rfl (c_ 7 rfl (c_ 8 rfl (n_)))))))
   refine W_if hF rfl (fun hc2 => ?_) (fun hc2 => ?_)
   ·
    skip
    try simp only [dcl] at hc2
    refine W_sr rfl (fun K hK => ?_)
    refine sv2 hF (v_move rfl) (v_assign rfl) rfl rfl ?_; clear hF a; intro a hF
    refine WL_nil (hK _ _ ?_)
    clear hK K
    replace hF := hF.sub _ (c_ 4 rfl (c_ 0 rfl (c_ 1 rfl (c_ 7 rfl (c_ 8 rfl (n_))))))
    refine W_ret ?_
    refine ⟨_, _, hF, rfl, ?_⟩
    exact ⟨by rw [idxZ_at hn hz hc2], hS⟩
   ·
    skip
    try simp only [dcl] at hc2
    refine W_skip ?_
    refine W_reg rfl (fun K hK => ?_)
    refine sv hF (v_addI rfl rfl (by omega)) rfl ?_; clear hF a; intro a hF
    refine sv hF (v_move rfl) rfl ?_; clear hF a; intro a hF
    refine WL_nil (hK _ _ ?_)
    clear hK K
    replace hF := hF.sub _ (c_ 8 rfl (c_ 18 rfl (c_ 0 rfl (c_ 1 rfl (c_ 7 rfl (n_))))))
    exact ⟨m - 1, by omega, i + 1, hF.sub _ (c_ 0 rfl (c_ 1 rfl (c_ 7 rfl (c_ 8 rfl (n_))))), hS, hx, by omega, take_snoc_no hn hz hc2, by omega⟩
  ·
   skip
   try simp only [dcl] at hc1
   refine W_exit rfl ?_
   refine W_sr rfl (fun K hK => ?_)
   refine sv hF (v_assign rfl) rfl ?_; clear hF a; intro a hF
   refine WL_nil (hK _ _ ?_)
   clear hK K
   replace hF := hF.sub _ (c_ 4 rfl (c_ 0 rfl (c_ 1 rfl (c_ 7 rfl (c_ 8 rfl (n_))))))
   refine W_ret ?_
   refine ⟨_, _, hF, rfl, ?_⟩
   exact ⟨by rw [idxZ_no (p := p) (xs := xs) (by rw [List.take_of_length_le (by omega)] at hn; exact hn)], hS⟩

set_option maxRecDepth 100000 in
set_option maxHeartbeats 1000000 in
theorem AnyI_ok (B M : Nat) (g : FuncId) (lb : List Value) (p : Int → Bool) (pxs : Option Addr) (cxs : Nat) (xs : List Int) (w : World) (hI : Inv FDx B w) (hx : Row FDx B M w (.slice pxs xs.length cxs) (zints xs)) (hl : xs.length ≤ maxLen) (eg : Ent Try.prog g) (hc : ∀ x ∈ xs, ∀ w1, St FDx B w w1 → Ret Try.prog g (.int .i64 x :: lb) w1 fun v w' => v = .bool (p x) ∧ St FDx B w1 w') : Ret Try.prog 88 [.slice pxs xs.length cxs, .func (.func g) ([] : List Value).toArray (lb : List Value).toArray] w fun v w' => v = .bool (xs.any p) ∧ St FDx B w w' := by
 refine enter 9 [(0, .slice pxs xs.length cxs), (1, .func (.func g) ([] : List Value).toArray (lb : List Value).toArray)] 4 Try.func88 rfl rfl rfl rfl rfl ?_; intro a hF
 have hS := St.refl hI
 refine W_sr rfl (fun K hK => ?_)
 refine sv hF (v_assign rfl) rfl ?_; clear hF a; intro a hF
 refine WL_nil (hK _ _ ?_)
 clear hK K
 refine W_sr rfl (fun K hK => ?_)
 refine sv2 hF (v_move rfl) (v_move rfl) rfl rfl ?_; clear hF a; intro a hF
 refine sc hF rfl rfl rfl en110 rfl (IdxI_ok B M g lb p pxs cxs xs _ hS.inv hx hl eg hc) ?_; clear hF a; intro v w' a hv hF
 obtain ⟨rfl, hS'⟩ := hv
 replace hS := hS.trans hS'
 clear hS'
 refine sv hF (v_geq rfl rfl) rfl ?_; clear hF a; intro a hF
 refine sv hF (v_assign rfl) rfl ?_; clear hF a; intro a hF
 refine WL_nil (hK _ _ ?_)
 clear hK K
 replace hF := hF.sub _ (c_ 4 rfl (n_))
 refine W_ret ?_
 refine ⟨_, _, hF, rfl, ?_⟩
 exact ⟨by rw [← idxZ_any], hS⟩

set_option maxRecDepth 100000 in
set_option maxHeartbeats 1000000 in
theorem IdxR_ok (B M : Nat) (g : FuncId) (lb : List Value) (p : List Int → Bool) (pmt : Option Addr) (cmt : Nat) (mt : Mtx) (w : World) (hI : Inv FDx B w) (hA : Mat FDx B M w pmt cmt mt) (hl : mt.length ≤ maxLen) (eg : Ent Try.prog g) (hc : ∀ r ∈ mt, ∀ pr cr w1, St FDx B w w1 → Row FDx B M w1 (.slice pr r.length cr) (zints r) → Ret Try.prog g (.slice pr r.length cr :: lb) w1 fun v w' => v = .bool (p r) ∧ St FDx B w1 w') : Ret Try.prog 92 [.slice pmt mt.length cmt, .func (.func g) ([] : List Value).toArray (lb : List Value).toArray] w fun v w' => v = .int .i64 (idxZ p mt) ∧ St FDx B w w' := by
 refine enter 19 [(0, .slice pmt mt.length cmt), (1, .func (.func g) ([] : List Value).toArray (lb : List Value).toArray)] 4 Try.func92 rfl rfl rfl rfl rfl ?_; intro a hF
 have hS := St.refl hI
 have hl2 := hl
 simp only [maxLen] at hl2
 refine W_sr rfl (fun K hK => ?_)
 refine sv hF (v_assign rfl) rfl ?_; clear hF a; intro a hF
 refine WL_nil (hK _ _ ?_)
 clear hK K
 refine W_seq ?_
 refine W_sr rfl (fun K hK => ?_)
 refine sv hF (v_move rfl) rfl ?_; clear hF a; intro a hF
 refine sv hF (v_lenS rfl sl28 rfl) rfl ?_; clear hF a; intro a hF
 refine sv hF (v_move rfl) rfl ?_; clear hF a; intro a hF
 refine WL_nil (hK _ _ ?_)
 clear hK K
 replace hF := hF.sub _ (c_ 8 rfl (c_ 7 rfl (c_ 4 rfl (c_ 0 rfl (c_ 1 rfl (n_))))))
 refine W_block ?_
 refine W_loop (fun m a w1 => ∃ (i : Nat), Fr 19 [(0, .slice pmt mt.length cmt), (1, .func (.func g) ([] : List Value).toArray (lb : List Value).toArray), (7, .int .i64 (mt.length : Int)), (8, .int .i64 (i : Int))] a ∧ (St FDx B w w1) ∧ (Mat FDx B M w1 pmt cmt mt) ∧ (i ≤ mt.length) ∧ (∀ y ∈ mt.take i, p y = false) ∧ (m + i = mt.length)) (mt.length) ?_ ?_
 ·
  skip
  exact ⟨0, hF.sub _ (c_ 0 rfl (c_ 1 rfl (c_ 7 rfl (c_ 8 rfl (n_))))), hS, hA, by omega, by simp, by omega⟩
 ·
  skip
  clear hF
  clear hS hA
  rintro m a w1 ⟨i, hF, hS, hA, hi, hn, hm⟩
  refine W_sr rfl (fun K hK => ?_)
  refine sv hF (v_lss rfl rfl) rfl ?_; clear hF a; intro a hF
  refine WL_nil (hK _ _ ?_)
  clear hK K
  refine W_seq ?_
  refine W_if hF rfl (fun hc1 => ?_) (fun hc1 => ?_)
  ·
   skip
   try simp only [dcl] at hc1
   have hlt : i < mt.length := by omega
   obtain ⟨r, hr⟩ : ∃ z, mt[i]? = some z := ⟨_, List.getElem?_eq_getElem hlt⟩
   obtain ⟨gx, ox, pr, cr, hgx, hkc, hrow, -⟩ := hA.row hr
   subst hgx
   refine W_skip ?_
   refine W_seq ?_
   refine W_block ?_
   refine W_sr rfl (fun K hK => ?_)
   refine sv2 hF (v_move rfl) (v_assign rfl) rfl rfl ?_; clear hF a; intro a hF
   refine WL_nil (hK _ _ ?_)
   clear hK K
   replace hF := hF.sub _ (c_ 5 rfl (c_ 0 rfl (c_ 1 rfl (c_ 7 rfl (c_ 8 rfl (n_))))))
   refine W_sr rfl (fun K hK => ?_)
   refine sv3 hF (v_move rfl) (v_move rfl) (v_move rfl) rfl rfl rfl ?_; clear hF a; intro a hF
   refine sv hF (v_ixS sl28 rfl rfl (by omega) (by omega)) rfl ?_; clear hF a; intro a hF
   refine sv hF (v_load sc37 rfl (by first | assumption | (rw [toNat_c]; assumption) | exact KC.c (by assumption) | (rw [toNat_c]; exact KC.c (by assumption)) | exact Box.at (by assumption))) rfl ?_; clear hF a; intro a hF
   refine sc hF rfl rfl rfl eg rfl (hc r (List.mem_of_getElem? hr) pr cr _ hS hrow) ?_; clear hF a; intro v w' a hv hF
   obtain ⟨rfl, hS'⟩ := hv
   replace hA := hA.st hS'
   replace hS := hS.trans hS'
   clear hS'
   refine WL_nil (hK _ _ ?_)
   clear hK K
   replace hF := hF.sub _ (c_ 16 rfl (c_ 5 rfl (c_ 0 rfl (c_ 1 rfl (c_ 7 rfl (c_ 8 rfl (n_)))))))
   refine W_if hF rfl (fun hc2 => ?_) (fun hc2 => ?_)
   ·
    skip
    try simp only [dcl] at hc2
    refine W_sr rfl (fun K hK => ?_)
    refine sv2 hF (v_move rfl) (v_assign rfl) rfl rfl ?_; clear hF a; intro a hF
    refine WL_nil (hK _ _ ?_)
    clear hK K
    replace hF := hF.sub _ (c_ 4 rfl (c_ 0 rfl (c_ 1 rfl (c_ 7 rfl (c_ 8 rfl (n_))))))
    refine W_ret ?_
    refine ⟨_, _, hF, rfl, ?_⟩
    exact ⟨by rw [idxZ_at hn hr hc2], hS⟩
   ·
    skip
    try simp only [dcl] at hc2
    refine W_skip ?_
    refine W_reg rfl (fun K hK => ?_)
    refine sv hF (v_addI rfl rfl (by omega)) rfl ?_; clear hF a; intro a hF
    refine sv hF (v_move rfl) rfl ?_; clear hF a; intro a hF
    refine WL_nil (hK _ _ ?_)
    clear hK K
    replace hF := hF.sub _ (c_ 8 rfl (c_ 18 rfl (c_ 0 rfl (c_ 1 rfl (c_ 7 rfl (n_))))))
    exact ⟨m - 1, by omega, i + 1, hF.sub _ (c_ 0 rfl (c_ 1 rfl (c_ 7 rfl (c_ 8 rfl (n_))))), hS, hA, by omega, take_snoc_no hn hr hc2, by omega⟩
  ·
   skip
   try simp only [dcl] at hc1
   refine W_exit rfl ?_
   refine W_sr rfl (fun K hK => ?_)
   refine sv hF (v_assign rfl) rfl ?_; clear hF a; intro a hF
   refine WL_nil (hK _ _ ?_)
   clear hK K
   replace hF := hF.sub _ (c_ 4 rfl (c_ 0 rfl (c_ 1 rfl (c_ 7 rfl (c_ 8 rfl (n_))))))
   refine W_ret ?_
   refine ⟨_, _, hF, rfl, ?_⟩
   exact ⟨by rw [idxZ_no (p := p) (xs := mt) (by rw [List.take_of_length_le (by omega)] at hn; exact hn)], hS⟩

set_option maxRecDepth 100000 in
set_option maxHeartbeats 1000000 in
theorem AnyR_ok (B M : Nat) (g : FuncId) (lb : List Value) (p : List Int → Bool) (pmt : Option Addr) (cmt : Nat) (mt : Mtx) (w : World) (hI : Inv FDx B w) (hA : Mat FDx B M w pmt cmt mt) (hl : mt.length ≤ maxLen) (eg : Ent Try.prog g) (hc : ∀ r ∈ mt, ∀ pr cr w1, St FDx B w w1 → Row FDx B M w1 (.slice pr r.length cr) (zints r) → Ret Try.prog g (.slice pr r.length cr :: lb) w1 fun v w' => v = .bool (p r) ∧ St FDx B w1 w') : Ret Try.prog 86 [.slice pmt mt.length cmt, .func (.func g) ([] : List Value).toArray (lb : List Value).toArray] w fun v w' => v = .bool (mt.any p) ∧ St FDx B w w' := by
 refine enter 9 [(0, .slice pmt mt.length cmt), (1, .func (.func g) ([] : List Value).toArray (lb : List Value).toArray)] 4 Try.func86 rfl rfl rfl rfl rfl ?_; intro a hF
 have hS := St.refl hI
 refine W_sr rfl (fun K hK => ?_)
 refine sv hF (v_assign rfl) rfl ?_; clear hF a; intro a hF
 refine WL_nil (hK _ _ ?_)
 clear hK K
 refine W_sr rfl (fun K hK => ?_)
 refine sv2 hF (v_move rfl) (v_move rfl) rfl rfl ?_; clear hF a; intro a hF
 refine sc hF rfl rfl rfl en92 rfl (IdxR_ok B M g lb p pmt cmt mt _ hS.inv hA hl eg hc) ?_; clear hF a; intro v w' a hv hF
 obtain ⟨rfl, hS'⟩ := hv
 replace hS := hS.trans hS'
 clear hS'
 refine sv hF (v_geq rfl rfl) rfl ?_; clear hF a; intro a hF
 refine sv hF (v_assign rfl) rfl ?_; clear hF a; intro a hF
 refine WL_nil (hK _ _ ?_)
 clear hK K
 replace hF := hF.sub _ (c_ 4 rfl (n_))
 refine W_ret ?_
 refine ⟨_, _, hF, rfl, ?_⟩
 exact ⟨by rw [← idxZ_any], hS⟩

set_option maxRecDepth 100000 in
set_option maxHeartbeats 1000000 in
theorem May1_ok (B M : Nat) (o : Fq) (fv : Value) (pf pa : Nat) (sa : Option Addr) (ca : Nat) (mt : Mtx) (r0 : List Int) (pr : Option Addr) (cr : Nat) (r : List Int) (w : World) (hI : Inv FDx B w) (hf : Fo FDx B w fv o) (hkf : KC FDx B w ⟨pf, 0, none⟩ fv) (hka : KC FDx B w ⟨pa, 0, none⟩ (.slice sa mt.length ca)) (hA : Mat FDx B M w sa ca mt) (h0 : mt[0]? = some r0) (hr : Row FDx B M w (.slice pr r.length cr) (zints r)) (hrl : r.length ≤ maxLen) : Ret Try.prog 87 [.slice pr r.length cr, .pointer (some ⟨pa, 0, none⟩), .pointer (some ⟨pf, 0, none⟩)] w fun v w' => v = .bool ((fun r => decide (r.length ≠ r0.length) || r.any fun x => !inF o x) r) ∧ St FDx B w w' := by
 refine enter 17 [(0, .slice pr r.length cr), (1, .pointer (some ⟨pa, 0, none⟩)), (2, .pointer (some ⟨pf, 0, none⟩))] 4 Try.func87 rfl rfl rfl rfl rfl ?_; intro a hF
 have hS := St.refl hI
 obtain ⟨g0, o0, pr0, cr0, hg0, hk0, hrow0, -⟩ := hA.row h0
 subst hg0
 have hml := (List.getElem?_eq_some_iff.1 h0).1
 refine W_sr rfl (fun K hK => ?_)
 refine sv hF (v_assign rfl) rfl ?_; clear hF a; intro a hF
 refine WL_nil (hK _ _ ?_)
 clear hK K
 refine W_sr rfl (fun K hK => ?_)
 refine sv hF (v_move rfl) rfl ?_; clear hF a; intro a hF
 refine sv hF (v_lenS rfl sl37 rfl) rfl ?_; clear hF a; intro a hF
 refine sv hF (v_load sc28 rfl (by first | assumption | (rw [toNat_c]; assumption) | exact KC.c (by assumption) | (rw [toNat_c]; exact KC.c (by assumption)) | exact Box.at (by assumption))) rfl ?_; clear hF a; intro a hF
 refine sv hF (v_ixS sl28 rfl rfl (by decide) (by omega)) rfl ?_; clear hF a; intro a hF
 refine sv hF (v_load sc37 rfl hk0.c) rfl ?_; clear hF a; intro a hF
 refine sv hF (v_lenS rfl sl37 rfl) rfl ?_; clear hF a; intro a hF
 refine sb hF (v_neq rfl rfl) rfl ?_ ?_
 ·
  clear hF a; intro hc1 a hF
  try simp only [dcl] at hc1
  refine sv hF (v_move rfl) rfl ?_; clear hF a; intro a hF
  refine svn hF rfl rfl rfl ?_; clear hF a; intro a hF
  refine svn hF rfl rfl rfl ?_; clear hF a; intro a hF
  refine svn hF rfl rfl rfl ?_; clear hF a; intro a hF
  refine sv2 hF (v_pickT rfl rfl) (v_assign rfl) rfl rfl ?_; clear hF a; intro a hF
  refine WL_nil (hK _ _ ?_)
  clear hK K
  replace hF := hF.sub _ (c_ 4 rfl (n_))
  refine W_ret ?_
  refine ⟨_, _, hF, rfl, ?_⟩
  have hd : decide (r.length ≠ r0.length) = true := by rw [decide_eq_true_iff]; omega
  exact ⟨by simp only [hd, Bool.true_or], hS⟩
 ·
  clear hF a; intro hc1 a hF
  try simp only [dcl] at hc1
  refine sv hF (v_move rfl) rfl ?_; clear hF a; intro a hF
  refine svg hF rfl ?_
  refine sv hF (v_move rfl) rfl ?_; clear hF a; intro a hF
  refine svg hF rfl ?_
  refine sv hF (v_mkf (cs := [.tmp 2]) (vs := [.pointer (some ⟨pf, 0, none⟩)]) rfl) rfl ?_; clear hF a; intro a hF
  refine svg hF rfl ?_
  refine sc hF rfl rfl rfl en88 rfl (AnyI_ok B M 89 [.pointer (some ⟨pf, 0, none⟩)] (fun x => !inF o x) pr cr r _ hS.inv hr hrl (ent Try.func89 (by kernel_rfl) (by kernel_rfl)) (fun x _ w1 hs => May11_ok B o fv pf x w1 hs.inv (hf.st (hS.trans hs)) (hkf.st (hS.trans hs)))) ?_; clear hF a; intro v w' a hv hF
  obtain ⟨rfl, hS'⟩ := hv
  replace hS := hS.trans hS'
  clear hS'
  refine sv2 hF (v_pickF rfl rfl) (v_assign rfl) rfl rfl ?_; clear hF a; intro a hF
  refine WL_nil (hK _ _ ?_)
  clear hK K
  replace hF := hF.sub _ (c_ 4 rfl (n_))
  refine W_ret ?_
  refine ⟨_, _, hF, rfl, ?_⟩
  have hd : decide (r.length ≠ r0.length) = false := by rw [decide_eq_false_iff_not]; omega
  exact ⟨by simp only [hd, Bool.false_or], hS⟩

set_option maxRecDepth 100000 in
set_option maxHeartbeats 1000000 in
theorem May_ok (B M : Nat) (o : Fq) (fv : Value) (pmt : Option Addr) (cmt : Nat) (mt : Mtx) (w : World) (hI : Inv FDx B w) (hf : Fo FDx B w fv o) (hA : Mat FDx B M w pmt cmt mt) (hl : mt.length ≤ maxLen) (hb : ∀ r ∈ mt, r.length ≤ maxLen) : Ret Try.prog 56 [fv, .slice pmt mt.length cmt] w fun v w' => v = .bool (mayM o mt) ∧ St FDx B w w' := by
 refine enter 21 [(0, fv), (1, .slice pmt mt.length cmt)] 4 Try.func56 rfl rfl rfl rfl rfl ?_; intro a hF
 have hS := St.refl hI
 have hl2 := hl
 simp only [maxLen] at hl2
 refine W_sr rfl (fun K hK => ?_)
 refine s_boxN (D := FDx) (B := B) hF rfl (hf.cells1) (by decide) hS.inv rfl ?_; clear hF a; intro w' a hm hI' hbf hsz hF
 replace hf := hf.mb hm
 replace hA := hA.mb hm (fun _ h => by cases h)
 replace hS := hS.mb0 hm
 clear hm hI' hsz
 obtain ⟨pf, hpf⟩ : ∃ pf, pf = w.heap.size := ⟨_, rfl⟩
 rw [← hpf] at hbf hF
 obtain ⟨pa, hpa⟩ : ∃ pa, pa = w'.heap.size := ⟨_, rfl⟩
 refine s_boxN (D := FDx) (B := B) hF rfl (rfl) (by decide) hS.inv rfl ?_; clear hF a; intro w' a hm hI' hba hsz hF
 replace hf := hf.mb hm
 replace hA := hA.mb hm (fun _ h => by cases h)
 replace hbf := hbf.mb hm (by simp)
 replace hS := hS.mb0 hm
 clear hm hI' hsz
 rw [← hpa] at hba hF
 have hkf := hbf.kc
 have hka := hba.kc
 clear hba hbf
 refine sv hF (v_assign rfl) rfl ?_; clear hF a; intro a hF
 refine WL_nil (hK _ _ ?_)
 clear hK K
 replace hF := hF.sub _ (c_ 4 rfl (c_ 3 rfl (c_ 2 rfl (n_))))
 refine W_seq ?_
 refine W_sr rfl (fun K hK => ?_)
 refine sv hF (v_load sc28 rfl hka.c) rfl ?_; clear hF a; intro a hF
 refine sv hF (v_lenS rfl sl28 rfl) rfl ?_; clear hF a; intro a hF
 refine sc hF rfl rfl rfl en68 rfl (within_ok (mt.length : Int) _) ?_; clear hF a; intro v w' a hv hF
 obtain ⟨rfl, hw⟩ := hv
 obtain rfl := hw.symm
 have hS' := St.refl hS.inv
 replace hf := hf.st hS'
 replace hA := hA.st hS'
 replace hkf := hkf.st hS'
 replace hka := hka.st hS'
 replace hS := hS.trans hS'
 clear hS'
 refine sb hF (v_not rfl) rfl ?_ ?_
 ·
  clear hF a; intro hc1 a hF
  try simp only [dcl] at hc1
  refine sv hF (v_move rfl) rfl ?_; clear hF a; intro a hF
  refine svn hF rfl rfl rfl ?_; clear hF a; intro a hF
  refine svn hF rfl rfl rfl ?_; clear hF a; intro a hF
  refine svn hF rfl rfl rfl ?_; clear hF a; intro a hF
  refine svn hF rfl rfl rfl ?_; clear hF a; intro a hF
  refine svn hF rfl rfl rfl ?_; clear hF a; intro a hF
  refine svn hF rfl rfl rfl ?_; clear hF a; intro a hF
  refine sv hF (v_pickT rfl rfl) rfl ?_; clear hF a; intro a hF
  refine WL_nil (hK _ _ ?_)
  clear hK K
  replace hF := hF.sub _ (c_ 16 rfl (c_ 4 rfl (c_ 3 rfl (c_ 2 rfl (n_)))))
  refine W_ifT hF rfl ?_
  refine W_sr rfl (fun K hK => ?_)
  refine sv hF (v_assign rfl) rfl ?_; clear hF a; intro a hF
  refine WL_nil (hK _ _ ?_)
  clear hK K
  replace hF := hF.sub _ (c_ 4 rfl (c_ 3 rfl (c_ 2 rfl (n_))))
  refine W_ret ?_
  refine ⟨_, _, hF, rfl, ?_⟩
  have hno : mayM o mt = false := mayM_no (fun h => by omega)
  rw [hno]
  exact ⟨rfl, hS⟩
 ·
  clear hF a; intro hc1 a hF
  try simp only [dcl] at hc1
  refine sv hF (v_move rfl) rfl ?_; clear hF a; intro a hF
  refine svg hF rfl ?_
  have hm20 : 1 ≤ mt.length ∧ mt.length ≤ 20 := by omega
  obtain ⟨r0, h0⟩ : ∃ r, mt[0]? = some r := ⟨_, List.getElem?_eq_getElem (by omega)⟩
  obtain ⟨g0, o0, pr0, cr0, hg0, hk0, hrow0, -⟩ := hA.row h0
  subst hg0
  refine sv hF (v_load sc28 rfl hka.c) rfl ?_; clear hF a; intro a hF
  refine svg hF rfl ?_
  refine sv hF (v_ixS sl28 rfl rfl (by decide) (by omega)) rfl ?_; clear hF a; intro a hF
  refine svg hF rfl ?_
  refine sv hF (v_load sc37 rfl hk0.c) rfl ?_; clear hF a; intro a hF
  refine svg hF rfl ?_
  refine sv hF (v_lenS rfl sl37 rfl) rfl ?_; clear hF a; intro a hF
  refine svg hF rfl ?_
  refine sc hF rfl rfl rfl en68 rfl (within_ok (r0.length : Int) _) ?_; clear hF a; intro v w' a hv hF
  obtain ⟨rfl, hw⟩ := hv
  obtain rfl := hw.symm
  have hS' := St.refl hS.inv
  replace hf := hf.st hS'
  replace hA := hA.st hS'
  replace hkf := hkf.st hS'
  replace hka := hka.st hS'
  replace hS := hS.trans hS'
  clear hS'
  refine svg hF rfl ?_
  refine sv hF (v_not rfl) rfl ?_; clear hF a; intro a hF
  refine sv hF (v_pickF rfl rfl) rfl ?_; clear hF a; intro a hF
  refine WL_nil (hK _ _ ?_)
  clear hK K
  replace hF := hF.sub _ (c_ 16 rfl (c_ 4 rfl (c_ 3 rfl (c_ 2 rfl (n_)))))
  refine W_if hF rfl (fun hc2 => ?_) (fun hc2 => ?_)
  ·
   skip
   try simp only [dcl] at hc2
   refine W_sr rfl (fun K hK => ?_)
   refine sv hF (v_assign rfl) rfl ?_; clear hF a; intro a hF
   refine WL_nil (hK _ _ ?_)
   clear hK K
   replace hF := hF.sub _ (c_ 4 rfl (c_ 3 rfl (c_ 2 rfl (n_))))
   refine W_ret ?_
   refine ⟨_, _, hF, rfl, ?_⟩
   have hno : mayM o mt = false := mayM_no (fun h => by rw [wid_at h0] at h; omega)
   rw [hno]
   exact ⟨rfl, hS⟩
  ·
   skip
   try simp only [dcl] at hc2
   refine W_skip ?_
   refine W_sr rfl (fun K hK => ?_)
   refine sv hF (v_load sc28 rfl hka.c) rfl ?_; clear hF a; intro a hF
   refine sv hF (v_mkf (cs := [.tmp 3, .tmp 2]) (vs := [.pointer (some ⟨pa, 0, none⟩), .pointer (some ⟨pf, 0, none⟩)]) rfl) rfl ?_; clear hF a; intro a hF
   refine sc hF rfl rfl rfl en86 rfl (AnyR_ok B M 87 [.pointer (some ⟨pa, 0, none⟩), .pointer (some ⟨pf, 0, none⟩)] (fun r => decide (r.length ≠ r0.length) || r.any fun x => !inF o x) _ cmt mt _ hS.inv hA hl (ent Try.func87 (by kernel_rfl) (by kernel_rfl)) (fun r hr pr cr w1 hs hrow => May1_ok B M o fv pf pa _ cmt mt r0 pr cr r w1 hs.inv (hf.st hs) (hkf.st hs) (hka.st hs) (hA.st hs) h0 hrow (hb r hr))) ?_; clear hF a; intro v w' a hv hF
   obtain ⟨rfl, hS'⟩ := hv
   replace hf := hf.st hS'
   replace hA := hA.st hS'
   replace hkf := hkf.st hS'
   replace hka := hka.st hS'
   replace hS := hS.trans hS'
   clear hS'
   refine sv hF (v_not rfl) rfl ?_; clear hF a; intro a hF
   refine sv hF (v_assign rfl) rfl ?_; clear hF a; intro a hF
   refine WL_nil (hK _ _ ?_)
   clear hK K
   replace hF := hF.sub _ (c_ 4 rfl (n_))
   refine W_ret ?_
   refine ⟨_, _, hF, rfl, ?_⟩
   have hr20 : 1 ≤ r0.length ∧ r0.length ≤ 20 := by omega
   exact ⟨by rw [← mayM_eq h0 hm20.2 hr20], hS⟩

end Go.Proofs.Ytaeljbdpjiciaaa

/- Sums of products in a field; matrices as tables of numbers; what products, rows picked and joined tell. No program in sight. -/
set_option linter.unusedVariables false
set_option linter.unusedSimpArgs false
namespace Go.Gam
open Px

/-- The sum of f 0 .. f (n - 1). -/
def xsum : Nat → (Nat → Nat) → Nat
  | 0, _ => 0
  | n + 1, f => xsum n f ^^^ f n
theorem xsum_congr {f g : Nat → Nat} : ∀ {n : Nat}, (∀ i, i < n → f i = g i) → xsum n f = xsum n g
  | 0, _ => rfl
  | n + 1, h => by rw [xsum, xsum, xsum_congr (fun i hi => h i (by omega)), h n (by omega)]
theorem xsum_lt {k : Nat} {f : Nat → Nat} : ∀ {n : Nat}, (∀ i, i < n → f i < 2 ^ k) → xsum n f < 2 ^ k
  | 0, _ => Nat.two_pow_pos _
  | n + 1, h => Px.xor_lt (xsum_lt fun i hi => h i (by omega)) (h n (by omega))
theorem xor4 (a b c d : Nat) : (a ^^^ b) ^^^ (c ^^^ d) = (a ^^^ c) ^^^ (b ^^^ d) := by
  rw [Nat.xor_assoc, Nat.xor_assoc, ← Nat.xor_assoc b c d, Nat.xor_comm b c, Nat.xor_assoc c b d]
theorem xsum_xor (f g : Nat → Nat) : ∀ n, xsum n (fun i => f i ^^^ g i) = xsum n f ^^^ xsum n g
  | 0 => by simp [xsum]
  | n + 1 => by rw [xsum, xsum, xsum, xsum_xor f g n, xor4]
theorem xsum_zero : ∀ n, xsum n (fun _ => 0) = 0
  | 0 => rfl
  | n + 1 => by rw [xsum, xsum_zero n]; rfl
theorem xsum_zero' {n : Nat} {f : Nat → Nat} (h : ∀ i, i < n → f i = 0) : xsum n f = 0 := by rw [xsum_congr h, xsum_zero]
theorem xsum_single {f : Nat → Nat} {i : Nat} : ∀ {n : Nat}, i < n → (∀ j, j < n → j ≠ i → f j = 0) → xsum n f = f i
  | 0, h, _ => by omega
  | n + 1, h, h2 => by
    rw [xsum]
    by_cases hn : i = n
    · subst hn; rw [xsum_zero' fun j hj => h2 j (by omega) (by omega), Nat.zero_xor]
    · rw [xsum_single (by omega) (fun j hj => h2 j (by omega)), h2 n (by omega) (by omega), Nat.xor_zero]
theorem xsum_add (f : Nat → Nat) (m : Nat) : ∀ n, xsum (m + n) f = xsum m f ^^^ xsum n (fun i => f (m + i))
  | 0 => by rw [Nat.add_zero, xsum, Nat.xor_zero]
  | n + 1 => by rw [← Nat.add_assoc, xsum, xsum_add f m n, xsum, Nat.xor_assoc]
theorem xsum_comm (f : Nat → Nat → Nat) (m : Nat) : ∀ n, xsum n (fun i => xsum m (f i)) = xsum m (fun j => xsum n (fun i => f i j))
  | 0 => (xsum_zero m).symm
  | n + 1 => by
    rw [xsum, xsum_comm f m n, ← xsum_xor]
    exact xsum_congr fun j _ => rfl
theorem mul_xsum (F : Fld) (c : Nat) (f : Nat → Nat) : ∀ n, F.mul c (xsum n f) = xsum n (fun i => F.mul c (f i))
  | 0 => F.mul_zero c
  | n + 1 => by rw [xsum, F.dist, mul_xsum F c f n, xsum]
theorem xsum_mul (F : Fld) (c : Nat) (f : Nat → Nat) (n : Nat) : F.mul (xsum n f) c = xsum n (fun i => F.mul (f i) c) := by
  rw [F.comm, mul_xsum]; exact xsum_congr fun i _ => F.comm _ _

/-! ### tables -/
/-- n rows of m numbers below 2^w. -/
def Mx (w n m : Nat) (a : Mtx) : Prop := a.length = n ∧ ∀ r ∈ a, r.length = m ∧ ∀ x ∈ r, 0 ≤ x ∧ x < ((2 ^ w : Nat) : Int)
/-- The number at row i, place j. -/
def en (a : Mtx) (i j : Nat) : Nat := ((a.getD i []).getD j 0).toNat
def tab (n m : Nat) (f : Nat → Nat → Nat) : Mtx := (List.range n).map fun i => (List.range m).map fun j => (f i j : Int)
theorem getD_of {α : Type} {l : List α} {i : Nat} {d : α} (h : i < l.length) : l.getD i d = l[i] := by rw [List.getD_eq_getElem?_getD, List.getElem?_eq_getElem h]; rfl
theorem Mx.num {w n m : Nat} {a : Mtx} (h : Mx w n m a) {i j : Nat} (hi : i < n) (hj : j < m) : ∃ r, a[i]? = some r ∧ r.length = m ∧ r[j]? = some (en a i j : Int) ∧ en a i j < 2 ^ w := by
  obtain ⟨rfl, h2⟩ := h
  have hr := h2 a[i] (List.getElem_mem hi)
  have hj' : j < a[i].length := by omega
  have hx := hr.2 a[i][j] (List.getElem_mem hj')
  have he : en a i j = a[i][j].toNat := by unfold en; rw [getD_of hi, getD_of hj']
  refine ⟨a[i], List.getElem?_eq_getElem hi, hr.1, ?_, by omega⟩
  rw [List.getElem?_eq_getElem hj']
  congr 1; omega
theorem Mx.lt {w n m : Nat} {a : Mtx} (h : Mx w n m a) {i j : Nat} (hi : i < n) (hj : j < m) : en a i j < 2 ^ w := let ⟨_, _, _, _, h⟩ := h.num hi hj; h
theorem Mx.ext {w n m : Nat} {a b : Mtx} (ha : Mx w n m a) (hb : Mx w n m b) (h : ∀ i j, i < n → j < m → en a i j = en b i j) : a = b := by
  apply List.ext_getElem?
  intro i
  by_cases hi : i < n
  · have hia : i < a.length := by rw [ha.1]; exact hi
    have hib : i < b.length := by rw [hb.1]; exact hi
    rw [List.getElem?_eq_getElem hia, List.getElem?_eq_getElem hib]
    congr 1
    apply List.ext_getElem?
    intro j
    have la := (ha.2 a[i] (List.getElem_mem hia)).1
    have lb := (hb.2 b[i] (List.getElem_mem hib)).1
    by_cases hj : j < m
    · obtain ⟨r, h1, _, h2, _⟩ := ha.num hi hj
      obtain ⟨s, h3, _, h4, _⟩ := hb.num hi hj
      rw [List.getElem?_eq_getElem hia] at h1
      rw [List.getElem?_eq_getElem hib] at h3
      obtain rfl := Option.some.inj h1
      obtain rfl := Option.some.inj h3
      rw [h2, h4, h i j hi hj]
    · rw [List.getElem?_eq_none (by omega), List.getElem?_eq_none (by omega)]
  · have := ha.1; have := hb.1
    rw [List.getElem?_eq_none (by omega), List.getElem?_eq_none (by omega)]
theorem tab_length (n m : Nat) (f : Nat → Nat → Nat) : (tab n m f).length = n := by simp [tab]
theorem tab_at {n m i : Nat} {f : Nat → Nat → Nat} (hi : i < n) : (tab n m f)[i]? = some ((List.range m).map fun j => (f i j : Int)) := by simp [tab, hi]
theorem en_tab {n m i j : Nat} {f : Nat → Nat → Nat} (hi : i < n) (hj : j < m) : en (tab n m f) i j = f i j := by
  unfold en
  rw [List.getD_eq_getElem?_getD, List.getD_eq_getElem?_getD, tab_at hi]
  simp [hj]
theorem Mx.tab {w n m : Nat} {f : Nat → Nat → Nat} (h : ∀ i j, i < n → j < m → f i j < 2 ^ w) : Mx w n m (tab n m f) := by
  refine ⟨tab_length _ _ _, fun r hr => ?_⟩
  obtain ⟨i, hi, rfl⟩ := List.mem_map.1 hr
  rw [List.mem_range] at hi
  refine ⟨by simp, fun x hx => ?_⟩
  obtain ⟨j, hj, rfl⟩ := List.mem_map.1 hx
  rw [List.mem_range] at hj
  have := h i j hi hj
  exact ⟨by omega, by omega⟩
theorem Mx.eq_tab {w n m : Nat} {a : Mtx} (h : Mx w n m a) : a = Gam.tab n m (en a) := h.ext (Mx.tab fun i j hi hj => h.lt hi hj) fun i j hi hj => (en_tab hi hj).symm
theorem Mx.wid {w n m : Nat} {a : Mtx} (h : Mx w n m a) (hn : 0 < n) : wid a = m := by
  obtain ⟨r, hr⟩ : ∃ r, a[0]? = some r := ⟨_, List.getElem?_eq_getElem (by rw [h.1]; exact hn)⟩
  rw [wid_at hr]
  exact (h.2 r (List.mem_of_getElem? hr)).1

section
variable {wb p : Nat}
theorem mayM_Mx {a : Mtx} (h : mayM (some (wb, p)) a = true) : Mx wb a.length (wid a) a ∧ 1 ≤ a.length ∧ a.length ≤ 20 ∧ 1 ≤ wid a ∧ wid a ≤ 20 := by
  obtain ⟨h1, h2, h3, h4, h5⟩ := mayM_pos h
  exact ⟨⟨rfl, fun r hr => ⟨(h5 r hr).1, fun x hx => inF_some.1 ((h5 r hr).2 x hx)⟩⟩, h1, h2, h3, h4⟩
theorem Mx.may {n m : Nat} {a : Mtx} (h : Mx wb n m a) (h1 : 1 ≤ n) (h2 : n ≤ 20) (h3 : 1 ≤ m) (h4 : m ≤ 20) : mayM (some (wb, p)) a = true := by
  have hw := h.wid (by omega)
  exact mayM_of (by rw [h.1]; exact h1) (by rw [h.1]; exact h2) (by omega) (by omega) fun r hr => ⟨by rw [hw]; exact (h.2 r hr).1, fun x hx => inF_some.2 ((h.2 r hr).2 x hx)⟩
theorem gmul_num (h : Prm wb p) {x y : Nat} (hx : x < 2 ^ wb) (hy : y < 2 ^ wb) : gmul (some (wb, p)) (x : Int) (y : Int) = (h.fld.mul x y : Int) := gmul_in hx hy
theorem idM_tab (n : Nat) : idM n = tab n n fun i j => if i = j then 1 else 0 := by
  unfold idM tab
  refine List.map_congr_left fun i _ => List.map_congr_left fun j _ => ?_
  by_cases h : i = j <;> simp [h]
theorem identM_of {n : Nat} (h : 1 ≤ n ∧ n ≤ 20) : identM (n : Int) = idM n := by unfold identM; rw [if_pos (by omega), Int.toNat_natCast]
/-! ### rows picked, joined -/
/-! ### columns -/
/-! ### no matrix -/
theorem len20 {a : Mtx} (h : a.length ≤ 20 ∧ ∀ r ∈ a, r.length ≤ 20) : a.length ≤ maxLen ∧ ∀ r ∈ a, r.length ≤ maxLen := ⟨Nat.le_trans h.1 (by decide), fun r hr => Nat.le_trans (h.2 r hr) (by decide)⟩
theorem len1k {a : Mtx} (h : a.length ≤ 20 ∧ ∀ r ∈ a, r.length ≤ 20) : a.length ≤ 1000 ∧ ∀ r ∈ a, r.length ≤ 1000 := ⟨Nat.le_trans h.1 (by decide), fun r hr => Nat.le_trans (h.2 r hr) (by decide)⟩
theorem Mat.one {D : FD} {B N cap : Nat} {w : World} {E2 : TypeId} {sa : Option Addr} {b : Option Nat} {u : Value} {r : List Int} (h : Own D B N w E2 (.slice sa 1 cap) b [u]) (hE : E2 ≠ D.T) (hr : Row D B w.heap.size w u (zints r)) : Mat D B w.heap.size w sa cap [r] :=
  ⟨[u], rfl, h.row hE, fun j v r' hv hr' => by
    match j with
    | 0 => simp at hv hr'; subst hv; subst hr'; exact hr
    | j + 1 => simp at hv⟩
theorem Mat.two {D : FD} {B N cap : Nat} {w : World} {E2 : TypeId} {sa : Option Addr} {b : Option Nat} {u v : Value} {r s : List Int} (h : Own D B N w E2 (.slice sa 2 cap) b [u, v]) (hE : E2 ≠ D.T) (hr : Row D B w.heap.size w u (zints r)) (hs : Row D B w.heap.size w v (zints s)) : Mat D B w.heap.size w sa cap [r, s] :=
  ⟨[u, v], rfl, h.row hE, fun j v' r' hv hr' => by
    match j with
    | 0 => simp at hv hr'; subst hv; subst hr'; exact hr
    | 1 => simp at hv hr'; subst hv; subst hr'; exact hs
    | j + 2 => simp at hv⟩
/-- Two rows that have no block in common. -/
def Dj (b c : Option Nat) : Prop := ∀ k, b = some k → c ≠ some k
/-- Bytes as numbers: from place h on, i of them; the sums of two halves. -/
def zpart (v : List Nat) (h i : Nat) : List Int := (List.range i).map fun j => ((v.getD (h + j) 0 : Nat) : Int)
def zsum (v : List Nat) (h i : Nat) : List Int := (List.range i).map fun j => ((v.getD j 0 ^^^ v.getD (h + j) 0 : Nat) : Int)
/-- Rows that are picked by bytes. -/
def zmods (v : List Nat) (n i : Nat) : List Int := ((v.take i).map fun x => ((x % n : Nat) : Int))
end
end Go.Gam
