/- The lock and sync.Once, in the run of one goroutine: each function once. -/
import Derived.Test.YtcnlooajjnghaaaGreatProg
import Derived.WalkKit
import Derived.Laws.LoneSync
import Derived.Laws.NewBlocks
set_option linter.unusedVariables false
set_option linter.unusedSimpArgs false
namespace Go.Proofs.YtcnlooajjnghaaaGreat
open Go

theorem disable (w : World) : (callFunc 106 #[]).run Tryz.prog w = .ok (.value (.tuple #[])) w := run_call_mark0 Tryz.func106 (by kernel_rfl) (by kernel_rfl) (by kernel_rfl) .disable (by kernel_rfl) w
theorem enable (w : World) : (callFunc 108 #[]).run Tryz.prog w = .ok (.value (.tuple #[])) w := run_call_mark0 Tryz.func108 (by kernel_rfl) (by kernel_rfl) (by kernel_rfl) .enable (by kernel_rfl) w
theorem acquire (a : Addr) (w : World) : (callFunc 109 #[.pointer (some a)]).run Tryz.prog w = .ok (.value (.tuple #[])) w := run_call_marked Tryz.func109 (by kernel_rfl) (by kernel_rfl) (by kernel_rfl) .acquire (by kernel_rfl) a w
theorem releaseMerge (a : Addr) (w : World) : (callFunc 111 #[.pointer (some a)]).run Tryz.prog w = .ok (.value (.tuple #[])) w := run_call_marked Tryz.func111 (by kernel_rfl) (by kernel_rfl) (by kernel_rfl) .releaseMerge (by kernel_rfl) a w

set_option maxRecDepth 100000 in
/-- The inner lock, free: taken. -/
theorem ilock_free (a : Addr) (w : World) (hc : w.cell? a = some (.int .i32 0)) (hz : w.frozen? a = false) :
    Calls Tryz.prog 102 #[.pointer (some a)] w fun e w' => e = .returned (.tuple #[]) ∧ w' = w.setCell a (.int .i32 1) := by
  have hd := disable
  have he := enable
  have ha := acquire
  have hcas := run_call_cas_hit (P := Tryz.prog) Tryz.func107 (by kernel_rfl) (by kernel_rfl) (by kernel_rfl) .i32 (by kernel_rfl) (y := 1) hc hz
  have hc' : (w.setCell a (.int .i32 1)).cell? a = some (.int .i32 1) := World.cell?_setCell_same w a _ hc
  have hcv := run_convert_to_unsafe (P := Tryz.prog) (src := 133) (dst := 137) Tryz.underlying133 Tryz.underlying137 (by kernel_rfl) hc'
  go_enter Tryz.func102, Tryz.ntmps102
  go_wp2
  first | go_end0 | (simp only [Exit.inBlock, Exit.then]; refine bodyPost_ret (results_none rfl _ _ _) rfl ?_) | refine bodyPost_ret (results_none rfl _ _ _) rfl ?_
  exact ⟨rfl, rfl⟩

/-- The lock, free: taken. -/
theorem lock_free (b off : Nat) (w : World) (hc : w.cell? ⟨b, off, none⟩ = some (.int .i32 0)) (hz : w.frozen? ⟨b, off, none⟩ = false) :
    Calls Tryz.prog 99 #[.pointer (some ⟨b, off, none⟩)] w fun e w' => e = .returned (.tuple #[]) ∧ w' = w.setCell ⟨b, off, none⟩ (.int .i32 1) := by
  go_enter Tryz.func99, Tryz.ntmps99
  go_wp2_with (go_at_call 102; refine (ilock_free ⟨b, off, none⟩ _ hc hz).mono ?_; rintro e w' ⟨rfl, rfl⟩)
  go_end0
  exact ⟨rfl, rfl⟩

set_option maxRecDepth 100000 in
/-- The inner lock, let go. -/
theorem iunlock_held (a : Addr) (w : World) (hc : w.cell? a = some (.int .i32 1)) (hz : w.frozen? a = false) :
    Calls Tryz.prog 103 #[.pointer (some a)] w fun e w' => e = .returned (.tuple #[]) ∧ w' = w.setCell a (.int .i32 0) := by
  have hd := disable
  have he := enable
  have hr := releaseMerge
  have hadd := run_call_add (P := Tryz.prog) Tryz.func112 (by kernel_rfl) (by kernel_rfl) (by kernel_rfl) .i32 (by kernel_rfl) (y := -1) (s := 0) hc hz (by simp [go_sem]; rfl)
  have hcv := run_convert_to_unsafe (P := Tryz.prog) (src := 133) (dst := 137) Tryz.underlying133 Tryz.underlying137 (by kernel_rfl) hc
  go_enter Tryz.func103, Tryz.ntmps103
  go_wp2
  go_end0
  exact ⟨rfl, rfl⟩

/-- The lock, let go, as a deferred call. -/
theorem unlock_deferred (b off : Nat) (u : FrameMode) (w : World) (hc : w.cell? ⟨b, off, none⟩ = some (.int .i32 1)) (hz : w.frozen? ⟨b, off, none⟩ = false) :
    CallsD Tryz.prog 100 #[.pointer (some ⟨b, off, none⟩)] u w fun e u' w' => u' = u ∧ (e = .returned (.tuple #[]) ∧ w' = w.setCell ⟨b, off, none⟩ (.int .i32 0)) := by
  go_enter_d Tryz.func100, Tryz.ntmps100
  go_wp2_with (go_at_call 103; refine (iunlock_held ⟨b, off, none⟩ _ hc hz).mono ?_; rintro e w' ⟨rfl, rfl⟩)
  go_end0
  exact ⟨rfl, rfl⟩

/-- 'Store(true)' as a deferred call: the cell holds 1. -/
theorem store_deferred (b off : Nat) (x : Value) (u : FrameMode) (w : World) (hc : w.cell? ⟨b, off, none⟩ = some x) (hz : w.frozen? ⟨b, off, none⟩ = false) :
    CallsD Tryz.prog 101 #[.pointer (some ⟨b, off, none⟩), .bool true] u w fun e u' w' => u' = u ∧ (e = .returned (.tuple #[]) ∧ w' = w.drew.setCell ⟨b, off, none⟩ (.int .u32 1)) := by
  have hc' : w.drew.cell? ⟨b, off, none⟩ = some x := by go_simp
  have hz' : w.drew.frozen? ⟨b, off, none⟩ = false := by go_simp
  have hst := run_call_store (P := Tryz.prog) Tryz.func104 (by kernel_rfl) (by kernel_rfl) (by kernel_rfl) (by kernel_rfl) (k := .u32) (y := 1) hc' hz'
  go_enter_d Tryz.func101, Tryz.ntmps101
  go_wp2
  go_region_calls
  all_goals (go_end0; exact ⟨rfl, rfl⟩)

/-- 'Load'. -/
theorem load_ok (b off : Nat) (x : Int) (w : World) (hc : w.cell? ⟨b, off, none⟩ = some (.int .u32 x)) :
    Calls Tryz.prog 96 #[.pointer (some ⟨b, off, none⟩)] w fun e w' => e = .returned (.bool (x != 0)) ∧ w' = w := by
  have hl := run_call_load (P := Tryz.prog) Tryz.func98 (by kernel_rfl) (by kernel_rfl) (by kernel_rfl) .u32 (by kernel_rfl) hc
  go_enter Tryz.func96, Tryz.ntmps96
  go_wp2
  go_ret
  exact ⟨rfl, rfl⟩

set_option maxRecDepth 100000 in
set_option maxHeartbeats 1600000 in
/-- 'doSlow', not yet done, the lock free: the lock is taken, the function is called, 'done' is stored, the lock is let go. -/
theorem slow_ok (b off : Nat) (pl : Addr) (w : World) (Q : World → Prop)
    (h0 : w.cell? ⟨b, off, none⟩ = some (.int .u32 0)) (h1 : w.cell? ⟨b, off + 1, none⟩ = some (.int .i32 0)) (f1 : w.frozen? ⟨b, off + 1, none⟩ = false)
    (hfn : Calls Tryz.prog 90 #[.pointer (some pl)] (w.setCell ⟨b, off + 1, none⟩ (.int .i32 1)) fun e w' => e = .returned (.tuple #[]) ∧ Q w')
    (hQ : ∀ w', Q w' → w'.cell? ⟨b, off, none⟩ = some (.int .u32 0) ∧ w'.cell? ⟨b, off + 1, none⟩ = some (.int .i32 1) ∧ w'.frozen? ⟨b, off, none⟩ = false ∧ w'.frozen? ⟨b, off + 1, none⟩ = false) :
    Calls Tryz.prog 97 #[.pointer (some ⟨b, off, none⟩), .func (.func 90) #[] #[.pointer (some pl)]] w fun e w' => e = .returned (.tuple #[]) ∧
      ∃ w2, Q w2 ∧ w' = (w2.drew.setCell ⟨b, off, none⟩ (.int .u32 1)).setCell ⟨b, off + 1, none⟩ (.int .i32 0) := by
  have hl := load_ok b off 0 (w.setCell ⟨b, off + 1, none⟩ (.int .i32 1)) ((World.cell?_setCell_other _ ⟨b, off + 1, none⟩ ⟨b, off, none⟩ _ (by simp)).trans h0)
  have hnot : ∀ (x : Bool) (w : World), (Op.unary .not (.bool x)).run Tryz.prog w = .ok (.bool (!x)) w := fun _ _ => rfl
  go_enter_defers Tryz.func97, Tryz.ntmps97
  go_wp2_with (first
    | (go_at_call 99; refine (lock_free b (off + 1) _ h1 f1).mono ?_; rintro e w' ⟨rfl, rfl⟩)
    | (go_at_call 96; refine hl.mono ?_; rintro e w' ⟨rfl, rfl⟩)
    | (go_at_call 90; refine hfn.mono ?_; rintro e w2 ⟨rfl, hq⟩))
  obtain ⟨q0, q1, q2, q3⟩ := hQ _ hq
  refine leaves_cons (f := 101) (args := #[.pointer (some ⟨b, off, none⟩), .bool true]) (by simp) (by simp [go_sem]) ?_
  refine (store_deferred b off (.int .u32 0) .returning _ q0 q2).mono ?_
  rintro e u' w'' ⟨rfl, rfl, rfl⟩
  refine leaves_cons (f := 100) (args := #[.pointer (some ⟨b, off + 1, none⟩)]) (by simp [settle]) (by simp [go_sem]) ?_
  refine (unlock_deferred b (off + 1) _ _ ?_ (by simp [q3])).mono ?_
  · refine (World.cell?_setCell_other _ ⟨b, off, none⟩ ⟨b, off + 1, none⟩ _ (by simp)).trans ?_
    rw [World.cell?_drew]
    exact q1
  rintro e u' w'' ⟨rfl, rfl, rfl⟩
  simp [Leaves, settle, results, Tryz.results97]
  exact ⟨w2, hq, rfl⟩

set_option maxRecDepth 100000 in
set_option maxHeartbeats 1600000 in
/-- 'Do', not yet done. -/
theorem do_first (b off : Nat) (pl : Addr) (w : World) (Q : World → Prop)
    (h0 : w.cell? ⟨b, off, none⟩ = some (.int .u32 0)) (h1 : w.cell? ⟨b, off + 1, none⟩ = some (.int .i32 0)) (f1 : w.frozen? ⟨b, off + 1, none⟩ = false)
    (hfn : Calls Tryz.prog 90 #[.pointer (some pl)] (w.setCell ⟨b, off + 1, none⟩ (.int .i32 1)) fun e w' => e = .returned (.tuple #[]) ∧ Q w')
    (hQ : ∀ w', Q w' → w'.cell? ⟨b, off, none⟩ = some (.int .u32 0) ∧ w'.cell? ⟨b, off + 1, none⟩ = some (.int .i32 1) ∧ w'.frozen? ⟨b, off, none⟩ = false ∧ w'.frozen? ⟨b, off + 1, none⟩ = false) :
    Calls Tryz.prog 89 #[.pointer (some ⟨b, off, none⟩), .func (.func 90) #[] #[.pointer (some pl)]] w fun e w' => e = .returned (.tuple #[]) ∧
      ∃ w2, Q w2 ∧ w' = (w2.drew.setCell ⟨b, off, none⟩ (.int .u32 1)).setCell ⟨b, off + 1, none⟩ (.int .i32 0) := by
  have hl := load_ok b off 0 w h0
  have hnot : ∀ (x : Bool) (w : World), (Op.unary .not (.bool x)).run Tryz.prog w = .ok (.bool (!x)) w := fun _ _ => rfl
  go_enter Tryz.func89, Tryz.ntmps89
  go_wp2_with (first
    | (go_at_call 97; refine (slow_ok b off pl _ Q h0 h1 f1 hfn hQ).mono ?_; rintro e w' ⟨rfl, w2, hq, rfl⟩)
    | (go_at_call 96; refine hl.mono ?_; rintro e w' ⟨rfl, rfl⟩))
  go_end0
  exact ⟨rfl, w2, hq, rfl⟩

/-- 'Do', done already: the function is not called. -/
theorem do_done (b off : Nat) (fv : Value) (w : World) (h0 : w.cell? ⟨b, off, none⟩ = some (.int .u32 1)) :
    Calls Tryz.prog 89 #[.pointer (some ⟨b, off, none⟩), fv] w fun e w' => e = .returned (.tuple #[]) ∧ w' = w := by
  have hl := load_ok b off 1 w h0
  have hnot : ∀ (x : Bool) (w : World), (Op.unary .not (.bool x)).run Tryz.prog w = .ok (.bool (!x)) w := fun _ _ => rfl
  go_enter Tryz.func89, Tryz.ntmps89
  go_wp2_with (go_at_call 96; refine hl.mono ?_; rintro e w' ⟨rfl, rfl⟩)
  go_end0
  exact ⟨rfl, rfl⟩

end Go.Proofs.YtcnlooajjnghaaaGreat
