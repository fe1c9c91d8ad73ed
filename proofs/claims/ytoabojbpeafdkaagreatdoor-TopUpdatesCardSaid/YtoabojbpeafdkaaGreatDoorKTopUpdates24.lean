/- Texts of the claim TopUpdates (part 24), put together in the order of their imports. -/
import Derived.Test.YtoabojbpeafdkaaGreatDoorKTopUpdates11
import Derived.Test.YtoabojbpeafdkaaGreatDoorKTopUpdates20
import Derived.Test.YtoabojbpeafdkaaGreatDoorKTopUpdates21
import Derived.Test.YtoabojbpeafdkaaGreatDoorKTopUpdates22
import Derived.Test.YtoabojbpeafdkaaGreatDoorKTopUpdates23
import Derived.Test.YtoabojbpeafdkaaGreatDoorRows
import Derived.Lib.LaidU8
import Derived.MakeChecks
set_option linter.all false
set_option maxRecDepth 100000
set_option maxHeartbeats 1000000
/- lives: it answers true, whatever the world, if what it calls is as told. -/
set_option maxRecDepth 100000
namespace Go.Proofs.YtoabojbpeafdkaaGreatDoor
open Go Go.Gam Go.Iv
theorem en6 : Ent Tryz.prog 6 := ent Tryz.func6 (by kernel_rfl) (by kernel_rfl)
theorem row_nums {e : Env} (k : IntKind) : ∀ l : List Nat, VRL e (nums k l) (l.map fun (n : Nat) => Value.int k (n : Int))
 | [] => VRL.nil
 | n :: l => VRL.cons rfl (row_nums k l)
section
variable {W0 : Option Asked} (hW0 : ∀ W B, W0 ≠ some (W, some B)) (hEnc : CallAt W0 Tryz.prog 23 oEnc) (hDat : CallAt W0 Tryz.prog 18 oDat) (hSpl : CallAt W0 Tryz.prog 66 oSpl)
include hW0 hEnc hDat hSpl
theorem orcL_ok : ∀ f g, orcL f = some g → CallAt W0 Tryz.prog f g := by
 intro f g h
 unfold orcL at h
 have pick : ∀ {k : Nat} {x : List AV → AH → Option (AV × AH)} {y : Option (List AV → AH → Option (AV × AH))}, (bif Nat.beq f k then some x else y) = some g → CallAt W0 Tryz.prog k x → (y = some g → CallAt W0 Tryz.prog f g) → CallAt W0 Tryz.prog f g := by
  intro k x y h hx hy
  cases hb : Nat.beq f k with
  | true =>
   rw [hb] at h
   obtain rfl := Option.some.inj h
   obtain rfl := Nat.eq_of_beq_eq_true hb
   exact hx
  | false => rw [hb] at h; exact hy h
 refine pick h (ixB_ok Tryz.func386 (by kernel_rfl) (by kernel_rfl) (by kernel_rfl) (by kernel_rfl)) fun h => ?_
 refine pick h (cntB_ok Tryz.func389 (by kernel_rfl) (by kernel_rfl) (by kernel_rfl) (by kernel_rfl)) fun h => ?_
 refine pick h oIns_ok fun h => ?_
 refine pick h (oJoin_ok hW0) fun h => ?_
 refine pick h (crc_ok W0) fun h => ?_
 refine pick h (may_ok W0) fun h => ?_
 refine pick h hEnc fun h => ?_
 refine pick h hDat fun h => ?_
 refine pick h hSpl fun h => ?_
 cases h
theorem mL_ok (n : Nat) : CallOK W0 Tryz.prog (mL Tryz.prog n).call := (mch_ok idle mixed en371 (orcL_ok hW0 hEnc hDat hSpl) n).2
theorem orcM_ok : ∀ f g, orcM f = some g → CallAt W0 Tryz.prog f g := by
 intro f g h
 unfold orcM at h
 cases h1 : Nat.beq f 26 with
 | true =>
  rw [h1] at h
  obtain rfl := Option.some.inj h
  obtain rfl := Nat.eq_of_beq_eq_true h1
  exact memo_ok (mL_ok hW0 hEnc hDat hSpl 3000) save_run
 | false =>
  rw [h1] at h
  simp only [cond_false] at h
  cases h2 : Nat.beq f 10 with
  | true =>
   rw [h2] at h
   obtain rfl := Option.some.inj h
   obtain rfl := Nat.eq_of_beq_eq_true h2
   exact memo_ok (mL_ok hW0 hEnc hDat hSpl 3000) one_run
  | false =>
   rw [h2] at h
   simp only [cond_false] at h
   cases h3 : Nat.beq f 11 with
   | true =>
    rw [h3] at h
    obtain rfl := Option.some.inj h
    obtain rfl := Nat.eq_of_beq_eq_true h3
    exact memo_ok (mL_ok hW0 hEnc hDat hSpl 3000) obj_run
   | false => rw [h3] at h; cases h
end
theorem lives_ok (w : World) (hEnc : CallAt (some (w, none)) Tryz.prog 23 oEnc) (hDat : CallAt (some (w, none)) Tryz.prog 18 oDat) (hSpl : CallAt (some (w, none)) Tryz.prog 66 oSpl) (l6 l7 l8 : List Nat) (t6 t7 t8 : TypeId) (f6 f7 f8 : Nat × Nat) (h6 : w.heap[6]? = some (.cells (l6.map fun (n : Nat) => Value.int .u64 (n : Int)).toArray t6 f6)) (h7 : w.heap[7]? = some (.cells (l7.map fun (n : Nat) => Value.int .u8 (n : Int)).toArray t7 f7)) (h8 : w.heap[8]? = some (.cells (l8.map fun (n : Nat) => Value.int .u8 (n : Int)).toArray t8 f8))
  (hg : gL = [(6, .row (nums .u64 l6) true), (7, .row (nums .u8 l7) true), (8, .row (nums .u8 l8) true)]) (hsz : 9 ≤ w.heap.size) : Ret Tryz.prog 6 [] w fun v w' => v = .bool true ∧ Go.RowKit.Below w.heap.size w w' := by
 have hin : ∀ b o, (ofL gL 10).at b = some o → (b = 6 ∧ o = .row (nums .u64 l6) true) ∨ (b = 7 ∧ o = .row (nums .u8 l7) true) ∨ (b = 8 ∧ o = .row (nums .u8 l8) true) := by
  intro b o hb
  rcases lay0_at (show get 20 b (lay0 gL .leaf) = some o from hb) with hm | hm
  · rw [hg] at hm
    simpa using hm
  rw [get_leaf] at hm; cases hm
 let sz : Nat → Nat := fun g => if g = 6 then l6.length else if g = 7 then l7.length else if g = 8 then l8.length else 0
 have hH : HW (some (w, none)) (fun b => if b < 9 then some (b, sz b) else none) (ofL gL 10) w := by
  have hle : ∀ b r s, (if b < 9 then some (b, sz b) else none) = some (r, s) → b < 9 ∧ r = b ∧ s = sz b := fun b r s hx => by
   by_cases h10 : b < 9
   · rw [if_pos h10] at hx
     obtain ⟨rfl, rfl⟩ := Prod.mk.inj (Option.some.inj hx)
     exact ⟨h10, rfl, rfl⟩
   rw [if_neg h10] at hx; cases hx
  have row : ∀ (k : IntKind) (l : List Nat) (r : Nat) (t : TypeId) (f : Nat × Nat), w.heap[r]? = some (.cells (l.map fun (n : Nat) => Value.int k (n : Int)).toArray t f) → OR (fun b => if b < 9 then some (b, sz b) else none) l.length (.row (nums k l) true) w.heap[r]? := by
   intro k l r t f hr
   have hl : (nums k l).length = l.length := by rw [← (row_nums (e := fun _ => none) k l).length]; simp
   refine ⟨_, t, f, hr, by simp, by omega, ?_, fun h => by cases h⟩
   rw [hl, List.take_of_length_le (by simp)]
   exact row_nums k l
  refine ⟨⟨fun b o hb r s he => ?_, fun b b' o o' r s s' k1 k2 e1 e2 hne => ?_, fun b r s he => ?_, fun g hg => ⟨sz g, if_pos hg⟩⟩, fun b x hx => ?_, fun W hW => (by obtain rfl := Option.some.inj hW; exact ⟨fun B h => (by cases h), fun B h => (by cases h), fun _ => .refl _ _⟩), fun W hW b o hb r s he => ⟨fun B h => (by rw [← Option.some.inj hW] at h; cases h), fun h => (by rcases hin b o hb with ⟨-, rfl⟩ | ⟨-, rfl⟩ | ⟨-, rfl⟩ <;> cases h)⟩⟩
  ·
   obtain ⟨-, rfl, rfl⟩ := hle b r s he
   rcases hin r o hb with ⟨rfl, rfl⟩ | ⟨rfl, rfl⟩ | ⟨rfl, rfl⟩
   · exact row .u64 l6 6 t6 f6 h6
   · exact row .u8 l7 7 t7 f7 h7
   exact row .u8 l8 8 t8 f8 h8
  · obtain ⟨-, rfl, -⟩ := hle b r s e1
    obtain ⟨-, h2, -⟩ := hle b' r s' e2
    exact absurd h2 hne
  · have := hle b r s he; omega
  obtain ⟨r, s⟩ := x
  exact Nat.lt_succ_of_lt (hle b r s hx).1
 have hcall := (mch_ok (W0 := some (w, none)) idle mixed en371 (orcM_ok (fun W B h => by cases h) hEnc hDat hSpl) 300).2
 have hq := lives_run
 unfold stOk at hq
 split at hq
 ·
  rename_i u h1 hc
  simp only [Bool.and_eq_true] at hq
  obtain rfl := beq_eq _ _ hq.1.1
  have := (hcall 6 [] _ _ _ hc _ w [] VRL.nil hH).ret (en6)
  exact this.mono fun v w' ⟨e', g1, g2, g3⟩ => ⟨g2, (g3.st _ rfl).bel rfl⟩
 cases hq
end Go.Proofs.YtoabojbpeafdkaaGreatDoor
/- What the listed variables hold when the call begins; TopUpdates returns true. -/
set_option maxRecDepth 100000
namespace Go.Proofs.YtoabojbpeafdkaaGreatDoor
open Go Go.Gam Go.Iv
theorem tab_block {P : Program} {w : World} {name : String} {d : DataW Unit} {k : IntKind} (l : List Nat) {g t e n : Nat} (h : Lib.VarReads P w name d) (hd : d = Lib.tabData k (l.map Int.ofNat)) (hn : P.globalNamed name = some g) (ht : (P.globals[g]?).map (·.type) = some t) (hu : P.underlying t = some (.array n e)) (he : P.underlying e = some (.int k)) (hce : P.cellsOf e = 1) (hct : P.cellsOf t = n) :
  ∃ t' fr, w.heap[g]? = some (.cells (l.map fun (n : Nat) => Value.int k (n : Int)).toArray t' fr) := by
 subst hd
 obtain ⟨g', t', cs, fuel, p, h1, h2, h3, h4⟩ := h
 obtain rfl := Option.some.inj (hn.symm.trans h1)
 obtain rfl := Option.some.inj (ht.symm.trans h2)
 have hcs := Lib.cells_of_tab hu he hce hct h4
 rw [List.map_map] at hcs
 unfold World.var? at h3
 rw [h1] at h3
 simp only [Option.bind_some] at h3
 split at h3
 ·
  rename_i c t2 f2 hc
  obtain rfl := Option.some.inj h3
  refine ⟨t2, f2, ?_⟩
  rw [hc]
  have : c = (l.map fun (n : Nat) => Value.int k (n : Int)).toArray := by
   apply Array.toList_inj.1
   rw [hcs]
   rfl
  rw [this]
 cases h3
def g6N : List Nat := [1, 10, 100, 1000, 10000, 100000, 1000000, 10000000, 100000000, 1000000000, 10000000000, 100000000000, 1000000000000, 10000000000000, 100000000000000, 1000000000000000, 10000000000000000, 100000000000000000, 1000000000000000000, 10000000000000000000]
def g7N : List Nat := [0, 1, 28, 2, 29, 14, 24, 3, 30, 22, 20, 15, 25, 17, 4, 8, 31, 27, 13, 23, 21, 19, 16, 7, 26, 12, 18, 6, 11, 5, 10, 9]
def g8N : List Nat := [0, 1, 56, 2, 57, 49, 28, 3, 61, 58, 42, 50, 38, 29, 17, 4, 62, 47, 59, 36, 45, 43, 51, 22, 53, 39, 33, 30, 24, 18, 12, 5, 63, 55, 48, 27, 60, 41, 37, 16, 46, 35, 44, 21, 52, 32, 23, 11, 54, 26, 40, 15, 34, 20, 31, 10, 25, 14, 19, 9, 13, 8, 7, 6]
theorem livC (t6 t7 t8 : TypeId) (f6 f7 f8 : Nat × Nat) : LivC (some (.cells (g6N.map fun (n : Nat) => Value.int .u64 (n : Int)).toArray t6 f6)) (some (.cells (g7N.map fun (n : Nat) => Value.int .u8 (n : Int)).toArray t7 f7)) (some (.cells (g8N.map fun (n : Nat) => Value.int .u8 (n : Int)).toArray t8 f8)) := fun w hG hsz =>
 have hn : ∀ (W : World) (B : Nat), some (w, (none : Option Nat)) ≠ some (W, some B) := fun W B h => by cases h
 lives_ok w (oEnc_ok hn) (oDat_ok hn) (oSpl_ok hn) g6N g7N g8N t6 t7 t8 f6 f7 f8 hG.1 hG.2.1 hG.2.2 rfl hsz
theorem TopUpdates_ok (B M n0 n1 n2 : Nat) (px : Option Addr) (cx : Nat) (bs : List Nat) (a0 a1 : Nat) (w : World) (hI : Inv FDx B w) (hM : M ≤ w.heap.size) (h0 : n0 < 256) (h1 : n1 < 256) (h2 : n2 < 256) (hx : Gam.Row FDx B M w (.slice px bs.length cx) (byt bs)) (hb8 : ∀ x ∈ bs, x < 256) (hlm : bs.length ≤ maxLen) (ha0 : a0 < 256) (ha1 : a1 < 256)
  (hl : laidMet Tryz.prog Rows.topUpdatesRow.laid w) (hB : w.heap.size ≤ B) : Ret Tryz.prog 5 [.agg #[.int .u8 (n0 : Int), .int .u8 (n1 : Int), .int .u8 (n2 : Int)], .slice px bs.length cx, .agg #[.int .u8 (a0 : Int), .int .u8 (a1 : Int)]] w fun v w' => v = .bool true ∧ Go.RowKit.Below B w w' := by
 obtain ⟨t7, f7, g7⟩ := tab_block (t := 453) (e := 5) (n := 32) g7N (Lib.laidMet.reads hl (List.Mem.head _)) (by kernel_rfl) (show Tryz.prog.globalNamed "math/bits.deBruijn32tab" = some 7 by kernel_rfl) (by kernel_rfl) (by kernel_rfl) (by kernel_rfl) (by kernel_rfl) (by kernel_rfl)
 obtain ⟨t8, f8, g8⟩ := tab_block (t := 454) (e := 5) (n := 64) g8N (Lib.laidMet.reads hl (List.Mem.tail _ (List.Mem.head _))) (by kernel_rfl) (show Tryz.prog.globalNamed "math/bits.deBruijn64tab" = some 8 by kernel_rfl) (by kernel_rfl) (by kernel_rfl) (by kernel_rfl) (by kernel_rfl) (by kernel_rfl)
 obtain ⟨t6, f6, g6⟩ := tab_block (t := 437) (e := 272) (n := 20) g6N (Lib.laidMet.reads hl (List.Mem.tail _ (List.Mem.tail _ (List.Mem.head _)))) (by kernel_rfl) (show Tryz.prog.globalNamed "internal/strconv.uint64pow10" = some 6 by kernel_rfl) (by kernel_rfl) (by kernel_rfl) (by kernel_rfl) (by kernel_rfl) (by kernel_rfl)
 have h9 := heap_lt g8
 exact Top_ok B M n0 n1 n2 a0 a1 (PTx Tryz.prog) parC pTok _ _ _ (livC t6 t7 t8 f6 f7 f8) px cx bs w hI (by omega) ⟨g6, g7, g8⟩ h0 h1 h2 ha0 ha1 hx hM hb8 hlm
end Go.Proofs.YtoabojbpeafdkaaGreatDoor
