/- Texts of the claim TopUpdates (part 9), put together in the order of their imports. -/
import Derived.Test.YtoabojbpeafdkaaGreatDoorKTopUpdates2
import Derived.Test.YtoabojbpeafdkaaGreatDoorKTopUpdates5
import Derived.Test.YtoabojbpeafdkaaGreatDoorKTopUpdates6
import Derived.Test.YtoabojbpeafdkaaGreatDoorKTopUpdates8
import Derived.Lib.Bytealg
import Derived.Test.YtoabojbpeafdkaaGreatDoorProg
import Derived.Lib.Overlaps
import Derived.Lib.AppendZerosOnto
import Derived.Shelf.Strings.OnBuilder
import Derived.Recover
import Derived.Tactics2
import Derived.Lib.ByteType
set_option linter.all false
set_option maxRecDepth 100000
set_option maxHeartbeats 1000000
/- Answers told ahead: what one reckoning has shown, and what the model answers itself. No program in sight. -/
namespace Go.Iv
open Go Go.Gam
variable {W0 : Option Asked}
theorem tab_base {E B B' : Nat} {w w' : World} {v : Value} {xs : List Value} (h : Tab E B w v xs) (hs : ∀ k, k < w.heap.size → w'.heap[k]? = w.heap[k]?) : Tab E B w' v xs := by
 obtain ⟨g, h1, h2, h3⟩ := h
 exact ⟨g, h1, h2, by rw [hs g (heap_lt h3)]; exact h3⟩
theorem tab_down {E B B' : Nat} {w : World} {v : Value} {xs : List Value} (h : Tab E B' w v xs) (hB : B ≤ B') : Tab E B w v xs := by
 obtain ⟨g, h1, h2, h3⟩ := h
 exact ⟨g, h1, Nat.le_trans hB h2, h3⟩
theorem fok_base {D : FD} {B : Nat} {w w' : World} {k wb p : Nat} (h : FOK D B w k wb p) (hs : ∀ k, k < w.heap.size → w'.heap[k]? = w.heap[k]?) : FOK D B w' k wb p := by
 have hk := hs k h.lt
 obtain ⟨h1, h2⟩ := h
 refine ⟨h1, ?_⟩
 rw [hk]
 rcases h2 with h2 | ⟨e, l, h2, h3, h4⟩
 · exact .inl h2
 exact .inr ⟨e, l, h2, tab_base (B' := 0) h3 hs, tab_base (B' := 0) h4 hs⟩
theorem fok_down {D : FD} {B B' : Nat} {w : World} {k wb p : Nat} (h : FOK D B' w k wb p) (hB : B ≤ B') : FOK D B w k wb p := by
 obtain ⟨h1, h2⟩ := h
 refine ⟨Nat.le_trans hB h1, ?_⟩
 rcases h2 with h2 | ⟨e, l, h2, h3, h4⟩
 · exact .inl h2
 exact .inr ⟨e, l, h2, tab_down h3 hB, tab_down h4 hB⟩
theorem st_base {D : FD} {B : Nat} {w w' : World} (hs : St D w.heap.size w w') (hI : Inv D B w) : St D B w w' := by
 have same : ∀ k, k < w.heap.size → w'.heap[k]? = w.heap[k]? := fun k hk => hs.ext.keep k hk (.inl hk)
 have inv : Inv D B w' := by
  refine ⟨Nat.le_trans hI.1 hs.ext.size, fun k hk c fr hc => ?_⟩
  by_cases hlt : k < w.heap.size
  · rw [same k hlt] at hc
    obtain ⟨wb, p, hf⟩ := hI.2 k hk c fr hc
    exact ⟨wb, p, fok_base hf same⟩
  obtain ⟨wb, p, hf⟩ := hs.inv.2 k (by omega) c fr hc
  exact ⟨wb, p, fok_down hf hI.1⟩
 refine ⟨⟨hs.ext.os, hs.ext.tape, hs.ext.output, hs.ext.size, fun k hk _ => same k hk, fun k wb p hf => fok_base hf same, fun b hb hp => ?_, fun k wb p ge gl hf => ?_⟩, inv⟩
 ·
  intro k hk c fr hc a n m hm
  by_cases hlt : k < w.heap.size
  · rw [same k hlt] at hc
    exact hp k hk c fr hc a n m hm
  obtain ⟨wb, p, hB, hf⟩ := hs.inv.2 k (by omega) c fr hc
  rcases hf with hf | ⟨e, l, hf, ⟨g, rfl, hg1, hg⟩, ⟨g', rfl, hg1', hg'⟩⟩
  · rw [hf] at hc
    obtain ⟨rfl, -, -⟩ := Obj.cells.inj (Option.some.inj hc)
    simp [fcells] at hm
  rw [hf] at hc
  obtain ⟨rfl, -, -⟩ := Obj.cells.inj (Option.some.inj hc)
  simp [fcells] at hm
  rcases hm with ⟨rfl, _, _⟩ | ⟨rfl, _, _⟩ <;> simp <;> omega
 obtain ⟨h1, h2, h3, h4⟩ := hf
 exact ⟨h1, by rw [same k (heap_lt h2)]; exact h2, tab_base (B' := 0) h3 same, tab_base (B' := 0) h4 same⟩
theorem HW.over {e : Env} {h : AH} {w w' : World} (hH : HW W0 e h w) (hb : Go.RowKit.Below w.heap.size w w') (hs : ∀ W B, W0 = some (W, some B) → St FDi w.heap.size w w') : HW W0 e h w' := by
 have same := hb.block
 refine ⟨⟨fun b o hb r s he => by rw [same r (hH.bnd b r s he)]; exact hH.obj b o hb r s he, hH.inj, fun b r s he => Nat.lt_of_lt_of_le (hH.bnd b r s he) hb.size, hH.gl⟩, hH.dom, fun W hW => ⟨(hH.st W hW).le, fun B h => ((hH.st W hW).st B h).trans (st_base (hs W.1 B (by rw [hW, ← h])) ((hH.st W hW).st B h).inv), fun h => ((hH.st W hW).bel h).trans (hb.mono (hH.st W hW).size)⟩, fun W hW b o hb' r s he => ⟨fun B h => ?_, (hH.prv W hW b o hb' r s he).2⟩⟩
 have hs' := st_base (hs W.1 B (by rw [hW, ← h])) ((hH.st W hW).st B h).inv
 have hlt := hH.bnd b r s he
 have hp := (hH.prv W hW b o hb' r s he).1 B h
 cases o with
 | fld wb p => exact fok_base hp same
 | row l ro => exact ⟨hp.1.imp id (notT_of (same r hlt)), fun h => ⟨notT_of (same r hlt) (hp.2 h).1, (hp.2 h).2.1, hs'.ext.priv r hlt (hp.2 h).2.2⟩⟩
 | mp l => exact ⟨notT_of (same r hlt) hp.1, hp.2.1, hs'.ext.priv r hlt hp.2.2⟩
theorem HW.less {e : Env} {h h' : AH} {w : World} (hH : HW W0 e h w) (hs : Sub h' h) (hn : h'.nx = h.nx) : HW W0 e h' w :=
 ⟨HR.of_sub hs hH.toHR, fun b x hx => by rw [hn]; exact hH.dom b x hx, hH.st, fun W hW b o hb => hH.prv W hW b o (hs b o hb)⟩
theorem st_self (w : World) : St FDi w.heap.size w w := St.refl ⟨Nat.le_refl _, fun k hk c fr hc => by rw [Array.getElem?_eq_none hk] at hc; cases hc⟩
theorem sv_self (w : World) : SV (w, some w.heap.size) w := ⟨fun B h => by cases h; exact Nat.le_refl _, fun B h => by cases h; exact st_self w, fun h => by cases h⟩
def lay0 : List (Nat × AO) → Tr AO → Tr AO
 | [], t => t
 | (b, o) :: l, t => lay0 l (upd (some o) 20 b t)
def subL : List (Nat × AO) → AH → Bool
 | [], _ => true
 | (b, o) :: l, h => (match h.at b with | some d => beqO o d | none => false) && subL l h
def ofL (l : List (Nat × AO)) (n : Nat) : AH := ⟨lay0 l .leaf, n⟩
theorem lay0_at : ∀ {l : List (Nat × AO)} {t : Tr AO} {b : Nat} {o : AO}, get 20 b (lay0 l t) = some o → (b, o) ∈ l ∨ get 20 b t = some o
 | [], t, b, o, h => .inr h
 | (c, d) :: l, t, b, o, h => by
  rcases lay0_at (l := l) h with h | h
  · exact .inl (List.mem_cons_of_mem _ h)
  by_cases e : b = c
  ·
   subst e
   have := get_upd_same _ _ _ _ _ h
   obtain rfl := Option.some.inj this
   exact .inl List.mem_cons_self
  rw [get_upd_other _ _ _ _ _ e] at h
  exact .inr h
theorem subL_at {h : AH} : ∀ {l : List (Nat × AO)}, subL l h = true → ∀ b o, (b, o) ∈ l → h.at b = some o
 | [], _, b, o, hm => by cases hm
 | (c, d) :: l, hs, b, o, hm => by
  simp only [subL, Bool.and_eq_true] at hs
  rcases List.mem_cons.1 hm with hm | hm
  ·
   obtain ⟨rfl, rfl⟩ := Prod.mk.inj hm
   have h1 := hs.1
   split at h1
   · rename_i d hd
     rw [hd, beqO_eq _ _ h1]
   cases h1
  exact subL_at hs.2 b o hm
theorem sub_ofL {l : List (Nat × AO)} {h : AH} {n : Nat} (hs : subL l h = true) : Sub (ofL l n) h := fun b o hb => by
 rcases lay0_at (show get 20 b (lay0 l .leaf) = some o from hb) with hm | hm
 · exact subL_at hs b o hm
 rw [get_leaf] at hm; cases hm
def stOk (r : Option (AV × AH)) (v : AV) (l : List (Nat × AO)) (n : Nat) : Bool :=
 match r with
 | some (u, h) => beq u v && Nat.beq h.nx n && subL l h
 | none => false
def memo (A : List AV) (H : List (Nat × AO)) (N : Nat) (V : AV) (H' : List (Nat × AO)) (N' : Nat) : List AV → AH → Option (AV × AH) := fun args h =>
 bif beqs args A && Nat.beq h.nx N && subL H h then some (V, ofL H' N') else none
section
variable {P : Program} {call : CallF}
theorem memo_ok {f : Nat} {A : List AV} {H H' : List (Nat × AO)} {N N' : Nat} {V : AV} (hcall : CallOK W0 P call) (hq : stOk (call f A (ofL H N)) V H' N' = true) : CallAt W0 P f (memo A H N V H' N') := by
 intro args h a h' hm e w vs hv hH
 unfold memo at hm
 cases hb : (beqs args A && Nat.beq h.nx N && subL H h) with
 | false => rw [hb] at hm; cases hm
 | true =>
  rw [hb] at hm
  obtain ⟨rfl, rfl⟩ := Prod.mk.inj (Option.some.inj hm)
  simp only [Bool.and_eq_true] at hb
  obtain ⟨⟨b1, b2⟩, b3⟩ := hb
  obtain rfl := beqs_eq _ _ b1
  have hn : h.nx = N := Nat.eq_of_beq_eq_true b2
  unfold stOk at hq
  split at hq
  ·
   rename_i u h1 hc
   simp only [Bool.and_eq_true] at hq
   obtain ⟨⟨c1, c2⟩, c3⟩ := hq
   obtain rfl := beq_eq _ _ c1
   have hn' : h1.nx = N' := Nat.eq_of_beq_eq_true c2
   have hs : HW W0 e (ofL H N) w := hH.less (sub_ofL b3) hn.symm
   refine (hcall f args _ _ _ hc e w vs hv hs).mono fun v w' ⟨e', g1, g2, g3⟩ => ⟨e', ⟨g1.le, fun b hb => g1.keep b (by show b < N; omega), ?_⟩, g2, g3.less (sub_ofL c3) hn'.symm⟩
   have := g1.nx
   show h.nx ≤ N'
   have e1 : (ofL H N).nx = N := rfl
   omega
  cases hq
mutual
def flat : AV → Bool
 | .bool _ => true
 | .int _ _ => true
 | .str _ => true
 | .nilp => true
 | .nils => true
 | .nilm => true
 | .nilf => true
 | .nili => true
 | .agg l => flats l
 | .tup l => flats l
 | _ => false
def flats : List AV → Bool
 | [] => true
 | a :: l => flat a && flats l
end
mutual
theorem VR.flat {e e' : Env} : ∀ (a : AV) (v : Value), Iv.flat a = true → VR e a v → VR e' a v
 | .bool b, v, _, hv => hv
 | .int k n, v, _, hv => hv
 | .str l, v, _, hv => hv
 | .nilp, v, _, hv => hv
 | .nils, v, _, hv => hv
 | .nilm, v, _, hv => hv
 | .nilf, v, _, hv => hv
 | .nili, v, _, hv => hv
 | .agg l, v, h, ⟨cs, h1, h2⟩ => ⟨cs, h1, VRL.flat l cs h h2⟩
 | .tup l, v, h, ⟨cs, h1, h2⟩ => ⟨cs, h1, VRL.flat l cs h h2⟩
 | .cap _ _ _ _, _, h, _ => by cases h
 | .ptr _ _, _, h, _ => by cases h
 | .sl _ _ _ _ _, _, h, _ => by cases h
 | .mp _, _, h, _ => by cases h
 | .fn _ _ _, _, h, _ => by cases h
 | .emp, _, h, _ => by cases h
theorem VRL.flat {e e' : Env} : ∀ (l : List AV) (vs : List Value), flats l = true → VRL e l vs → VRL e' l vs
 | [], vs, _, hv => hv
 | a :: l, vs, h, ⟨v, r, h1, h2, h3⟩ => by
  simp only [flats, Bool.and_eq_true] at h
  exact ⟨v, r, h1, VR.flat a v h.1 h2, VRL.flat l r h.2 h3⟩
end
def pureA (A : List AV) (V : AV) : List AV → AH → Option (AV × AH) := fun args h =>
 bif beqs args A then some (V, h) else none
theorem pure_ok {f : Nat} {A : List AV} {V : AV} {N' : Nat} (hcall : ∀ W B, CallOK (some (W, some B)) P call) (hf : flat V = true) (hfA : flats A = true) (hq : stOk (call f A (ofL [] 10)) V [] N' = true) : CallAt W0 P f (pureA A V) := by
 intro args h a h' hm e w vs hv hH
 unfold pureA at hm
 cases b1 : beqs args A with
 | false => rw [b1] at hm; cases hm
 | true =>
  rw [b1] at hm
  obtain ⟨rfl, rfl⟩ := Prod.mk.inj (Option.some.inj hm)
  obtain rfl := beqs_eq _ _ b1
  unfold stOk at hq
  split at hq
  ·
   rename_i u h1 hc
   simp only [Bool.and_eq_true] at hq
   obtain rfl := beq_eq _ _ hq.1.1
   have hno : ∀ b o, (ofL [] 10).at b ≠ some o := fun b o hb => by
    rw [show (ofL [] 10).at b = get 20 b (.leaf : Tr AO) from rfl, get_leaf] at hb; cases hb
   have hs : HW (some (w, some w.heap.size)) (fun b => if b < 9 then e b else none) (ofL [] 10) w := by
    have hle : ∀ b x, (if b < 9 then e b else none) = some x → e b = some x ∧ b < 9 := fun b x hx => by
     by_cases h10 : b < 9
     · rw [if_pos h10] at hx; exact ⟨hx, h10⟩
     rw [if_neg h10] at hx; cases hx
    refine ⟨⟨fun b o hb => absurd hb (hno b o), fun b b' o o' r s s' k1 => absurd k1 (hno b o), fun b r s he => hH.bnd b r s (hle _ _ he).1, fun g hg => ?_⟩, fun b x hx => Nat.lt_succ_of_lt (hle _ _ hx).2, fun W hW => ?_, fun W hW b o hb => absurd hb (hno b o)⟩
    · obtain ⟨s, hs⟩ := hH.gl g hg
      exact ⟨s, by rw [if_pos hg]; exact hs⟩
    obtain rfl := Option.some.inj hW
    exact sv_self w
   refine (hcall w w.heap.size f args _ _ _ hc _ w vs (VRL.flat _ _ hfA hv) hs).mono fun v w' ⟨e', g1, g2, g3⟩ => ⟨e, Gr.refl e h, VR.flat _ _ hf g2, ?_⟩
   have hst := (g3.st _ rfl).st _ rfl
   exact hH.over (hst.ext.below (Nat.le_refl _)) (fun _ _ _ => hst)
  cases hq
end
end Go.Iv
/- Answers that the model gives itself: where a byte stands in a text, how often it does. No program in sight. -/
namespace Go.Iv
open Go Go.Gam
variable {W0 : Option Asked}
def pos (c : Nat) : List Nat → Nat → Option Nat
 | [], _ => none
 | x :: l, i => bif Nat.beq x c then some i else pos c l (Nat.succ i)
def oIxB : List AV → AH → Option (AV × AH)
 | [.str l, .int .u8 (.ofNat c)], h => bif Nat.blt c 256 then (match pos c l 0 with | some i => (match mkN .i64 i with | some v => some (v, h) | none => none) | none => some (.int .i64 (.negSucc 0), h)) else none
 | _, _ => none
def cnt (c : Nat) : List Nat → Nat
 | [] => 0
 | x :: l => bif Nat.beq x c then Nat.succ (cnt c l) else cnt c l
def oCntB : List AV → AH → Option (AV × AH)
 | [.str l, .int .u8 (.ofNat c)], h => bif Nat.blt c 256 then (match mkN .i64 (cnt c l) with | some v => some (v, h) | none => none) else none
 | _, _ => none
theorem u8_beq (b : UInt8) {c : Nat} (hc : c < 256) : (b == c.toUInt8) = Nat.beq b.toNat c := by
 have h1 : c.toUInt8.toNat = c := by simp [Nat.toUInt8]; omega
 cases hb : Nat.beq b.toNat c with
 | true =>
  have := Nat.eq_of_beq_eq_true hb
  rw [beq_iff_eq]
  apply UInt8.toNat_inj.1
  rw [h1, this]
 | false =>
  rw [beq_eq_false_iff_ne]
  rintro rfl
  rw [h1, Nat.beq_refl] at hb
  cases hb
theorem pos_ix {c : Nat} (hc : c < 256) : ∀ (q : List UInt8) (k : Nat), (pos c (q.map UInt8.toNat) k = none ∧ Lib.indexByte q c.toUInt8 = -1) ∨ ∃ i, pos c (q.map UInt8.toNat) k = some (k + i) ∧ Lib.indexByte q c.toUInt8 = (i : Int)
 | [], k => .inl ⟨rfl, rfl⟩
 | b :: q, k => by
  simp only [List.map_cons, pos, Lib.indexByte, u8_beq b hc]
  cases hb : Nat.beq b.toNat c with
  | true => exact .inr ⟨0, rfl, rfl⟩
  | false =>
   rcases pos_ix hc q (k + 1) with ⟨h1, h2⟩ | ⟨i, h1, h2⟩
   · left
     simp [h1, h2]
   right
   refine ⟨i + 1, ?_, ?_⟩
   · simp only [cond_false, Nat.succ_eq_add_one, h1, Option.some.injEq]; omega
   have h3 : ¬ ((i : Int) = -1) := by omega
   simp [h2, h3]
theorem cnt_eq {c : Nat} (hc : c < 256) : ∀ q : List UInt8, cnt c (q.map UInt8.toNat) = Lib.countByte q c.toUInt8
 | [] => rfl
 | b :: q => by
  have ih := cnt_eq hc q
  unfold Lib.countByte at ih ⊢
  simp only [List.map_cons, cnt, List.count_cons, u8_beq b hc, ih]
  cases Nat.beq b.toNat c <;> simp
section
variable {P : Program} {f : Nat} {fn : Func} (hf : P.funcs[f]? = some fn) (hname : (fn.name == "runtime.NumGoroutine") = false) (hb : fn.body.isNone = true) (hn : Extern.findNext fn = none)
include hf hname hb hn
theorem ixB_ok (he : Extern.find fn = some Extern.BytealgIndexByte.indexByte) : CallAt W0 P f oIxB := by
 intro args h a h' hq e w vs hv hH
 unfold oIxB at hq
 split at hq
 ·
  rename_i l c
  obtain ⟨S, C, rfl, ⟨q, rfl, rfl⟩, rfl⟩ := VRL.pair hv
  cases hc : Nat.blt c 256 with
  | false => rw [hc] at hq; cases hq
  | true =>
   rw [hc] at hq
   simp only [cond_true] at hq
   have hlt : c < 256 := (Nat.blt_eq).mp hc
   have hrun : (callFunc f [Value.string (str q), .int .u8 (c : Int)].toArray).run P w = .ok (.value (.int .i64 (Lib.indexByte q c.toUInt8))) w := by
    rw [run_callFunc_extern hf hname hb hn he]
    show ((Extern.BytealgIndexByte.indexByte #[.string (str q), .int .u8 (c : Int)]).run P w).andThen _ = _
    rw [Lib.run_indexByteString]
    rfl
   rcases pos_ix hlt q 0 with ⟨h1, h2⟩ | ⟨i, h1, h2⟩
   · rw [h1] at hq
     obtain ⟨rfl, rfl⟩ := Prod.mk.inj (Option.some.inj hq)
     exact .inr ⟨_, w, hrun, e, Gr.refl e _, by rw [h2]; rfl, hH⟩
   rw [h1] at hq
   simp only at hq
   split at hq
   ·
    rename_i v hv
    obtain ⟨rfl, rfl⟩ := Prod.mk.inj (Option.some.inj hq)
    refine .inr ⟨_, w, hrun, e, Gr.refl e _, ?_, hH⟩
    rw [mkN_eq hv, h2, Nat.zero_add]
    rfl
   cases hq
 cases hq
theorem cntB_ok (he : Extern.find fn = some Extern.BytealgCount.count) : CallAt W0 P f oCntB := by
 intro args h a h' hq e w vs hv hH
 unfold oCntB at hq
 split at hq
 ·
  rename_i l c
  obtain ⟨S, C, rfl, ⟨q, rfl, rfl⟩, rfl⟩ := VRL.pair hv
  cases hc : Nat.blt c 256 with
  | false => rw [hc] at hq; cases hq
  | true =>
   rw [hc] at hq
   simp only [cond_true] at hq
   have hlt : c < 256 := (Nat.blt_eq).mp hc
   split at hq
   ·
    rename_i v hv
    obtain ⟨rfl, rfl⟩ := Prod.mk.inj (Option.some.inj hq)
    refine .inr ⟨.int .i64 (Lib.countByte q c.toUInt8), w, ?_, e, Gr.refl e _, ?_, hH⟩
    · rw [run_callFunc_extern hf hname hb hn he]
      show ((Extern.BytealgCount.count #[.string (str q), .int .u8 (c : Int)]).run P w).andThen _ = _
      rw [Lib.run_countString]
      rfl
    rw [mkN_eq hv, cnt_eq hlt]
    rfl
   cases hq
 cases hq
end
end Go.Iv
/- slices.Insert of files, one ahead of others: in place where there is room, into a new row else. -/
namespace Go.Proofs.YtoabojbpeafdkaaGreatDoor
open Go Go.Gam
def Sz (P : Program) (t e z : Nat) : Prop := P.underlying t = some (.slice e) ∧ (P.info? e).map (·.size) = some z
section
variable {P : Program} {F : Fs} {w : World} {x y : Operand} {T : TypeId} {t e z : Nat}
theorem v_lenZ {ats : Array TypeId} {a : Option Addr} {n c : Nat} (hat : ats = #[t]) (ht : Sz P t e z) (hx : ev F x = some (.slice a n c)) : Val P (.call ⟨.builtin .len, #[x], ats⟩) T F w (.int .i64 (n : Int)) :=
 fun ρ h d p af g => by
  subst hat
  simp [execOp, resolve, invoke, builtin, Builtin.len_, h x _ hx, underlying, ht.1, program, Sem.run, goInt]
theorem v_capZ {ats : Array TypeId} {a : Option Addr} {n c : Nat} (hat : ats = #[t]) (ht : Sz P t e z) (hx : ev F x = some (.slice a n c)) : Val P (.call ⟨.builtin .cap, #[x], ats⟩) T F w (.int .i64 (c : Int)) :=
 fun ρ h d p af g => by
  subst hat
  simp [execOp, resolve, invoke, builtin, Builtin.cap_, h x _ hx, underlying, ht.1, program, Sem.run, goInt]
theorem v_loZ {b o len cap l : Nat} {k : IntKind} (ht : Sz P t e z) (hx : ev F x = some (.slice (some ⟨b, o, none⟩) len cap)) (hy : ev F y = some (.int k (l : Int))) (h1 : l ≤ len) (h0 : len ≤ cap) (h2 : cap ≠ l) :
  Val P (.slice t x (some y) none none) T F w (.slice (some ⟨b, o + l * z, none⟩) (len - l) (cap - l)) :=
 fun ρ hρ d p af g => by
  obtain ⟨hu, hi⟩ := ht
  obtain ⟨i, h3, h4⟩ := Option.map_eq_some_iff.1 hi
  simp [execOp, hρ x _ hx, hρ y _ hy, Instr.sliceAt, Instr.slice, Instr.sliceBounds, Instr.sliceBound, asIntOf, underlying, hu, sizeOf, typeInfo, h3, h4, program, Sem.run, h1, h2, Addr.add_eq]
theorem v_hiZ {b o len cap h : Nat} {k : IntKind} (ht : Sz P t e z) (hx : ev F x = some (.slice (some ⟨b, o, none⟩) len cap)) (hy : ev F y = some (.int k (h : Int))) (h1 : h ≤ cap) (h2 : cap ≠ 0) :
  Val P (.slice t x none (some y) none) T F w (.slice (some ⟨b, o, none⟩) h cap) :=
 fun ρ hρ d p af g => by
  obtain ⟨hu, hi⟩ := ht
  obtain ⟨i, h3, h4⟩ := Option.map_eq_some_iff.1 hi
  simp [execOp, hρ x _ hx, hρ y _ hy, Instr.sliceAt, Instr.slice, Instr.sliceBounds, Instr.sliceBound, asIntOf, underlying, hu, sizeOf, typeInfo, h3, h4, program, Sem.run, h1, h2, Addr.add_eq]
theorem run_cells {b o k z : Nat} {w : World} {c : Array Value} {tt : TypeId} {fz : Nat × Nat} (hb : w.heap[b]? = some (.cells c tt fz)) (hk : o + k * z ≤ c.size) {m cap : Nat} : (Builtin.firstCells z k (.slice (some ⟨b, o, none⟩) m cap)).run P w = .ok ((c.toList.drop o).take (k * z)).toArray w :=
 run_firstCells_some (P := P) w z k ⟨b, o, none⟩ m cap ((c.toList.drop o).take (k * z)) (by simp; omega) (fun j v hv => by
  rw [Addr.add_eq, List.getElem?_take] at *
  split at hv
  · rw [List.getElem?_drop] at hv
    simpa [World.cell?, hb] using hv
  cases hv)
end
theorem sz27 : Sz Tryz.prog 27 77 2 := ⟨Tryz.underlying27, by kernel_rfl⟩
def over (l xs : List Value) (o : Nat) : List Value := l.take o ++ xs ++ l.drop (o + xs.length)
theorem over_len {l xs : List Value} {o : Nat} (h : o + xs.length ≤ l.length) : (over l xs o).length = l.length := by simp [over]; omega
theorem run_szZ {P : Program} {t e z : Nat} (ht : Sz P t e z) (w : World) : (sizeOf e).run P w = .ok z w := by
 obtain ⟨hu, hi⟩ := ht
 obtain ⟨i, h3, h4⟩ := Option.map_eq_some_iff.1 hi
 simp [sizeOf, typeInfo, h3, h4, program, Sem.run]
theorem run_copyZ {P : Program} {t e z ty n m k cap b o : Nat} {rest : List Nat} {w : World} {X : Value} {xs : List Value} {c : List Value} {tt : TypeId} (ht : Sz P t e z) (hl : ∀ W, (Builtin.lenOf X).run P W = .ok n W) (h0 : Nat.min n m = k) (h5 : (Builtin.firstCells z k X).run P w = .ok xs.toArray w)
  (hb : w.heap[b]? = some (.cells c.toArray tt (0, 0))) (hle : o + xs.length ≤ c.length) (hone : ∀ v ∈ xs, v.oneCell' = true) :
  (Builtin.copy_ (t :: rest).toArray ty #[.slice (some ⟨b, o, none⟩) m cap, X]).run P w = .ok (.int .i64 (k : Int)) (w.setRow b (over c xs o).toArray) := by
 have hst := run_storeCells_at (P := P) b o tt xs 0 c.toArray w hb (by simpa using hle) hone
 exact Iv.run_copy ht.1 (run_szZ ht w) (hl w) h0 h5 (by simpa [over] using hst)
theorem mem_mid {c : List Value} {a b n : Nat} {v : Value} (h : a + b ≤ 2 * n) (hv : v ∈ (c.drop a).take b) : v ∈ c.take (2 * n) := by
 have e : (c.drop a).take b = ((c.take (2 * n)).take (a + b)).drop a := by
  rw [List.take_take, Nat.min_eq_left h, List.drop_take, Nat.add_sub_cancel_left]
 rw [e] at hv
 exact List.mem_of_mem_take (List.mem_of_mem_drop hv)
theorem en232 : Ent Tryz.prog 232 := ent Tryz.func232 (by kernel_rfl) (by kernel_rfl)
theorem mixed : Tryz.prog.follows .mixedOrders = true := by kernel_rfl
theorem Ins_room (b n i cap vb cv : Nat) (c vs : List Value) (t tv : TypeId) (vc : Array Value) (w : World) (hi : i < n) (hroom : n + 1 ≤ cap) (hn : n ≤ 1000) (hb : w.heap[b]? = some (.cells c.toArray t (0, 0))) (hc : cap * 2 ≤ c.length) (hv : w.heap[vb]? = some (.cells vc tv (0, 0))) (hvl : vc.toList.take 2 = vs) (hv2 : vs.length = 2) (hne : vb ≠ b)
  (h1c : ∀ v ∈ c.take (2 * n), v.oneCell' = true) (h1v : ∀ v ∈ vs, v.oneCell' = true) :
  Ret Tryz.prog 232 [.slice (some ⟨b, 0, none⟩) n cap, .int .i64 (i : Int), .slice (some ⟨vb, 0, none⟩) 1 cv] w fun v w' => v = .slice (some ⟨b, 0, none⟩) (n + 1) cap ∧ Upd w w' b (.cells (over (over c ((c.drop (i * 2)).take ((n - i) * 2)) ((i + 1) * 2)) vs (i * 2)).toArray t (0, 0)) := by
 refine enter 95 [(0, .slice (some ⟨b, 0, none⟩) n cap), (1, .int .i64 (i : Int)), (2, .slice (some ⟨vb, 0, none⟩) 1 cv)] 6 Tryz.func232 rfl rfl rfl rfl rfl ?_; intro a hF
 refine W_sr rfl (fun K hK => ?_)
 refine sv hF (v_assign rfl) rfl ?_; clear hF a; intro a hF
 refine WL_nil (hK _ _ ?_); clear hK K
 refine W_sr rfl (fun K hK => ?_)
 refine sv hF (v_move rfl) rfl ?_; clear hF a; intro a hF
 refine sv hF (v_move rfl) rfl ?_; clear hF a; intro a hF
 refine sv hF (v_loZ sz27 rfl rfl (by omega) (by omega) (by omega)) rfl ?_; clear hF a; intro a hF
 refine WL_nil (hK _ _ ?_); clear hK K
 refine W_sr rfl (fun K hK => ?_)
 refine sv hF (v_move rfl) rfl ?_; clear hF a; intro a hF
 refine sv hF (v_lenZ rfl sz27 rfl) rfl ?_; clear hF a; intro a hF
 refine sv hF (v_assign rfl) rfl ?_; clear hF a; intro a hF
 refine WL_nil (hK _ _ ?_); clear hK K
 refine W_seq (W_sr rfl (fun K hK => ?_))
 refine sv hF (v_move rfl) rfl ?_; clear hF a; intro a hF
 refine sv hF ((v_eql rfl rfl).as (v := .bool _) (u := .bool false) (by simp)) rfl ?_; clear hF a; intro a hF
 refine WL_nil (hK _ _ ?_); clear hK K
 refine W_ifF hF rfl (W_skip ?_)
 refine W_sr rfl (fun K hK => ?_)
 refine sv hF (v_move rfl) rfl ?_; clear hF a; intro a hF
 refine sv hF (v_lenZ rfl sz27 rfl) rfl ?_; clear hF a; intro a hF
 refine sv hF (v_assign rfl) rfl ?_; clear hF a; intro a hF
 refine WL_nil (hK _ _ ?_); clear hK K
 refine W_seq (W_sr rfl (fun K hK => ?_))
 refine sv hF (v_move rfl) rfl ?_; clear hF a; intro a hF
 refine sv hF (v_move rfl) rfl ?_; clear hF a; intro a hF
 refine sv hF ((v_eql rfl rfl).as (u := .bool false) (by simp; omega)) rfl ?_; clear hF a; intro a hF
 refine WL_nil (hK _ _ ?_); clear hK K
 refine W_ifF hF rfl (W_skip ?_)
 refine W_seq (W_sr rfl (fun K hK => ?_))
 refine sv hF (v_move rfl) rfl ?_; clear hF a; intro a hF
 refine sv hF (v_move rfl) rfl ?_; clear hF a; intro a hF
 refine sv hF ((v_addI rfl rfl (by omega)).as (u := .int .i64 ((n + 1 : Nat) : Int)) (by simp)) rfl ?_; clear hF a; intro a hF
 refine sv hF (v_move rfl) rfl ?_; clear hF a; intro a hF
 refine sv hF (v_capZ rfl sz27 rfl) rfl ?_; clear hF a; intro a hF
 refine sv hF ((v_gtr rfl rfl).as (u := .bool false) (by simp; omega)) rfl ?_; clear hF a; intro a hF
 refine WL_nil (hK _ _ ?_); clear hK K
 refine W_ifF hF rfl (W_skip ?_)
 refine W_sr rfl (fun K hK => ?_)
 refine sv hF (v_move rfl) rfl ?_; clear hF a; intro a hF
 refine sv hF (v_move rfl) rfl ?_; clear hF a; intro a hF
 refine sv hF (v_move rfl) rfl ?_; clear hF a; intro a hF
 refine sv hF ((v_addI rfl rfl (by omega)).as (u := .int .i64 ((n + 1 : Nat) : Int)) (by simp)) rfl ?_; clear hF a; intro a hF
 refine sv hF (v_hiZ sz27 rfl rfl (by omega) (by omega)) rfl ?_; clear hF a; intro a hF
 refine sv hF (v_assign rfl) rfl ?_; clear hF a; intro a hF
 refine WL_nil (hK _ _ ?_); clear hK K
 refine W_seq (W_sr rfl (fun K hK => ?_))
 refine sv hF (v_move rfl) rfl ?_; clear hF a; intro a hF
 refine sv hF (v_move rfl) rfl ?_; clear hF a; intro a hF
 refine sv hF (v_move rfl) rfl ?_; clear hF a; intro a hF
 refine sv hF (v_move rfl) rfl ?_; clear hF a; intro a hF
 refine sv hF ((v_addI rfl rfl (by omega)).as (u := .int .i64 ((i + 1 : Nat) : Int)) (by simp)) rfl ?_; clear hF a; intro a hF
 refine sv hF (v_loZ sz27 rfl rfl (by omega) (by omega) (by omega)) rfl ?_; clear hF a; intro a hF
 have hov : (callFunc 291 #[.slice (some ⟨vb, 0, none⟩) 1 cv, .slice (some ⟨b, 0 + (i + 1) * 2, none⟩) (n + 1 - (i + 1)) (cap - (i + 1))]).run Tryz.prog w = .ok (.value (.bool false)) w := by
  rw [run_callFunc_extern Tryz.func291 (by kernel_rfl) (by kernel_rfl) (by kernel_rfl) (e := Extern.SlicesOverlaps.overlaps #[27, 27] #[4]) (by kernel_rfl),
   Lib.run_overlaps_apart w 27 4 77 Tryz.underlying27 2 (fun w => run_szZ sz27 w) ⟨vb, 0, none⟩ ⟨b, 0 + (i + 1) * 2, none⟩ 1 cv _ _ hne tv t vc.size c.length (by simp [World.shape?, hv]) (by simp [World.shape?, hb]) (by omega) (by simp [World.frozen?, hv]) (by simp [World.frozen?, hv])]
  rfl
 refine s_run hF (v := .bool false) (w' := w) (fun ρ hρ => ?_) rfl ?_
 ·
  have e0 := hρ (.func 291) _ rfl
  have e1 := hρ (.tmp 61) _ rfl
  have e2 := hρ (.tmp 66) _ rfl
  have hov' := hov
  simp only [Nat.zero_add, Nat.add_sub_add_right] at hov'
  simp [execOp, resolve, e0, e1, e2, Deferred.ofValue, invoke, hov']
 clear hF a; intro a hF
 refine sv hF (v_not rfl) rfl ?_; clear hF a; intro a hF
 refine WL_nil (hK _ _ ?_); clear hK K
 refine W_ifT hF rfl ?_
 refine W_seq (W_dS (fun _ => True) (m := 9) rfl mixed (fun K hK => ?_))
 refine b_v (i := 0) rfl (by kernel_rfl) hF (fun w2 hx => v_move rfl) rfl trivial ?_; clear hF a; intro a hF
 refine b_v (i := 1) rfl (by kernel_rfl) hF (fun w2 hx => v_move rfl) rfl trivial ?_; clear hF a; intro a hF
 refine b_v (i := 2) rfl (by kernel_rfl) hF (fun w2 hx => v_move rfl) rfl trivial ?_; clear hF a; intro a hF
 refine b_v (i := 3) rfl (by kernel_rfl) hF (fun w2 hx => (v_addI rfl rfl (by omega)).as (u := .int .i64 ((i + 1 : Nat) : Int)) (by simp)) rfl trivial ?_; clear hF a; intro a hF
 refine b_v (i := 4) rfl (by kernel_rfl) hF (fun w2 hx => v_loZ sz27 rfl rfl (by omega) (by omega) (by omega)) rfl trivial ?_; clear hF a; intro a hF
 refine b_v (i := 5) rfl (by kernel_rfl) hF (fun w2 hx => v_move rfl) rfl trivial ?_; clear hF a; intro a hF
 refine b_v (i := 6) rfl (by kernel_rfl) hF (fun w2 hx => v_move rfl) rfl trivial ?_; clear hF a; intro a hF
 refine b_v (i := 7) rfl (by kernel_rfl) hF (fun w2 hx => v_loZ sz27 rfl rfl (by omega) (by omega) (by omega)) rfl trivial ?_; clear hF a; intro a hF
 refine b_e (i := 8) (by kernel_rfl) rfl ?_
 have hb' : ({ w with drawn := w.drawn + 1 } : World).heap[b]? = some (.cells c.toArray t (0, 0)) := hb
 obtain ⟨w1, hw1⟩ : ∃ w1 : World, w1 = { w with drawn := w.drawn + 1 } := ⟨_, rfl⟩
 rw [← hw1] at hb' ⊢
 have hl1 : ((c.drop (i * 2)).take ((n - i) * 2)).length = (n - i) * 2 := by simp; omega
 have hc1 := run_copyZ sz27 (w := w1) (rest := [27]) (ty := 3) (b := b) (o := 0 + (i + 1) * 2) (m := n + 1 - (i + 1)) (cap := cap - (i + 1)) (X := .slice (some ⟨b, 0 + i * 2, none⟩) (n + 1 - i) (cap - i)) (k := n - i) (n := n + 1 - i) (xs := (c.drop (i * 2)).take ((n - i) * 2)) (fun _ => rfl) (by show min (n + 1 - i) (n + 1 - (i + 1)) = n - i; omega)
  (by have := run_cells (P := Tryz.prog) (w := w1) (b := b) (o := 0 + i * 2) (k := n - i) (z := 2) hb' (by simp; omega) (m := n + 1 - i) (cap := cap - i); simpa using this) hb' (by rw [hl1]; simp; omega) (fun v hv => h1c v (mem_mid (by omega) hv))
 obtain ⟨c1, hc1e⟩ : ∃ c1, c1 = over c ((c.drop (i * 2)).take ((n - i) * 2)) (0 + (i + 1) * 2) := ⟨_, rfl⟩
 have hc1l : c1.length = c.length := by rw [hc1e, over_len (by rw [hl1]; omega)]
 rw [← hc1e] at hc1
 obtain ⟨w2, hw2⟩ : ∃ w2, w2 = w1.setRow b c1.toArray := ⟨_, rfl⟩
 rw [← hw2] at hc1
 refine s_run hF (v := .int .i64 ((n - i : Nat) : Int)) (w' := w2) (fun ρ hρ => ?_) rfl ?_
 ·
  have e1 := hρ (.tmp 73) _ rfl
  have e2 := hρ (.tmp 76) _ rfl
  have e3 : (#[Operand.tmp 73, Operand.tmp 76] : Array Operand).map ρ = #[.slice (some ⟨b, 0 + (i + 1) * 2, none⟩) (n + 1 - (i + 1)) (cap - (i + 1)), .slice (some ⟨b, 0 + i * 2, none⟩) (n + 1 - i) (cap - i)] := by
   apply Array.toList_inj.1; rw [Array.toList_map]; show [ρ (.tmp 73), ρ (.tmp 76)] = _
   rw [e1, e2]
  have hc1' : (Builtin.copy_ #[27, 27] 3 #[.slice (some ⟨b, 0 + (i + 1) * 2, none⟩) (n + 1 - (i + 1)) (cap - (i + 1)), .slice (some ⟨b, 0 + i * 2, none⟩) (n + 1 - i) (cap - i)]).run Tryz.prog w1 = _ := hc1
  simp only [execOp, resolve, invoke, builtin, e3, Sem.run_bind, Sem.run_pure, Result.andThen_ok, hc1']
 clear hF a; intro a hF
 refine WL_nil ⟨trivial, ?_⟩
 refine b_done (by kernel_rfl) ?_
 refine hK _ _ ?_; clear hK K
 refine W_sr rfl (fun K hK => ?_)
 refine sv hF (v_move rfl) rfl ?_; clear hF a; intro a hF
 refine sv hF (v_move rfl) rfl ?_; clear hF a; intro a hF
 refine sv hF (v_loZ sz27 rfl rfl (by omega) (by omega) (by omega)) rfl ?_; clear hF a; intro a hF
 refine sv hF (v_move rfl) rfl ?_; clear hF a; intro a hF
 have hb2 : w2.heap[b]? = some (.cells c1.toArray t (0, 0)) := by rw [hw2, setRow_heap w1 b c.toArray c1.toArray t (0, 0) hb']
 have hv2' : w2.heap[vb]? = some (.cells vc tv (0, 0)) := by rw [hw2, setRow_other w1 b vb _ hne, hw1]; exact hv
 have hsz2 : 2 ≤ vc.size := by
  have := hv2
  rw [← hvl, List.length_take] at this
  have h3 : vc.toList.length = vc.size := by simp
  omega
 have hcp := run_copyZ sz27 (w := w2) (rest := [27]) (ty := 3) (b := b) (o := 0 + i * 2) (m := n + 1 - i) (cap := cap - i) (X := .slice (some ⟨vb, 0, none⟩) 1 cv) (k := 1) (n := 1) (xs := vs) (fun _ => rfl) (by show min 1 (n + 1 - i) = 1; omega)
  (by have := run_cells (P := Tryz.prog) (w := w2) (b := vb) (o := 0) (k := 1) (z := 2) hv2' (by omega) (m := 1) (cap := cv); simpa [hvl] using this) hb2 (by omega) h1v
 refine s_run hF (v := .int .i64 ((1 : Nat) : Int)) (w' := w2.setRow b (over c1 vs (0 + i * 2)).toArray) (fun ρ hρ => ?_) rfl ?_
 ·
  have e1 := hρ (.tmp 80) _ rfl
  have e2 := hρ (.tmp 81) _ rfl
  have e3 : (#[Operand.tmp 80, Operand.tmp 81] : Array Operand).map ρ = #[.slice (some ⟨b, 0 + i * 2, none⟩) (n + 1 - i) (cap - i), .slice (some ⟨vb, 0, none⟩) 1 cv] := by
   apply Array.toList_inj.1; rw [Array.toList_map]; show [ρ (.tmp 80), ρ (.tmp 81)] = _
   rw [e1, e2]
  have hc1' : (Builtin.copy_ #[27, 27] 3 #[.slice (some ⟨b, 0 + i * 2, none⟩) (n + 1 - i) (cap - i), .slice (some ⟨vb, 0, none⟩) 1 cv]).run Tryz.prog w2 = _ := hcp
  simp only [execOp, resolve, invoke, builtin, e3, Sem.run_bind, Sem.run_pure, Result.andThen_ok, hc1']
 clear hF a; intro a hF
 refine WL_nil (hK _ _ ?_); clear hK K
 refine W_sr rfl (fun K hK => ?_)
 refine sv hF (v_move rfl) rfl ?_; clear hF a; intro a hF
 refine sv hF (v_assign rfl) rfl ?_; clear hF a; intro a hF
 refine WL_nil (hK _ _ ?_); clear hK K
 refine W_ret ?_
 refine ⟨_, _, hF, rfl, rfl, ?_⟩
 have hl2 : (over c1 vs (0 + i * 2)).length = c1.length := over_len (by omega)
 refine ⟨by rw [hw2, hw1]; rfl, by rw [hw2, hw1]; rfl, by rw [hw2, hw1]; rfl, by rw [hw2, hw1]; simp [World.setRow], ?_, fun j hj => ?_⟩
 · rw [setRow_heap w2 b c1.toArray _ t (0, 0) hb2, hc1e]
   simp only [Nat.zero_add]
 rw [setRow_other w2 b j _ hj, hw2, setRow_other w1 b j _ hj, hw1]
theorem inf77 : ∃ i, Tryz.prog.info? 77 = some i ∧ i.size = 2 ∧ i.zero = some (.agg #[.string ⟨#[]⟩, .slice none 0 0]) ∧ i.bytes = 40 := by
 have h : (Tryz.prog.info? 77).map (fun i => (i.size, i.bytes)) = some (2, 40) := by kernel_rfl
 have hz : (Tryz.prog.info? 77).bind (·.zero) = some (.agg #[.string ⟨#[]⟩, .slice none 0 0]) := by kernel_rfl
 obtain ⟨i, h1, h2⟩ := Option.map_eq_some_iff.1 h
 rw [h1] at hz
 exact ⟨i, h1, (Prod.mk.inj h2).1, hz, (Prod.mk.inj h2).2⟩
theorem Ins_grow (b n i vb cv : Nat) (c vs : List Value) (t tv : TypeId) (vc : Array Value) (w : World) (hi : i < n) (hn : n ≤ 1000) (hb : w.heap[b]? = some (.cells c.toArray t (0, 0))) (hc : n * 2 ≤ c.length) (hv : w.heap[vb]? = some (.cells vc tv (0, 0))) (hvl : vc.toList.take 2 = vs) (hv2 : vs.length = 2)
  (h1c : ∀ v ∈ c.take (2 * n), v.oneCell' = true) (h1v : ∀ v ∈ vs, v.oneCell' = true) :
  Ret Tryz.prog 232 [.slice (some ⟨b, 0, none⟩) n n, .int .i64 (i : Int), .slice (some ⟨vb, 0, none⟩) 1 cv] w fun v w' => ∃ (G : Nat) (C : List Value), v = .slice (some ⟨w.heap.size, 0, none⟩) (n + 1) G ∧ G ≤ maxLen ∧ Iv.New w w' (.cells C.toArray 77 (0, 0)) ∧ C.length = G * 2 ∧ (n + 1) * 2 ≤ C.length ∧
   ∃ R : List Value, R.length = G * 2 ∧ R.take (i * 2) = c.take (i * 2) ∧ C = over (over R vs (i * 2)) ((c.drop (i * 2)).take ((n - i) * 2)) ((i + 1) * 2) := by
 refine enter 95 [(0, .slice (some ⟨b, 0, none⟩) n n), (1, .int .i64 (i : Int)), (2, .slice (some ⟨vb, 0, none⟩) 1 cv)] 6 Tryz.func232 rfl rfl rfl rfl rfl ?_; intro a hF
 refine W_sr rfl (fun K hK => ?_)
 refine sv hF (v_assign rfl) rfl ?_; clear hF a; intro a hF
 refine WL_nil (hK _ _ ?_); clear hK K
 refine W_sr rfl (fun K hK => ?_)
 refine sv hF (v_move rfl) rfl ?_; clear hF a; intro a hF
 refine sv hF (v_move rfl) rfl ?_; clear hF a; intro a hF
 refine sv hF (v_loZ sz27 rfl rfl (by omega) (by omega) (by omega)) rfl ?_; clear hF a; intro a hF
 refine WL_nil (hK _ _ ?_); clear hK K
 refine W_sr rfl (fun K hK => ?_)
 refine sv hF (v_move rfl) rfl ?_; clear hF a; intro a hF
 refine sv hF (v_lenZ rfl sz27 rfl) rfl ?_; clear hF a; intro a hF
 refine sv hF (v_assign rfl) rfl ?_; clear hF a; intro a hF
 refine WL_nil (hK _ _ ?_); clear hK K
 refine W_seq (W_sr rfl (fun K hK => ?_))
 refine sv hF (v_move rfl) rfl ?_; clear hF a; intro a hF
 refine sv hF ((v_eql rfl rfl).as (v := .bool _) (u := .bool false) (by simp)) rfl ?_; clear hF a; intro a hF
 refine WL_nil (hK _ _ ?_); clear hK K
 refine W_ifF hF rfl (W_skip ?_)
 refine W_sr rfl (fun K hK => ?_)
 refine sv hF (v_move rfl) rfl ?_; clear hF a; intro a hF
 refine sv hF (v_lenZ rfl sz27 rfl) rfl ?_; clear hF a; intro a hF
 refine sv hF (v_assign rfl) rfl ?_; clear hF a; intro a hF
 refine WL_nil (hK _ _ ?_); clear hK K
 refine W_seq (W_sr rfl (fun K hK => ?_))
 refine sv hF (v_move rfl) rfl ?_; clear hF a; intro a hF
 refine sv hF (v_move rfl) rfl ?_; clear hF a; intro a hF
 refine sv hF ((v_eql rfl rfl).as (u := .bool false) (by simp; omega)) rfl ?_; clear hF a; intro a hF
 refine WL_nil (hK _ _ ?_); clear hK K
 refine W_ifF hF rfl (W_skip ?_)
 refine W_seq (W_sr rfl (fun K hK => ?_))
 refine sv hF (v_move rfl) rfl ?_; clear hF a; intro a hF
 refine sv hF (v_move rfl) rfl ?_; clear hF a; intro a hF
 refine sv hF ((v_addI rfl rfl (by omega)).as (u := .int .i64 ((n + 1 : Nat) : Int)) (by simp)) rfl ?_; clear hF a; intro a hF
 refine sv hF (v_move rfl) rfl ?_; clear hF a; intro a hF
 refine sv hF (v_capZ rfl sz27 rfl) rfl ?_; clear hF a; intro a hF
 refine sv hF ((v_gtr rfl rfl).as (u := .bool true) (by simp; omega)) rfl ?_; clear hF a; intro a hF
 refine WL_nil (hK _ _ ?_); clear hK K
 refine W_ifT hF rfl ?_
 refine W_sr rfl (fun K hK => ?_)
 refine sv hF (v_move rfl) rfl ?_; clear hF a; intro a hF
 refine sv hF (v_move rfl) rfl ?_; clear hF a; intro a hF
 refine sv hF (v_hiZ sz27 rfl rfl (by omega) (by omega)) rfl ?_; clear hF a; intro a hF
 refine sv hF (v_move rfl) rfl ?_; clear hF a; intro a hF
 refine sv hF (v_move rfl) rfl ?_; clear hF a; intro a hF
 refine sv hF ((v_addI rfl rfl (by omega)).as (u := .int .i64 ((n + 1 : Nat) : Int)) (by simp)) rfl ?_; clear hF a; intro a hF
 refine sv hF (v_move rfl) rfl ?_; clear hF a; intro a hF
 refine sv hF ((v_subI rfl rfl (by omega)).as (u := .int .i64 ((n + 1 - i : Nat) : Int)) (by congr 1; omega)) rfl ?_; clear hF a; intro a hF
 obtain ⟨inf, hinf, hs2, hz, hby⟩ := inf77
 have hold : (Builtin.firstCells inf.size i (.slice (some ⟨b, 0, none⟩) i n)).run Tryz.prog w.drew = .ok (c.take (i * 2)).toArray w.drew := by
  rw [hs2]
  have := run_cells (P := Tryz.prog) (w := w.drew) (b := b) (o := 0) (k := i) (z := 2) (c := c.toArray) (tt := t) (fz := (0, 0)) hb (by simp; omega) (m := i) (cap := n)
  simpa using this
 have happ := Lib.run_append_grow_zeros w 27 3 27 77 inf _ .i64 .i64 Tryz.underlying27 Tryz.underlying3 hinf hz (some ⟨b, 0, none⟩) i n (c.take (i * 2)) hold (n + 1 - i) (by omega) (by omega) (by omega) (by omega) (by rw [hby]; omega) (by rw [hby, show i + (n + 1 - i) = n + 1 by omega]; exact growslice_fits (by omega) (by omega))
 have hik : i + (n + 1 - i) = n + 1 := by omega
 rw [hik] at happ
 obtain ⟨G, hG⟩ : ∃ G, G = grownCap w (n + 1) n 77 := ⟨_, rfl⟩
 have hGn : n + 1 ≤ G := by rw [hG]; exact grownCap_ge w _ _ _
 have hGm : G ≤ maxLen := by rw [hG]; exact grownCap_le_maxLen w (n + 1) n 77 (by simp only [maxLen]; omega)
 rw [← hG] at happ
 obtain ⟨R, hR⟩ : ∃ R : List Value, R.toArray = ((c.take (i * 2)).toArray ++ Builtin.zeroCells (Value.agg #[.string ⟨#[]⟩, .slice none 0 0]).cells (n + 1 - i) ++ Builtin.zeroCells (Value.agg #[.string ⟨#[]⟩, .slice none 0 0]).cells (G - (n + 1))) := ⟨_, Array.toArray_toList⟩
 have hRl : R.length = G * 2 := by
  have := congrArg Array.size hR
  simp only [Array.size_append, size_zeroCells, List.size_toArray, List.length_take, Value.cells] at this
  simp at this
  omega
 have hRt : R.take (i * 2) = c.take (i * 2) := by
  have := congrArg Array.toList hR
  simp only [Array.toList_append] at this
  have e2 : R = c.take (i * 2) ++ ((Builtin.zeroCells (Value.agg #[.string ⟨#[]⟩, .slice none 0 0]).cells (n + 1 - i)).toList ++ (Builtin.zeroCells (Value.agg #[.string ⟨#[]⟩, .slice none 0 0]).cells (G - (n + 1))).toList) := by simpa using this
  rw [e2, List.take_append_of_le_length (by simp; omega), List.take_of_length_le (by simp; omega)]
 rw [← hR] at happ
 obtain ⟨w3, hw3⟩ : ∃ w3, w3 = w.drew.alloc (.cells R.toArray 77) := ⟨_, rfl⟩
 have hnew : Iv.New w w3 (.cells R.toArray 77 (0, 0)) := by rw [hw3]; exact Iv.new_drew w _ (Iv.cty (by decide))
 rw [← hw3] at happ
 refine s_run hF (v := .slice (some ⟨w.heap.size, 0, none⟩) (n + 1) G) (w' := w3) (fun ρ hρ => ?_) rfl ?_
 ·
  have e1 := hρ (.tmp 34) _ rfl
  have e2 := hρ (.tmp 39) _ rfl
  have e3 : (#[Operand.tmp 34, Operand.tmp 39] : Array Operand).map ρ = #[.slice (some ⟨b, 0, none⟩) i n, .int .i64 ((n + 1 - i : Nat) : Int)] := by
   apply Array.toList_inj.1; rw [Array.toList_map]; show [ρ (.tmp 34), ρ (.tmp 39)] = _
   rw [e1, e2]
  simp only [execOp, resolve, invoke, builtin, e3, Sem.run_bind, Sem.run_pure, Result.andThen_ok, happ]
 clear hF a; intro a hF
 refine sv hF (v_assign rfl) rfl ?_; clear hF a; intro a hF
 refine WL_nil (hK _ _ ?_); clear hK K
 have hbw := heap_lt hb
 have hvw := heap_lt hv
 have hb3 : w3.heap[w.heap.size]? = some (.cells R.toArray 77 (0, 0)) := hnew.new
 have hv3 : w3.heap[vb]? = some (.cells vc tv (0, 0)) := by rw [hnew.old vb hvw]; exact hv
 have hsz2 : 2 ≤ vc.size := by
  have := hv2
  rw [← hvl, List.length_take] at this
  have h3 : vc.toList.length = vc.size := by simp
  omega
 refine W_sr rfl (fun K hK => ?_)
 refine sv hF (v_move rfl) rfl ?_; clear hF a; intro a hF
 refine sv hF (v_move rfl) rfl ?_; clear hF a; intro a hF
 refine sv hF (v_loZ sz27 rfl rfl (by omega) (by omega) (by omega)) rfl ?_; clear hF a; intro a hF
 refine sv hF (v_move rfl) rfl ?_; clear hF a; intro a hF
 obtain ⟨N, hN⟩ : ∃ N, N = w.heap.size := ⟨_, rfl⟩
 rw [← hN] at hb3 hF
 have hcp := run_copyZ sz27 (w := w3) (rest := [27]) (ty := 3) (b := N) (o := 0 + i * 2) (m := n + 1 - i) (cap := G - i) (X := .slice (some ⟨vb, 0, none⟩) 1 cv) (k := 1) (n := 1) (xs := vs) (fun _ => rfl) (by show min 1 (n + 1 - i) = 1; omega)
  (by have := run_cells (P := Tryz.prog) (w := w3) (b := vb) (o := 0) (k := 1) (z := 2) hv3 (by omega) (m := 1) (cap := cv); simpa [hvl] using this) hb3 (by omega) h1v
 obtain ⟨c1, hc1e⟩ : ∃ c1, c1 = over R vs (0 + i * 2) := ⟨_, rfl⟩
 have hc1l : c1.length = R.length := by rw [hc1e, over_len (by omega)]
 rw [← hc1e] at hcp
 obtain ⟨w4, hw4⟩ : ∃ w4, w4 = w3.setRow N c1.toArray := ⟨_, rfl⟩
 have hb4 : w4.heap[N]? = some (.cells c1.toArray 77 (0, 0)) := by rw [hw4, setRow_heap w3 N R.toArray c1.toArray 77 (0, 0) hb3]
 have hbb : w4.heap[b]? = some (.cells c.toArray t (0, 0)) := by rw [hw4, setRow_other w3 N b _ (by omega), hnew.old b hbw]; exact hb
 rw [← hw4] at hcp
 refine s_run hF (v := .int .i64 ((1 : Nat) : Int)) (w' := w4) (fun ρ hρ => ?_) rfl ?_
 ·
  have e1 := hρ (.tmp 43) _ rfl
  have e2 := hρ (.tmp 44) _ rfl
  have e3 : (#[Operand.tmp 43, Operand.tmp 44] : Array Operand).map ρ = #[.slice (some ⟨N, 0 + i * 2, none⟩) (n + 1 - i) (G - i), .slice (some ⟨vb, 0, none⟩) 1 cv] := by
   apply Array.toList_inj.1; rw [Array.toList_map]; show [ρ (.tmp 43), ρ (.tmp 44)] = _
   rw [e1, e2]
  have hc1' : (Builtin.copy_ #[27, 27] 3 #[.slice (some ⟨N, 0 + i * 2, none⟩) (n + 1 - i) (G - i), .slice (some ⟨vb, 0, none⟩) 1 cv]).run Tryz.prog w3 = _ := hcp
  simp only [execOp, resolve, invoke, builtin, e3, Sem.run_bind, Sem.run_pure, Result.andThen_ok, hc1']
 clear hF a; intro a hF
 refine WL_nil (hK _ _ ?_); clear hK K
 refine W_seq (W_dS (fun _ => True) (m := 9) rfl mixed (fun K hK => ?_))
 refine b_v (i := 0) rfl (by kernel_rfl) hF (fun w2 hx => v_move rfl) rfl trivial ?_; clear hF a; intro a hF
 refine b_v (i := 1) rfl (by kernel_rfl) hF (fun w2 hx => v_move rfl) rfl trivial ?_; clear hF a; intro a hF
 refine b_v (i := 2) rfl (by kernel_rfl) hF (fun w2 hx => v_move rfl) rfl trivial ?_; clear hF a; intro a hF
 refine b_v (i := 3) rfl (by kernel_rfl) hF (fun w2 hx => (v_addI rfl rfl (by omega)).as (u := .int .i64 ((i + 1 : Nat) : Int)) (by simp)) rfl trivial ?_; clear hF a; intro a hF
 refine b_v (i := 4) rfl (by kernel_rfl) hF (fun w2 hx => v_loZ sz27 rfl rfl (by omega) (by omega) (by omega)) rfl trivial ?_; clear hF a; intro a hF
 refine b_v (i := 5) rfl (by kernel_rfl) hF (fun w2 hx => v_move rfl) rfl trivial ?_; clear hF a; intro a hF
 refine b_v (i := 6) rfl (by kernel_rfl) hF (fun w2 hx => v_move rfl) rfl trivial ?_; clear hF a; intro a hF
 refine b_v (i := 7) rfl (by kernel_rfl) hF (fun w2 hx => v_loZ sz27 rfl rfl (by omega) (by omega) (by omega)) rfl trivial ?_; clear hF a; intro a hF
 refine b_e (i := 8) (by kernel_rfl) rfl ?_
 obtain ⟨w5, hw5⟩ : ∃ w5 : World, w5 = { w4 with drawn := w4.drawn + 1 } := ⟨_, rfl⟩
 have hb5 : w5.heap[N]? = some (.cells c1.toArray 77 (0, 0)) := by rw [hw5]; exact hb4
 have hbb5 : w5.heap[b]? = some (.cells c.toArray t (0, 0)) := by rw [hw5]; exact hbb
 rw [← hw5]
 have hl1 : ((c.drop (i * 2)).take ((n - i) * 2)).length = (n - i) * 2 := by simp; omega
 have hc2 := run_copyZ sz27 (w := w5) (rest := [27]) (ty := 3) (b := N) (o := 0 + (i + 1) * 2) (m := n + 1 - (i + 1)) (cap := G - (i + 1)) (X := .slice (some ⟨b, 0 + i * 2, none⟩) (n - i) (n - i)) (k := n - i) (n := n - i) (xs := (c.drop (i * 2)).take ((n - i) * 2)) (fun _ => rfl) (by show min (n - i) (n + 1 - (i + 1)) = n - i; omega)
  (by have := run_cells (P := Tryz.prog) (w := w5) (b := b) (o := 0 + i * 2) (k := n - i) (z := 2) hbb5 (by simp; omega) (m := n - i) (cap := n - i); simpa using this) hb5 (by rw [hl1]; omega) (fun v hv => h1c v (mem_mid (by omega) hv))
 obtain ⟨c2, hc2e⟩ : ∃ c2, c2 = over c1 ((c.drop (i * 2)).take ((n - i) * 2)) (0 + (i + 1) * 2) := ⟨_, rfl⟩
 have hc2l : c2.length = c1.length := by rw [hc2e, over_len (by rw [hl1]; omega)]
 rw [← hc2e] at hc2
 obtain ⟨w6, hw6⟩ : ∃ w6, w6 = w5.setRow N c2.toArray := ⟨_, rfl⟩
 rw [← hw6] at hc2
 refine s_run hF (v := .int .i64 ((n - i : Nat) : Int)) (w' := w6) (fun ρ hρ => ?_) rfl ?_
 ·
  have e1 := hρ (.tmp 50) _ rfl
  have e2 := hρ (.tmp 53) _ rfl
  have e3 : (#[Operand.tmp 50, Operand.tmp 53] : Array Operand).map ρ = #[.slice (some ⟨N, 0 + (i + 1) * 2, none⟩) (n + 1 - (i + 1)) (G - (i + 1)), .slice (some ⟨b, 0 + i * 2, none⟩) (n - i) (n - i)] := by
   apply Array.toList_inj.1; rw [Array.toList_map]; show [ρ (.tmp 50), ρ (.tmp 53)] = _
   rw [e1, e2]
  have hc1' : (Builtin.copy_ #[27, 27] 3 #[.slice (some ⟨N, 0 + (i + 1) * 2, none⟩) (n + 1 - (i + 1)) (G - (i + 1)), .slice (some ⟨b, 0 + i * 2, none⟩) (n - i) (n - i)]).run Tryz.prog w5 = _ := hc2
  simp only [execOp, resolve, invoke, builtin, e3, Sem.run_bind, Sem.run_pure, Result.andThen_ok, hc1']
 clear hF a; intro a hF
 refine WL_nil ⟨trivial, ?_⟩
 refine b_done (by kernel_rfl) ?_
 refine hK _ _ ?_; clear hK K
 refine W_sr rfl (fun K hK => ?_)
 refine sv hF (v_move rfl) rfl ?_; clear hF a; intro a hF
 refine sv hF (v_assign rfl) rfl ?_; clear hF a; intro a hF
 refine WL_nil (hK _ _ ?_); clear hK K
 refine W_ret ?_
 refine ⟨_, _, hF, rfl, G, c2, by first | rfl | rw [hN], hGm, ?_, by omega, by omega, R, hRl, hRt, by rw [hc2e, hc1e]; simp only [Nat.zero_add]⟩
 refine ⟨by rw [hw6, hw5, hw4]; simp only [Iv.setRow_size]; exact hN ▸ hnew.size, fun k hk => ?_, ?_, ?_, ?_, ?_, Iv.cty (by decide)⟩
 ·
  rw [hw6, setRow_other w5 N k _ (by omega), hw5]
  show w4.heap[k]? = _
  rw [hw4, setRow_other w3 N k _ (by omega), hnew.old k hk]
 · rw [← hN, hw6, setRow_heap w5 N c1.toArray _ 77 (0, 0) hb5]
 · rw [hw6, hw5, hw4]; exact hnew.os
 · rw [hw6, hw5, hw4]; exact hnew.tape
 rw [hw6, hw5, hw4]; exact hnew.output
end Go.Proofs.YtoabojbpeafdkaaGreatDoor
/- The interpreter's answer for slices.Insert of files is the model's. -/
namespace Go.Iv
open Go Go.Gam
variable {W0 : Option Asked}
theorem hr_turn {e : Env} {h : AH} {w w' : World} {b r s : Nat} {l l' : List AV} {c c' : Array Value} {t : TypeId} (hH : HW W0 e h w) (hb : h.at b = some (.row l false)) (he : e b = some (r, s)) (hr : w.heap[r]? = some (.cells c t (0, 0)))
  (hu : Upd w w' r (.cells c' t (0, 0))) (hc : c'.size = s) (hl : l'.length ≤ s) (hv : VRL e l' (c'.toList.take l'.length)) : Gr e h (ext e h.nx (r, s)) ((h.drop b).new (.row l' false)) ∧ HW W0 (ext e h.nx (r, s)) ((h.drop b).new (.row l' false)) w' := by
 have hle := le_ext (x := (r, s)) (fresh hH)
 have old : ∀ b x, b ≠ h.nx → ext e h.nx (r, s) b = some x → e b = some x := fun b x hb hx => by simpa [ext, hb] using hx
 have new : ∀ x, ext e h.nx (r, s) h.nx = some x → x = (r, s) := fun x hx => by rw [ext_at] at hx; exact (Option.some.inj hx).symm
 have other : ∀ b' o r' s', b' ≠ b → h.at b' = some o → e b' = some (r', s') → r' ≠ r := by
  rintro b' o r' s' hne hb' he' rfl
  have := (hH.inj b b' _ _ _ _ _ hb hb' he he' (Ne.symm hne)).1
  simp [isRo] at this
 have hT := HW.turned (w' := w') hH hb rfl he ⟨hu.os, hu.tape, hu.output⟩ hu.size hu.keep (fun hn c2 fr hc2 => by
  rw [hu.new] at hc2
  obtain ⟨-, rfl, -⟩ := Obj.cells.inj (Option.some.inj hc2)
  exact hn c (0, 0) hr)
 refine ⟨gr_ext (fresh hH) rfl, ⟨⟨fun b' o hb' r' s' he' => ?_, fun b1 b2 o1 o2 r1 s1 s2 h1 h2 e1 e2 hne => ?_, fun b' r' s' he' => ?_, hH.gl.mono hle⟩, fun b' x hx => ?_, hT.1, fun W hW b' o hb' r' s' he' => ?_⟩⟩
 ·
  rcases at_new hb' with ⟨h1, rfl⟩ | ⟨hne, hb'⟩
  ·
   rw [nx_drop] at h1
   subst h1
   obtain ⟨rfl, rfl⟩ := Prod.mk.inj (new _ he')
   rw [hu.new]
   exact ⟨c', t, (0, 0), rfl, hc, hl, VRL.mono hle _ _ hv, fun _ => rfl⟩
  rw [nx_drop] at hne
  obtain ⟨hne2, hb'⟩ := at_drop hb'
  have he' := old _ _ hne he'
  rw [hu.keep r' (other b' o r' s' hne2 hb' he')]
  exact (hH.obj b' o hb' r' s' he').mono hle
 ·
  rcases at_new h1 with ⟨n1, rfl⟩ | ⟨hn1, h1⟩
  ·
   rw [nx_drop] at n1
   subst n1
   rcases at_new h2 with ⟨n2, rfl⟩ | ⟨hn2, h2⟩
   · rw [nx_drop] at n2; exact absurd n2.symm hne
   rw [nx_drop] at hn2
   obtain ⟨hb2, h2⟩ := at_drop h2
   obtain ⟨rfl, -⟩ := Prod.mk.inj (new _ e1)
   exact absurd rfl (other b2 o2 _ s2 hb2 h2 (old _ _ hn2 e2))
  rw [nx_drop] at hn1
  obtain ⟨hb1, h1⟩ := at_drop h1
  have e1' := old _ _ hn1 e1
  rcases at_new h2 with ⟨n2, rfl⟩ | ⟨hn2, h2⟩
  ·
   rw [nx_drop] at n2
   subst n2
   obtain ⟨rfl, -⟩ := Prod.mk.inj (new _ e2)
   exact absurd rfl (other b1 o1 _ s1 hb1 h1 e1')
  rw [nx_drop] at hn2
  obtain ⟨hb2, h2⟩ := at_drop h2
  exact hH.inj b1 b2 o1 o2 r1 s1 s2 h1 h2 e1' (old _ _ hn2 e2) hne
 ·
  rw [hu.size]
  by_cases hb' : b' = h.nx
  · subst hb'; obtain ⟨rfl, -⟩ := Prod.mk.inj (new _ he'); exact hH.bnd _ _ _ he
  exact hH.bnd _ _ _ (old _ _ hb' he')
 ·
  rw [nx_new, nx_drop]
  by_cases hb' : b' = h.nx
  · omega
  have := hH.dom _ _ (old _ _ hb' hx); omega
 rcases at_new hb' with ⟨h1, rfl⟩ | ⟨hne, hb'⟩
 ·
  rw [nx_drop] at h1
  subst h1
  obtain ⟨rfl, rfl⟩ := Prod.mk.inj (new _ he')
  exact (hT.2 W hW b _ hb _ _ he).same rfl rfl
 rw [nx_drop] at hne
 obtain ⟨-, hb'⟩ := at_drop hb'
 have he' := old _ _ hne he'
 exact hT.2 W hW b' o hb' r' s' he'
def oIns : List AV → AH → Option (AV × AH)
 | [.sl b 0 n none 2, .int .i64 (.ofNat i), .sl vb 0 1 _ 2], h =>
  bif Nat.blt i n && Nat.ble n 1000 && !Nat.beq vb b then
   match h.at b with
   | some (.row l false) => (match h.at vb with
    | some (.row x false) => (match tk 2 x with
     | some xs => (match tk (Nat.mul i 2) l with
      | some p => (match seg (Nat.mul i 2) (Nat.mul (Nat.sub n i) 2) l with
       | some q => bif scs p && scs q && scs xs then some (.sl h.nx 0 (Nat.succ n) none 2, (h.drop b).new (.row (p ++ xs ++ q) false)) else none
       | none => none)
      | none => none)
     | none => none)
    | _ => none)
   | _ => none
  else none
 | _, _ => none
end Go.Iv
namespace Go.Proofs.YtoabojbpeafdkaaGreatDoor
open Go Go.Gam Go.Iv
theorem over_app {l p x m : List Value} {o : Nat} (h1 : l.take o = p) (h2 : p.length = o) (h3 : o + x.length ≤ l.length) : (over l x o).take (o + x.length) = p ++ x := by
 unfold over
 rw [h1, List.append_assoc, List.take_append, List.take_of_length_le (by omega), h2, Nat.add_sub_cancel_left, List.take_append_of_le_length (Nat.le_refl _), List.take_length]
theorem over_pre {l x : List Value} {o k : Nat} (hk : k ≤ o) (ho : o ≤ l.length) : (over l x o).take k = l.take k := by
 unfold over
 rw [List.append_assoc, List.take_append_of_le_length (by simp; omega), List.take_take, Nat.min_eq_left hk]
theorem room_row {c vs mid : List Value} {i n : Nat} (hi : i < n) (h2 : vs.length = 2) (hm : mid.length = (n - i) * 2) (hc : (n + 1) * 2 ≤ c.length) : (over (over c mid ((i + 1) * 2)) vs (i * 2)).take ((n + 1) * 2) = c.take (i * 2) ++ vs ++ mid := by
 have hl : (over c mid ((i + 1) * 2)).length = c.length := over_len (by omega)
 have e1 : (over c mid ((i + 1) * 2)).take (i * 2) = c.take (i * 2) := over_pre (by omega) (by omega)
 have e2 : ((over c mid ((i + 1) * 2)).take ((n + 1) * 2)).drop ((i + 1) * 2) = mid := by
  have := over_app (l := c) (p := c.take ((i + 1) * 2)) (x := mid) (m := []) (o := (i + 1) * 2) rfl (by simp; omega) (by omega)
  rw [show (n + 1) * 2 = (i + 1) * 2 + mid.length by omega, this, List.drop_append_of_le_length (by simp; omega), List.drop_of_length_le (by simp; omega), List.nil_append]
 show ((over c mid ((i + 1) * 2)).take (i * 2) ++ vs ++ (over c mid ((i + 1) * 2)).drop (i * 2 + vs.length)).take ((n + 1) * 2) = _
 rw [e1, h2, List.take_append, List.take_of_length_le (by simp; omega)]
 congr 1
 conv => rhs; rw [← e2, List.drop_take]
 have e3 : (n + 1) * 2 - (List.take (i * 2) c ++ vs).length = (n + 1) * 2 - (i + 1) * 2 := by simp; omega
 have e4 : i * 2 + 2 = (i + 1) * 2 := by omega
 rw [e3, e4]
theorem grow_row {R c vs mid : List Value} {i n : Nat} (hi : i < n) (h2 : vs.length = 2) (hm : mid.length = (n - i) * 2) (hR : (n + 1) * 2 ≤ R.length) (hc : i * 2 ≤ c.length) (he : R.take (i * 2) = c.take (i * 2)) : (over (over R vs (i * 2)) mid ((i + 1) * 2)).take ((n + 1) * 2) = c.take (i * 2) ++ vs ++ mid := by
 have hl : (over R vs (i * 2)).length = R.length := over_len (by omega)
 have e1 : (over R vs (i * 2)).take ((i + 1) * 2) = c.take (i * 2) ++ vs := by
  have := over_app (l := R) (p := c.take (i * 2)) (x := vs) (m := []) (o := i * 2) he (by simp; omega) (by omega)
  rw [show (i + 1) * 2 = i * 2 + vs.length by omega, this]
 have := over_app (l := over R vs (i * 2)) (p := c.take (i * 2) ++ vs) (x := mid) (m := []) (o := (i + 1) * 2) e1 (by simp; omega) (by omega)
 rw [show (n + 1) * 2 = (i + 1) * 2 + mid.length by omega, this]
variable {W0 : Option Asked}
theorem oIns_ok : CallAt W0 Tryz.prog 232 oIns := by
 intro args h a h' hq e w vs hv hH
 unfold oIns at hq
 split at hq
 ·
  rename_i b n i vb cc
  cases hb0 : (Nat.blt i n && Nat.ble n 1000 && !Nat.beq vb b) with
  | false => rw [hb0] at hq; cases hq
  | true =>
   rw [hb0] at hq
   simp only [cond_true] at hq
   simp only [Bool.and_eq_true, Bool.not_eq_true'] at hb0
   obtain ⟨⟨q1, q2⟩, q3⟩ := hb0
   have hi : i < n := (Nat.blt_eq).mp q1
   have hn : n ≤ 1000 := Nat.le_of_ble_eq_true q2
   have hne : vb ≠ b := fun hh => by rw [hh, Nat.beq_refl] at q3; cases q3
   split at hq
   ·
    rename_i l hbl
    split at hq
    ·
     rename_i x hvl
     split at hq
     ·
      rename_i xs hxs
      split at hq
      ·
       rename_i p hp
       split at hq
       ·
        rename_i q hqq
        cases hsc : (scs p && scs q && scs xs) with
        | false => rw [hsc] at hq; cases hq
        | true =>
         rw [hsc] at hq
         obtain ⟨rfl, rfl⟩ := Prod.mk.inj (Option.some.inj hq)
         simp only [Bool.and_eq_true] at hsc
         obtain ⟨⟨s1, s2⟩, s3⟩ := hsc
         obtain ⟨S, rest, rfl, hS, I, rest2, rfl, hI, V, rest3, rfl, hV, hnil⟩ := hv
         obtain rfl : rest3 = [] := hnil
         obtain rfl : I = .int .i64 (i : Int) := hI
         obtain ⟨r, s, he, hz, hmx, rfl⟩ := hS
         obtain ⟨rv, sv, cv, hev, rfl, -, -⟩ := sl_shape hV
         obtain ⟨c, t, fz, o1, o2, o3, o4, o5⟩ := hH.obj b _ hbl r s he
         obtain rfl := o5 rfl
         obtain ⟨vc, tv, fzv, p1, p2, p3, p4, p5⟩ := hH.obj vb _ hvl rv sv hev
         obtain rfl := p5 rfl
         have hrne : rv ≠ r := by
          rintro rfl
          have := (hH.inj vb b _ _ _ _ _ hvl hbl hev he hne).1
          simp [isRo] at this
         obtain ⟨t1, rfl⟩ := tk_eq _ _ _ hxs
         obtain ⟨t2, rfl⟩ := tk_eq _ _ _ hp
         obtain ⟨t3, rfl⟩ := seg_eq hqq
         have t2' : i * 2 ≤ l.length := t2
         have t3' : (n - i) * 2 ≤ l.length - i * 2 := t3
         have hcl : c.toList.length = s := by simpa using o2
         have hln : n * 2 ≤ l.length := by omega
         have v1 : VRL e (l.take (i * 2)) (c.toList.take (i * 2)) := by
          have := VRL.take (i * 2) o4
          rwa [List.take_take, Nat.min_eq_left t2'] at this
         have v2 : VRL e ((l.drop (i * 2)).take ((n - i) * 2)) ((c.toList.drop (i * 2)).take ((n - i) * 2)) := by
          have := VRL.take ((n - i) * 2) (VRL.drop (i * 2) o4)
          rwa [List.drop_take, List.take_take, Nat.min_eq_left t3'] at this
         have v3 : VRL e (x.take 2) (vc.toList.take 2) := by
          have := VRL.take 2 p4
          rwa [List.take_take, Nat.min_eq_left t1] at this
         have hvs2 : (vc.toList.take 2).length = 2 := by rw [v3.length]; simp; omega
         have vall := VRL.append (VRL.append v1 v3) v2
         have hml : ((c.toList.drop (i * 2)).take ((n - i) * 2)).length = (n - i) * 2 := by simp; omega
         have hone : ∀ v ∈ c.toList.take (2 * n), v.oneCell' = true := by
          intro v hv
          have e3 : c.toList.take (2 * n) = c.toList.take (i * 2) ++ (c.toList.drop (i * 2)).take ((n - i) * 2) := by
           rw [show 2 * n = i * 2 + (n - i) * 2 by omega, List.take_add]
          rw [e3, List.mem_append] at hv
          rcases hv with hv | hv
          · exact scs_ok s1 v1 v hv
          exact scs_ok s2 v2 v hv
         have hrl : (l.take (i * 2) ++ x.take 2 ++ (l.drop (i * 2)).take ((n - i) * 2)).length = (n + 1) * 2 := by
          have := vall.length
          rw [← this]; simp only [List.length_append, hvs2, hml, List.length_take]; omega
         refine .inl ⟨en232, ?_⟩
         by_cases hroom : n + 1 ≤ (s - 0) / 2
         · have hrun := Ins_room r n i ((s - 0) / 2) rv cv c.toList (vc.toList.take 2) t tv vc w hi hroom hn (by simpa using o1) (by omega) p1 rfl hvs2 hrne hone (fun v hv => scs_ok s3 v3 v hv)
           refine hrun.mono fun v w' ⟨hv, hu⟩ => ?_
           subst hv
           have hfin := room_row (c := c.toList) hi hvs2 hml (by omega)
           have hg := hr_turn (l' := l.take (i * 2) ++ x.take 2 ++ (l.drop (i * 2)).take ((n - i) * 2)) hH hbl he o1 hu (by
            rw [List.size_toArray, over_len (by rw [over_len (by rw [hml]; omega)]; omega), over_len (by rw [hml]; omega)]; exact hcl) (by rw [hrl]; omega) (by rw [hrl, List.toList_toArray, hfin]; exact vall)
           exact ⟨_, hg.1, ⟨r, s, ext_at _ _ _, hz, hmx, rfl⟩, hg.2⟩
         have hcap : (s - 0) / 2 = n := by omega
         rw [hcap]
         have hrun := Ins_grow r n i rv cv c.toList (vc.toList.take 2) t tv vc w hi hn (by simpa using o1) (by omega) p1 rfl hvs2 hone (fun v hv => scs_ok s3 v3 v hv)
         refine hrun.mono fun v w' ⟨G, C, hv, hGm, hnew, hCl, hC2, R, hRl, hRt, hC⟩ => ?_
         subst hv
         have hfin := grow_row (c := c.toList) hi hvs2 hml (by omega) (by omega) hRt
         rw [← hC] at hfin
         have hor : OR e (G * 2) (.row (l.take (i * 2) ++ x.take 2 ++ (l.drop (i * 2)).take ((n - i) * 2)) false) (some (.cells C.toArray 77 (0, 0))) :=
          ⟨C.toArray, 77, (0, 0), rfl, by rw [List.size_toArray, hCl], by rw [hrl]; omega, by rw [hrl, List.toList_toArray, hfin]; exact vall, fun _ => rfl⟩
         obtain ⟨g1, g2⟩ := hr_new (hr_drop hH b) hnew hor
         refine ⟨_, ⟨g1.le, g1.keep, g1.nx⟩, ⟨w.heap.size, G * 2, ext_at _ _ _, by omega, ?_, ?_⟩, g2⟩
         · rw [Nat.sub_zero, Nat.mul_div_cancel _ (by omega)]; exact hGm
         rw [Nat.sub_zero, Nat.mul_div_cancel _ (by omega)]
       cases hq
      cases hq
     cases hq
    cases hq
   cases hq
 cases hq
end Go.Proofs.YtoabojbpeafdkaaGreatDoor
/-
  DERIVED: THE SHELF's CONTRACTS AT THIS DUMP, IN PLAIN WORDS (tools/lay-plain.mjs out of 'TryzJn.lean', which tools/lay-shelf.mjs wrote): THE SAME DECLARATIONS UNDER THE SAME NAMES: 'import', 'namespace', 'open', 'def', 'theorem' AND NOTHING ELSE: no command of the shelf's: FOR A HAND-IN. Each laying: the table of numbers ('.._ren') and one theorem, a field a fact of the dump's own or the kernel's comparison; each contract: ONE APPLICATION.
-/
namespace Go.Proofs
open Go.Shelf
def Tryz.lays156_ren : Go.Shelf.Ren := ⟨fun | 156 => 224 | 165 => 284 | 166 => 285 | 169 => 286 | 240 => 331 | 241 => 332 | 276 => 372 | 277 => 373 | n => n, fun | 31 => 60 | 9 => 9 | 3 => 3 | 4 => 4 | 0 => 0 | 20 => 20 | 72 => 349 | 76 => 308 | 70 => 347 | 37 => 23 | 75 => 307 | 127 => 385 | 164 => 410 | 5 => 5 | 80 => 350 | n => n, fun | n => n⟩
theorem Tryz.lays156 : Go.Proofs.Lays.n156 Tryz.prog Tryz.lays156_ren := {
  mixed := by kernel_rfl
  f156 := Tryz.func224.trans (congrArg some (by kernel_rfl))
  f165 := Tryz.func284.trans (congrArg some (by kernel_rfl))
  f166 := Tryz.func285.trans (congrArg some (by kernel_rfl))
  f169 := Tryz.func286.trans (congrArg some (by kernel_rfl))
  f240 := Tryz.func331.trans (congrArg some (by kernel_rfl))
  f241 := Tryz.func332.trans (congrArg some (by kernel_rfl))
  f276 := Tryz.func372.trans (congrArg some (by kernel_rfl))
  f277 := Tryz.func373.trans (congrArg some (by kernel_rfl))
  t0 := Tryz.underlying0
  a0 := Tryz.isAgg0
  z0 := Tryz.sizeOf0
  v0 := Tryz.zeroValue0
  t3 := Tryz.underlying3
  a3 := Tryz.isAgg3
  z3 := Tryz.sizeOf3
  v3 := Tryz.zeroValue3
  t4 := Tryz.underlying4
  a4 := Tryz.isAgg4
  z4 := Tryz.sizeOf4
  v4 := Tryz.zeroValue4
  t9 := Tryz.underlying9
  a9 := Tryz.isAgg9
  z9 := Tryz.sizeOf9
  v9 := Tryz.zeroValue9
  t20 := Tryz.underlying20
  a20 := Tryz.isAgg20
  z20 := Tryz.sizeOf20
  v20 := Tryz.zeroValue20
  t31 := Tryz.underlying60
  a31 := Tryz.isAgg60
  z31 := Tryz.sizeOf60
  v31 := Tryz.zeroValue60
  t37 := Tryz.underlying23
  a37 := Tryz.isAgg23
  z37 := Tryz.sizeOf23
  v37 := Tryz.zeroValue23
  t70 := Tryz.underlying347
  a70 := Tryz.isAgg347
  z70 := Tryz.sizeOf347
  v70 := Tryz.zeroValue347
  t72 := Tryz.underlying349
  a72 := Tryz.isAgg349
  z72 := Tryz.sizeOf349
  v72 := Tryz.zeroValue349
  t75 := Tryz.underlying307
  a75 := Tryz.isAgg307
  z75 := Tryz.sizeOf307
  v75 := Tryz.zeroValue307
  t76 := Tryz.underlying308
  a76 := Tryz.isAgg308
  z76 := Tryz.sizeOf308
  v76 := Tryz.zeroValue308
  t127 := Tryz.underlying385
  a127 := Tryz.isAgg385
  z127 := Tryz.sizeOf385
  v127 := Tryz.zeroValue385
  t164 := Tryz.underlying410
  a164 := Tryz.isAgg410
  z164 := Tryz.sizeOf410
  v164 := Tryz.zeroValue410 }
theorem Tryz.Builder_Extra_156 : Builder.Extra Tryz.prog Tryz.lays156_ren := {
  sizeBuilder := by kernel_rfl
  liesBuilder := by kernel_rfl
  t5 := Tryz.underlying5
  a5 := Tryz.isAgg5
  z5 := Tryz.sizeOf5
  v5 := Tryz.zeroValue5
  infoByte := by kernel_rfl
  cellsByte := by kernel_rfl
  sizeByte := by kernel_rfl
  neB5 := by decide }
open Go.RowKit in
theorem Tryz.strings_Join (bk o c : Nat) (xs : List ByteArray) (sep : ByteArray) (w : World) (hcells : ∀ (j : Nat) x, xs[j]? = some x → w.cell? ⟨bk, o + j, none⟩ = some (.string x)) (hbk : bk < w.heap.size) (hN : xs.length ≤ 140737488355328) (hcap : xs.length ≤ c) (hlen : (Lib.join (xs.map (·.data.toList)) sep.data.toList).length ≤ 140737488355328) :
    Calls Tryz.prog 224 #[.slice (some ⟨bk, o, none⟩) xs.length c, .string sep] w fun e w' => e = .returned (.string ⟨(Lib.join (xs.map (·.data.toList)) sep.data.toList).toArray⟩) ∧ Below w.heap.size w w' := Any.strings_Join Tryz.lays156 Tryz.Builder_Extra_156 bk o c xs sep w hcells hbk hN hcap hlen
end Go.Proofs
/- strings.Join: the interpreter's answer is the model's, where nobody asks for what new blocks are. -/
namespace Go.Iv
open Go Go.Gam
def joinL (s : List Nat) : List AV → Option (List Nat)
 | [] => none
 | [.str l] => some l
 | .str l :: r => (match joinL s r with | some q => some (l ++ s ++ q) | none => none)
 | _ => none
def oJoin : List AV → AH → Option (AV × AH)
 | [.sl b o n none 1, .str s], h => (match h.at b with
  | some (.row l _) => (match seg o n l with
   | some xs => (match joinL s xs with | some q => bif Nat.blt (ln q) 1000000 && Nat.blt n 1000000 then some (.str q, h) else none | none => none)
   | none => none)
  | _ => none)
 | _, _ => none
theorem joinL_ok {e : Env} {s : List UInt8} : ∀ {xs : List AV} {cs : List Value} {q : List Nat}, VRL e xs cs → joinL (s.map UInt8.toNat) xs = some q → ∃ bs : List (List UInt8), cs = bs.map (fun b => Value.string (str b)) ∧ q = (Lib.join bs s).map UInt8.toNat ∧ bs ≠ []
 | [], cs, q, hv, hq => by simp [joinL] at hq
 | [a], cs, q, hv, hq => by
  cases a <;> simp [joinL] at hq
  subst hq
  obtain ⟨v, r, rfl, ⟨b, rfl, rfl⟩, h3⟩ := hv
  obtain rfl : r = [] := h3
  exact ⟨[b], rfl, by simp [Lib.join], by simp⟩
 | a :: a2 :: r, cs, q, hv, hq => by
  obtain ⟨v, cs', rfl, h2, h3⟩ := hv
  cases a <;> simp [joinL] at hq
  rename_i l
  obtain ⟨b, rfl, rfl⟩ := h2
  split at hq
  ·
   rename_i q' hq'
   obtain ⟨bs, rfl, rfl, hne⟩ := joinL_ok h3 hq'
   obtain rfl := Option.some.inj hq
   refine ⟨b :: bs, rfl, ?_, by simp⟩
   cases bs with
   | nil => exact absurd rfl hne
   | cons b2 bs => simp [Lib.join]
  cases hq
end Go.Iv
namespace Go.Proofs.YtoabojbpeafdkaaGreatDoor
open Go Go.Gam Go.Iv
theorem en224 : Ent Tryz.prog 224 := ent Tryz.func224 (by kernel_rfl) (by kernel_rfl)
theorem oJoin_ok {W0 : Option Asked} (hW0 : ∀ W B, W0 ≠ some (W, some B)) : CallAt W0 Tryz.prog 224 oJoin := by
 intro args h a h' hq e w vs hv hH
 unfold oJoin at hq
 split at hq
 ·
  rename_i b o n s
  split at hq
  ·
   rename_i l ro hbl
   split at hq
   ·
    rename_i xs hxs
    split at hq
    ·
     rename_i q hj
     cases hb : (Nat.blt (ln q) 1000000 && Nat.blt n 1000000) with
     | false => rw [hb] at hq; cases hq
     | true =>
      rw [hb] at hq
      obtain ⟨rfl, rfl⟩ := Prod.mk.inj (Option.some.inj hq)
      simp only [Bool.and_eq_true] at hb
      have hq1 : q.length < 1000000 := by have := (Nat.blt_eq).mp hb.1; rwa [ln_eq] at this
      have hn1 : n < 1000000 := (Nat.blt_eq).mp hb.2
      obtain ⟨S, T, rfl, hS, ⟨s, rfl, rfl⟩⟩ := VRL.pair hv
      obtain ⟨r, sz, cap, he, rfl, k1, k2⟩ := sl_shape hS
      obtain ⟨cs, hcs, hcell, hlsz⟩ := row_cells hH.toHR hbl he
      obtain ⟨g1, rfl⟩ := seg_eq hxs
      obtain ⟨bs, hbs, rfl, hne⟩ := joinL_ok (VRL.take n (VRL.drop o hcs)) hj
      have hbl2 : bs.length = n := by
       have h1 := congrArg List.length hbs
       simp only [List.length_take, List.length_drop, List.length_map] at h1
       have := hcs.length
       omega
      have hcap : n ≤ cap := by
       obtain ⟨-, k4, -⟩ := k2 rfl
       rw [k4, Nat.div_one]
       omega
      have hcells : ∀ (j : Nat) x, (bs.map str)[j]? = some x → w.cell? ⟨r, o + j, none⟩ = some (.string x) := by
       intro j x hx
       have h2 : (bs.map fun b => Value.string (str b))[j]? = some (.string x) := by
        rw [List.getElem?_map] at hx ⊢
        obtain ⟨b, hb1, hb2⟩ := Option.map_eq_some_iff.1 hx
        rw [hb1, ← hb2]; rfl
       rw [← hbs, List.getElem?_take] at h2
       split at h2
       · rw [List.getElem?_drop] at h2
         exact hcell (o + j) _ h2
       cases h2
      have hlen : (Lib.join ((bs.map str).map (·.data.toList)) (str s).data.toList) = Lib.join bs s := by
       rw [List.map_map]
       have : (fun x : ByteArray => x.data.toList) ∘ str = id := by funext x; exact str_data x
       rw [this, List.map_id]
       rfl
      have hrun := Tryz.strings_Join r o cap (bs.map str) (str s) w hcells (hH.bnd _ _ _ he) (by simp; omega) (by simpa [hbl2] using hcap) (by rw [hlen]; simp at hq1; omega)
      rw [hlen] at hrun
      refine .inl ⟨en224, ?_⟩
      have e1 : (bs.map str).length = n := by simpa using hbl2
      rw [e1] at hrun
      refine Calls.mono hrun fun en w' ⟨h1, h2⟩ => ⟨_, h1, e, Gr.refl e _, ⟨Lib.join bs s, rfl, rfl⟩, hH.over h2 (fun W B h => absurd h (hW0 W B))⟩
    cases hq
   cases hq
  cases hq
 cases hq
end Go.Proofs.YtoabojbpeafdkaaGreatDoor
/- lives: the calls that it hangs on, one by one; what a check's table is, that a name may be. -/
set_option maxRecDepth 100000
namespace Go.Proofs.YtoabojbpeafdkaaGreatDoor
open Go Go.Gam Go.Iv
theorem idle : Idle Tryz.prog := by
 intro w
 have hnn : ∀ w, (binOp .neq 20 .nilIface .nilIface).run Tryz.prog w = .ok (.bool false) w := fun w => Lib.run_neq_nil_nil w Tryz.underlying20
 refine CallsD.mono (R := fun e u' w' => e = .returned (.tuple #[]) ∧ u' = .returning ∧ w' = w) ?_ (fun e u' w' h => ⟨⟨_, h.1⟩, h.2⟩)
 refine callsD_of_wpS (f := idleN) (fn := Tryz.f371) Tryz.func371 rfl fun c₀ cs hu => ?_
 apply wpS_seq
 apply wpS_region
 simp [wpOpsS, go_sem, recoverD, hu, hnn, Tryz.ntmps371, Exit.thenS]
 refine wpS_cond (t := false) (by simp [Act.eval, Array.replicate]) ?_
 simp only [Bool.false_eq_true, if_false]
 refine wpS_of_wp (wp_skip ?_)
 cases c₀
 simp_all [bodyPostS, results, (show Tryz.f371.results = #[] from rfl)]
theorem en371 : Ent Tryz.prog idleN := ent Tryz.func371 (by kernel_rfl) (by kernel_rfl)
def orcB : OrcF := fun f => bif Nat.beq f 386 then some oIxB else bif Nat.beq f 389 then some oCntB else bif Nat.beq f 232 then some oIns else none
theorem orcB_ok (W0 : Option Asked) : ∀ f g, orcB f = some g → CallAt W0 Tryz.prog f g := by
 intro f g h
 unfold orcB at h
 cases h1 : Nat.beq f 386 with
 | true =>
  rw [h1] at h
  obtain rfl := Option.some.inj h
  obtain rfl := Nat.eq_of_beq_eq_true h1
  exact ixB_ok Tryz.func386 (by kernel_rfl) (by kernel_rfl) (by kernel_rfl) (by kernel_rfl)
 | false =>
  rw [h1] at h
  simp only [cond_false] at h
  cases h2 : Nat.beq f 389 with
  | true =>
   rw [h2] at h
   obtain rfl := Option.some.inj h
   obtain rfl := Nat.eq_of_beq_eq_true h2
   exact cntB_ok Tryz.func389 (by kernel_rfl) (by kernel_rfl) (by kernel_rfl) (by kernel_rfl)
  | false =>
   rw [h2] at h
   simp only [cond_false] at h
   cases h3 : Nat.beq f 232 with
   | true =>
    rw [h3] at h
    obtain rfl := Option.some.inj h
    obtain rfl := Nat.eq_of_beq_eq_true h3
    exact oIns_ok
   | false => rw [h3] at h; cases h
def mB (P : Program) (n : Nat) : Mch := mch P orcB n
theorem mB_ok (W0 : Option Asked) (n : Nat) : CallOK W0 Tryz.prog (mB Tryz.prog n).call := (mch_ok idle mixed en371 (orcB_ok W0) n).2
def crcN : List Nat := [0, 1996959894, 3993919788, 2567524794, 124634137, 1886057615, 3915621685, 2657392035, 249268274, 2044508324, 3772115230, 2547177864, 162941995, 2125561021, 3887607047, 2428444049, 498536548, 1789927666, 4089016648, 2227061214, 450548861, 1843258603, 4107580753, 2211677639, 325883990, 1684777152, 4251122042, 2321926636, 335633487, 1661365465, 4195302755, 2366115317, 997073096, 1281953886, 3579855332, 2724688242, 1006888145, 1258607687, 3524101629, 2768942443, 901097722, 1119000684, 3686517206, 2898065728, 853044451, 1172266101, 3705015759, 2882616665, 651767980, 1373503546, 3369554304, 3218104598, 565507253, 1454621731, 3485111705, 3099436303, 671266974, 1594198024, 3322730930, 2970347812, 795835527, 1483230225, 3244367275, 3060149565, 1994146192, 31158534, 2563907772, 4023717930, 1907459465, 112637215, 2680153253, 3904427059, 2013776290, 251722036, 2517215374, 3775830040, 2137656763, 141376813, 2439277719, 3865271297, 1802195444, 476864866, 2238001368, 4066508878, 1812370925, 453092731, 2181625025, 4111451223, 1706088902, 314042704, 2344532202, 4240017532, 1658658271, 366619977, 2362670323, 4224994405, 1303535960, 984961486, 2747007092, 3569037538, 1256170817, 1037604311, 2765210733, 3554079995, 1131014506, 879679996, 2909243462, 3663771856, 1141124467, 855842277, 2852801631, 3708648649, 1342533948, 654459306, 3188396048, 3373015174, 1466479909, 544179635, 3110523913, 3462522015, 1591671054, 702138776, 2966460450, 3352799412, 1504918807, 783551873, 3082640443, 3233442989, 3988292384, 2596254646, 62317068, 1957810842, 3939845945, 2647816111, 81470997, 1943803523, 3814918930, 2489596804, 225274430, 2053790376, 3826175755, 2466906013, 167816743, 2097651377, 4027552580, 2265490386, 503444072, 1762050814, 4150417245, 2154129355, 426522225, 1852507879, 4275313526, 2312317920, 282753626, 1742555852, 4189708143, 2394877945, 397917763, 1622183637, 3604390888, 2714866558, 953729732, 1340076626, 3518719985, 2797360999, 1068828381, 1219638859, 3624741850, 2936675148, 906185462, 1090812512, 3747672003, 2825379669, 829329135, 1181335161, 3412177804, 3160834842, 628085408, 1382605366, 3423369109, 3138078467, 570562233, 1426400815, 3317316542, 2998733608, 733239954, 1555261956, 3268935591, 3050360625, 752459403, 1541320221, 2607071920, 3965973030, 1969922972, 40735498, 2617837225, 3943577151, 1913087877, 83908371, 2512341634, 3803740692, 2075208622, 213261112, 2463272603, 3855990285, 2094854071, 198958881, 2262029012, 4057260610, 1759359992, 534414190, 2176718541, 4139329115, 1873836001, 414664567, 2282248934, 4279200368, 1711684554, 285281116, 2405801727, 4167216745, 1634467795, 376229701, 2685067896, 3608007406, 1308918612, 956543938, 2808555105, 3495958263, 1231636301, 1047427035, 2932959818, 3654703836, 1088359270, 936918000, 2847714899, 3736837829, 1202900863, 817233897, 3183342108, 3401237130, 1404277552, 615818150, 3134207493, 3453421203, 1423857449, 601450431, 3009837614, 3294710456, 1567103746, 711928724, 3020668471, 3272380065, 1510334235, 755167117]
def u32s : List Nat → List AV
 | [] => []
 | n :: l => .int .u32 (.ofNat n) :: u32s l
def crcA : AV := .agg (u32s crcN)
theorem crc_run : stOk ((mB Tryz.prog 3000).call 191 [] (ofL [] 10)) crcA [] 12 = true := by kernel_rfl
theorem may_run : stOk ((mB Tryz.prog 3000).call 108 [.str [97, 98, 99]] (ofL [] 10)) (.bool true) [] 12 = true := by kernel_rfl
theorem crc_ok (W0 : Option Asked) : CallAt W0 Tryz.prog 191 (pureA [] crcA) := pure_ok (fun W B => mB_ok _ _) (by kernel_rfl) rfl crc_run
theorem may_ok (W0 : Option Asked) : CallAt W0 Tryz.prog 108 (pureA [.str [97, 98, 99]] (.bool true)) := pure_ok (fun W B => mB_ok _ _) rfl rfl may_run
end Go.Proofs.YtoabojbpeafdkaaGreatDoor
/- Calls that read no memory: what one reckoning shows holds in any world, and leaves all as it was. No program in sight. -/
namespace Go.Iv
open Go Go.Gam
def valOk (r : Option (AV × AH)) (v : AV) : Bool :=
 match r with
 | some (u, _) => beq u v
 | none => false
def e0 : Env := fun b => if b < 9 then some (b, 0) else none
theorem hw_empty {w : World} {B : Nat} (hI : Inv FDi B w) (h10 : 9 ≤ w.heap.size) : HW (some (w, some B)) e0 (ofL [] 10) w := by
 have hno : ∀ b o, (ofL [] 10).at b ≠ some o := fun b o hb => by
  rw [show (ofL [] 10).at b = get 20 b (.leaf : Tr AO) from rfl, get_leaf] at hb; cases hb
 have hle : ∀ b x, e0 b = some x → b < 9 ∧ x = (b, 0) := fun b x hx => by
  unfold e0 at hx
  by_cases h : b < 9
  · rw [if_pos h] at hx; exact ⟨h, (Option.some.inj hx).symm⟩
  rw [if_neg h] at hx; cases hx
 refine ⟨⟨fun b o hb => absurd hb (hno b o), fun b b' o o' r s s' k1 => absurd k1 (hno b o), fun b r s he => ?_, fun g hg => ⟨0, by unfold e0; rw [if_pos hg]⟩⟩, fun b x hx => Nat.lt_succ_of_lt (hle _ _ hx).1, fun W hW => ?_, fun W hW b o hb => absurd hb (hno b o)⟩
 ·
  obtain ⟨h1, h2⟩ := hle _ _ he
  obtain ⟨rfl, rfl⟩ := Prod.mk.inj h2
  omega
 obtain rfl := Option.some.inj hW
 exact ⟨fun B h => (by cases h; exact hI.1), fun B h => (by cases h; exact St.refl hI), fun h => (by cases h)⟩
theorem pure_ret {P : Program} {call : CallF} {f : Nat} {A : List AV} {V : AV} {vs : List Value} {w : World} {e : Env} (he : Ent P f) (hcall : ∀ W B, CallOK (some (W, some B)) P call) (hf : flat V = true) (hfA : flats A = true) (hq : valOk (call f A (ofL [] 10)) V = true) (hv : VRL e A vs) (h10 : 9 ≤ w.heap.size) :
  Ret P f vs w fun v w' => VR e V v ∧ St FDi w.heap.size w w' := by
 unfold valOk at hq
 split at hq
 ·
  rename_i u h1 hc
  obtain rfl := beq_eq _ _ hq
  exact ((hcall w w.heap.size f A _ _ _ hc e0 w vs (VRL.flat _ _ hfA hv) (hw_empty (st_self w).inv h10)).ret he).mono fun v w' ⟨e', g1, g2, g3⟩ => ⟨VR.flat _ _ hf g2, (g3.st _ rfl).st _ rfl⟩
 cases hq
end Go.Iv
/- The params that there may be: what the table of profiles says of them, by reckoning. -/
set_option maxRecDepth 100000
namespace Go.Proofs.YtoabojbpeafdkaaGreatDoor
open Go Go.Gam Go.Iv
def i64 (n : Nat) : AV := .int .i64 (.ofNat n)
def prmA (p k m : Nat) : AV := .agg [i64 p, i64 k, i64 m]
def prmV (p k m : Nat) : Value := .agg #[.int .i64 (p : Int), .int .i64 (k : Int), .int .i64 (m : Int)]
def maxN (p : Nat) : Nat := if p = 3 then 3 else 4
def upto (c : Nat → Nat → Nat → Bool) : Bool :=
 [1, 2, 3, 4, 5, 6].all fun p => [1, 2, 3, 4, 5, 6, 7, 8].all fun k => [1, 2, 3, 4].all fun m => (bif Nat.beq p 3 && Nat.beq m 4 then true else c p k m)
theorem upto_at {c : Nat → Nat → Nat → Bool} (h : upto c = true) {p k m : Nat} (hp : 1 ≤ p ∧ p ≤ 6) (hk : 1 ≤ k ∧ k ≤ 8) (hm : 1 ≤ m ∧ m ≤ maxN p) : c p k m = true := by
 unfold upto at h
 rw [List.all_eq_true] at h
 have hm4 : m ≤ 4 := by unfold maxN at hm; split at hm <;> omega
 have h1 := h p (by have : p = 1 ∨ p = 2 ∨ p = 3 ∨ p = 4 ∨ p = 5 ∨ p = 6 := (by omega); simpa using this)
 rw [List.all_eq_true] at h1
 have h2 := h1 k (by have : k = 1 ∨ k = 2 ∨ k = 3 ∨ k = 4 ∨ k = 5 ∨ k = 6 ∨ k = 7 ∨ k = 8 := (by omega); simpa using this)
 rw [List.all_eq_true] at h2
 have h3 := h2 m (by have : m = 1 ∨ m = 2 ∨ m = 3 ∨ m = 4 := (by omega); simpa using this)
 cases hb : (Nat.beq p 3 && Nat.beq m 4) with
 | true =>
  simp only [Bool.and_eq_true] at hb
  have h4 := Nat.eq_of_beq_eq_true hb.1
  have h5 := Nat.eq_of_beq_eq_true hb.2
  unfold maxN at hm
  rw [if_pos h4] at hm
  omega
 | false => rw [hb] at h3; exact h3
theorem vr_prm (e : Env) (p k m : Nat) : VRL e [prmA p k m] [prmV p k m] := VRL.cons ⟨[.int .i64 (p : Int), .int .i64 (k : Int), .int .i64 (m : Int)], rfl, VRL.cons rfl (VRL.cons rfl (VRL.cons rfl VRL.nil))⟩ VRL.nil
theorem may_all : upto (fun p k m => valOk ((mB Tryz.prog 3000).call 38 [prmA p k m] (ofL [] 10)) (.bool true)) = true := by kernel_rfl
theorem rule_all : upto (fun p k m => valOk ((mB Tryz.prog 3000).call 63 [prmA p k m] (ofL [] 10)) (.tup [i64 (unitN p), i64 (aheadN p)])) = true := by kernel_rfl
theorem en38 : Ent Tryz.prog 38 := ent Tryz.func38 (by kernel_rfl) (by kernel_rfl)
theorem en63 : Ent Tryz.prog 63 := ent Tryz.func63 (by kernel_rfl) (by kernel_rfl)
theorem May_ret (w : World) (h10 : 9 ≤ w.heap.size) {p k m : Nat} (hp : 1 ≤ p ∧ p ≤ 6) (hk : 1 ≤ k ∧ k ≤ 8) (hm : 1 ≤ m ∧ m ≤ maxN p) : Ret Tryz.prog 38 [prmV p k m] w fun v w' => v = .bool true ∧ St FDi w.heap.size w w' :=
 pure_ret (e := e0) en38 (fun W B => mB_ok _ _) rfl rfl (upto_at may_all hp hk hm) (vr_prm _ p k m) h10
theorem rule_ret (w : World) (h10 : 9 ≤ w.heap.size) {p k m : Nat} (hp : 1 ≤ p ∧ p ≤ 6) (hk : 1 ≤ k ∧ k ≤ 8) (hm : 1 ≤ m ∧ m ≤ maxN p) : Ret Tryz.prog 63 [prmV p k m] w fun v w' => v = .tuple #[.int .i64 (unitN p : Int), .int .i64 (aheadN p : Int)] ∧ St FDi w.heap.size w w' :=
 (pure_ret (e := e0) en63 (fun W B => mB_ok _ _) rfl rfl (upto_at rule_all hp hk hm) (vr_prm _ p k m) h10).mono fun v w' ⟨⟨cs, h1, u, r, h2, h3, x, r2, h4, h5, h6⟩, h7⟩ => ⟨by
  have h3' : u = .int .i64 (unitN p : Int) := h3
  have h5' : x = .int .i64 (aheadN p : Int) := h5
  have h6' : r2 = [] := h6
  rw [h1, h2, h4, h6', h3', h5'], h7⟩
end Go.Proofs.YtoabojbpeafdkaaGreatDoor
/- The walks of package layout: how long a shard is. -/
namespace Go.Proofs.YtoabojbpeafdkaaGreatDoor
open Go Go.Gam
namespace FxFLay
theorem en64 : Ent Tryz.prog 64 := ent Tryz.func64 (by kernel_rfl) (by kernel_rfl)
theorem ar290 : ArrOf Tryz.prog 290 4 := ar_of Tryz.underlying290 (by kernel_rfl)
theorem fa30_1 : FieldFact Tryz.prog 30 1 1 := ff_of (sz := 0) Tryz.underlying30 (by kernel_rfl)
theorem hmix : Tryz.prog.follows .mixedOrders = true := by kernel_rfl
theorem sc23 : Scalar Tryz.prog 23 := ⟨_, Tryz.underlying23, by simp, by simp⟩
theorem sc3 : Scalar Tryz.prog 3 := ⟨_, Tryz.underlying3, by simp, by simp⟩
theorem sc5 : Scalar Tryz.prog 5 := ⟨_, Tryz.underlying5, by simp, by simp⟩
theorem sl23 : Sl Tryz.prog 23 5 (.int .u8 0) 1 := sl_of Tryz.underlying23 rfl (by kernel_rfl)
theorem sl48 : Sl Tryz.prog 48 23 (.slice none 0 0) 24 := sl_of Tryz.underlying48 rfl (by kernel_rfl)
end FxFLay
open FxFLay
theorem PMay_ok (B p k m : Nat) (w : World) (hI : Inv FDx B w) (hB : 9 ≤ B) (hp : 1 ≤ p ∧ p ≤ 6) (hk : 1 ≤ k ∧ k ≤ 8) (hm : 1 ≤ m ∧ m ≤ maxN p) : Ret Tryz.prog 38 [.agg #[.int .i64 (p : Int), .int .i64 (k : Int), .int .i64 (m : Int)]] w fun v w' => v = .bool true ∧ St FDx B w w' :=
 (May_ret w (Nat.le_trans hB hI.1) hp hk hm).mono fun v w' h => ⟨h.1, Iv.st_base h.2 hI⟩
theorem rule_ok (B p k m u s : Nat) (w : World) (hI : Inv FDx B w) (hB : 9 ≤ B) (hp : 1 ≤ p ∧ p ≤ 6) (hk : 1 ≤ k ∧ k ≤ 8) (hm : 1 ≤ m ∧ m ≤ maxN p) (hu : unitN p = u) (hs : aheadN p = s) : Ret Tryz.prog 63 [.agg #[.int .i64 (p : Int), .int .i64 (k : Int), .int .i64 (m : Int)]] w fun v w' => v = .tuple #[.int .i64 (u : Int), .int .i64 (s : Int)] ∧ St FDx B w w' := by
 subst hu hs
 exact (rule_ret w (Nat.le_trans hB hI.1) hp hk hm).mono fun v w' h => ⟨h.1, Iv.st_base h.2 hI⟩
theorem LSize_ok (B p k m n : Nat) (w : World) (hI : Inv FDx B w) (hB : 9 ≤ B) (hp : 1 ≤ p ∧ p ≤ 6) (hk : 1 ≤ k ∧ k ≤ 8) (hm : 1 ≤ m ∧ m ≤ maxN p) (hn : n ≤ 4096) : Ret Tryz.prog 131 [.agg #[.int .i64 (p : Int), .int .i64 (k : Int), .int .i64 (m : Int)], .int .i64 (n : Int)] w fun v w' => v = .tuple #[.int .i64 (sizeN p k n : Int), .int .i64 0] ∧ St FDx B w w' := by
 refine enter2 40 [(0, .agg #[.int .i64 (p : Int), .int .i64 (k : Int), .int .i64 (m : Int)]), (1, .int .i64 (n : Int))] 4 5 Tryz.func131 rfl rfl rfl rfl rfl ?_; intro a hF
 have hS := St.refl hI
 obtain ⟨u, hu, hu1, hu2⟩ : ∃ u, unitN p = u ∧ 1 ≤ u ∧ u ≤ 16 := ⟨_, rfl, unitN_bd p⟩
 obtain ⟨ah, hah, hah2⟩ : ∃ u, aheadN p = u ∧ u ≤ 4 := ⟨_, rfl, aheadN_bd p⟩
 obtain ⟨st, hst⟩ : ∃ s, s = u * k := ⟨_, rfl⟩
 have hst1 : 1 ≤ st ∧ st ≤ 128 := by rw [hst]; exact stripe_bd hu1 hu2 hk.1 hk.2
 refine W_sr rfl fun K hK => ?_
 refine s_box (D := FDx) (B := B) hF rfl (by decide) hS.inv rfl ?_; clear hF a; intro w' a hm hbx hsz hF
 replace hS := hS.mb0 hm
 clear hm
 refine sv2w hK hF (v_assign rfl) (v_assign rfl) rfl rfl ?_; clear hF a hK K; intro a hF
 replace hF := hF.sub _ (c_ 5 rfl (c_ 4 rfl (c_ 2 rfl (c_ 1 rfl n_))))
 refine W_seq ?_
 refine W_block ?_
 refine W_sr rfl fun K hK => ?_
 refine sv hF (v_loadN Tryz.underlying30 rfl (by kernel_rfl) rfl hbx) rfl ?_; clear hF a; intro a hF
 refine sc hF rfl rfl rfl en38 rfl (PMay_ok B p k m _ hS.inv hB hp hk hm) ?_; clear hF a; intro v w' a hv hF
 obtain ⟨rfl, hS'⟩ := hv
 replace hbx := hbx.st (by decide) hS'
 replace hS := hS.trans hS'
 clear hS'
 refine sv2 hF (v_not rfl) (v_move rfl) rfl rfl ?_; clear hF a; intro a hF
 refine svg hF rfl ?_
 refine sv hF (v_move rfl) rfl ?_; clear hF a; intro a hF
 refine svg hF rfl ?_
 refine sv3w hK hF ((v_lss rfl rfl).as (congrArg Value.bool (decide_eq_false (by omega)))) (v_pickF rfl rfl) (v_assign rfl) rfl rfl rfl ?_; clear hF a hK K; intro a hF
 replace hF := hF.sub _ (c_ 9 rfl (c_ 5 rfl (c_ 4 rfl (c_ 2 rfl (c_ 1 rfl n_)))))
 refine W_ifF hF rfl ?_
 refine W_sr rfl fun K hK => ?_
 refine sv3w hK hF (v_move rfl) ((v_gtr rfl rfl).as (congrArg Value.bool (decide_eq_false (by omega)))) (v_assign rfl) rfl rfl rfl ?_; clear hF a hK K; intro a hF
 replace hF := hF.sub _ (c_ 17 rfl (c_ 5 rfl (c_ 4 rfl (c_ 2 rfl (c_ 1 rfl n_)))))
 refine W_ifF hF rfl ?_
 refine W_skip ?_
 refine W_sr rfl fun K hK => ?_
 refine sv hF (v_loadN Tryz.underlying30 rfl (by kernel_rfl) rfl hbx) rfl ?_; clear hF a; intro a hF
 refine sc hF rfl rfl rfl en63 rfl (rule_ok B p k m u ah _ hS.inv hB hp hk hm hu hah) ?_; clear hF a; intro v w' a hv hF
 obtain ⟨rfl, hS'⟩ := hv
 replace hbx := hbx.st (by decide) hS'
 replace hS := hS.trans hS'
 clear hS'
 refine sv5w hK hF (v_move rfl) (v_ext rfl rfl) (v_ext rfl rfl) (v_assign rfl) (v_assign rfl) rfl rfl rfl rfl rfl ?_; clear hF a hK K; intro a hF
 replace hF := hF.sub _ (c_ 7 rfl (c_ 6 rfl (c_ 24 rfl (c_ 23 rfl (c_ 20 rfl (c_ 22 rfl (c_ 21 rfl (c_ 5 rfl (c_ 4 rfl (c_ 2 rfl (c_ 1 rfl n_)))))))))))
 refine W_sr rfl fun K hK => ?_
 refine sv3 hF (v_move rfl) (v_fieldAddr fa30_1 rfl) (v_load sc3 rfl (hbx.at 1 rfl)) rfl rfl rfl ?_; clear hF a; intro a hF
 refine sv hF ((v_mulI rfl rfl (by rw [show ((u : Int) * (k : Int)) = (st : Int) from (by rw [hst]; simp)]; omega)).as (show Value.int .i64 ((u : Int) * (k : Int)) = .int .i64 (st : Int) by rw [hst]; simp)) rfl ?_; clear hF a; intro a hF
 refine svw hK hF (v_assign rfl) rfl ?_; clear hF a hK K; intro a hF
 obtain ⟨q, hq⟩ : ∃ q, q = max ((n + ah + st - 1) / st) 1 := ⟨_, rfl⟩
 have hqd : (n + ah + st - 1) / st ≤ n + ah + st - 1 := Nat.div_le_self _ _
 have hq2 : q ≤ 5000 := by rw [hq]; omega
 obtain ⟨z, hz⟩ : ∃ z, z = u * q := ⟨_, rfl⟩
 have hz2 : z ≤ 80000 := by rw [hz]; exact Nat.le_trans (Nat.mul_le_mul hu2 hq2) (by decide)
 have hzs : sizeN p k n = z := by unfold sizeN; rw [hu, hah, ← hst, ← hq, ← hz]
 refine W_sr rfl fun K hK => ?_
 refine sv6 hF (v_move rfl) (v_move rfl) (v_move rfl) (v_addI rfl rfl (by omega)) (v_move rfl) (v_addI rfl rfl (by omega)) rfl rfl rfl rfl rfl rfl ?_; clear hF a; intro a hF
 refine sv2 hF (v_subI rfl rfl (by omega)) (v_move rfl) rfl rfl ?_; clear hF a; intro a hF
 refine sv hF ((v_quoI rfl rfl (by omega) (by omega) (by omega)).as (show Value.int .i64 _ = .int .i64 (((n + ah + st - 1) / st : Nat) : Int) by congr 1; rw [Int.natCast_ediv]; congr 1; omega)) rfl ?_; clear hF a; intro a hF
 refine sv hF ((v_maxI rfl rfl rfl).as (show Value.int .i64 _ = .int .i64 (q : Int) by rw [hq]; congr 1; omega)) rfl ?_; clear hF a; intro a hF
 refine sv hF ((v_mulI rfl rfl (by rw [show ((u : Int) * (q : Int)) = (z : Int) from (by rw [hz]; simp)]; omega)).as (show Value.int .i64 ((u : Int) * (q : Int)) = .int .i64 (z : Int) by rw [hz]; simp)) rfl ?_; clear hF a; intro a hF
 refine sv2w hK hF (v_assign rfl) (v_assign rfl) rfl rfl ?_; clear hF a hK K; intro a hF
 refine W_ret ?_
 refine ⟨_, _, _, hF, rfl, rfl, ?_⟩
 rw [hzs]
 exact ⟨rfl, hS⟩
theorem laid_ok (B a : Nat) (px : Option Addr) (cx : Nat) (bs : List Nat) (w : World) (hI : Inv FDx B w) : Ret Tryz.prog 132 [.int .i64 (a : Int), .slice px bs.length cx] w fun v w' => ∃ pb pa, v = .func (.func 202) ([] : List Value).toArray ([.pointer (some ⟨pb, 0, none⟩), .pointer (some ⟨pa, 0, none⟩)] : List Value).toArray ∧ w.heap.size ≤ pb ∧ w.heap.size ≤ pa ∧ KC FDx B w' ⟨pb, 0, none⟩ (.slice px bs.length cx) ∧ KC FDx B w' ⟨pa, 0, none⟩ (.int .i64 (a : Int)) ∧ St FDx B w w' := by
 refine enter 6 [(0, .int .i64 (a : Int)), (1, .slice px bs.length cx)] 4 Tryz.func132 rfl rfl rfl rfl rfl ?_; intro a hF
 have hS := St.refl hI
 refine W_sr rfl fun K hK => ?_
 refine s_boxN (D := FDx) (B := B) hF rfl (rfl) (by decide) hS.inv rfl ?_; clear hF a; intro w' a hm hI' hba hsz hF
 replace hS := hS.mb0 hm
 clear hm hI' hsz
 have hla := heap_lt hba.blk
 obtain ⟨pa, hpa⟩ : ∃ g, g = w.heap.size := ⟨_, rfl⟩
 rw [← hpa] at hba hF hla
 refine s_boxN (D := FDx) (B := B) hF rfl (rfl) (by decide) hS.inv rfl ?_; clear hF a; intro w' a hm hI' hbb hsz hF
 replace hba := hba.mb hm (by simp)
 replace hS := hS.mb0 hm
 clear hm hI' hsz
 refine svw hK hF (v_assign rfl) rfl ?_; clear hF a hK K; intro a hF
 replace hF := hF.sub _ (c_ 4 rfl (c_ 3 rfl (c_ 2 rfl n_)))
 have hka := hba.kc
 have hkb := hbb.kc
 have hs0 := hS.ext.size
 clear hba hbb
 refine W_sr rfl fun K hK => ?_
 refine sv2w hK hF (v_mkf (cs := [.tmp 3, .tmp 2]) (vs := [.pointer (some ⟨_, 0, none⟩), .pointer (some ⟨pa, 0, none⟩)]) rfl) (v_assign rfl) rfl rfl ?_; clear hF a hK K; intro a hF
 replace hF := hF.sub _ (c_ 4 rfl n_)
 refine W_ret ?_
 refine ⟨_, _, hF, rfl, ?_⟩
 exact ⟨_, pa, rfl, by omega, by omega, hkb, hka, hS⟩
theorem laid1_ok (B M pb pa l ah n : Nat) (px : Option Addr) (cx : Nat) (bs : List Nat) (Z : Nat → Prop) (J Jx : Nat → World → Prop) (w0 w : World) (h0S : StZ FDx B Z w0 w) (hkb : KC FDx B w ⟨pb, 0, none⟩ (.slice px n cx)) (hka : KC FDx B w ⟨pa, 0, none⟩ (.int .i64 (ah : Int))) (hn : bs.length = n) (hxr : Row FDx B M w (.slice px n cx) (byt bs)) (hzM : ∀ k, k < M → ¬ Z k) (hMw : M ≤ w0.heap.size) (hZw : ∀ k, Z k → k < w.heap.size) (hl : n ≤ 4096) (ha : ah ≤ 4) (hJs : ∀ i A C, J i A → St FDx B A C → J i C) (hY : ∀ i x v u A, (prs (laidL ah bs))[i]? = some x → J i A → StZ FDx B Z w0 A → encP x A v u → YieldOk2 Tryz.prog l v u A fun b A' => (b = true ∧ J (i + 1) A' ∧ StZ FDx B Z A A') ∨ (b = false ∧ Jx (i + 1) A')) (h0 : J 0 w) : Ret Tryz.prog 202 [.func (.yield l) #[] #[], .pointer (some ⟨pb, 0, none⟩), .pointer (some ⟨pa, 0, none⟩)] w fun v A' => (J (laidL ah bs).length A' ∧ StZ FDx B Z w0 A') ∨ ∃ i, Jx i A' := by
 refine enter0 43 [(0, .func (.yield l) #[] #[]), (1, .pointer (some ⟨pb, 0, none⟩)), (2, .pointer (some ⟨pa, 0, none⟩))]  Tryz.func202 rfl rfl rfl rfl rfl ?_; intro a hF
 have hS := h0S
 have hSw := St.refl h0S.inv
 have hLl := laidL_len (a := ah) (b := bs) ha
 have hw0 := h0S.ext.size
 have hpb : pb < w.heap.size := hkb.2.1
 have hpa : pa < w.heap.size := hka.2.1
 refine W_sr rfl fun K hK => ?_
 refine sv3w hK hF (v_load sc23 rfl hkb.c) (v_lenS rfl sl23 rfl) (v_assign rfl) rfl rfl rfl ?_; clear hF a hK K; intro a hF
 replace hF := hF.sub _ (c_ 4 rfl (c_ 0 rfl (c_ 1 rfl (c_ 2 rfl n_))))
 refine W_sr rfl fun K hK => ?_
 refine sv6 hF (v_move rfl) (v_quoN (m := n) (n := 256) rfl rfl (by decide) (fits_i64 (by omega))) (v_quoN (m := n / 256) (n := 256) rfl rfl (by decide) (fits_i64 (by omega))) (v_quoN (m := n / 256 / 256) (n := 256) rfl rfl (by decide) (fits_i64 (by omega))) (v_cv Tryz.underlying3 Tryz.underlying5 rfl ((wrap_u8' _).trans (show (((n / 256 / 256 / 256 : Nat) : Int)) % 256 = ((n / 256 / 256 / 256 % 256 : Nat) : Int) by omega))) (v_move rfl) rfl rfl rfl rfl rfl rfl ?_; clear hF a; intro a hF
 refine sv6 hF (v_quoN (m := n) (n := 256) rfl rfl (by decide) (fits_i64 (by omega))) (v_quoN (m := n / 256) (n := 256) rfl rfl (by decide) (fits_i64 (by omega))) (v_cv Tryz.underlying3 Tryz.underlying5 rfl ((wrap_u8' _).trans (show (((n / 256 / 256 : Nat) : Int)) % 256 = ((n / 256 / 256 % 256 : Nat) : Int) by omega))) (v_move rfl) (v_quoN (m := n) (n := 256) rfl rfl (by decide) (fits_i64 (by omega))) (v_cv Tryz.underlying3 Tryz.underlying5 rfl ((wrap_u8' _).trans (show (((n / 256 : Nat) : Int)) % 256 = ((n / 256 % 256 : Nat) : Int) by omega))) rfl rfl rfl rfl rfl rfl ?_; clear hF a; intro a hF
 refine sv2 hF (v_move rfl) (v_cv Tryz.underlying3 Tryz.underlying5 rfl ((wrap_u8' _).trans (show (((n : Nat) : Int)) % 256 = ((n % 256 : Nat) : Int) by omega))) rfl rfl ?_; clear hF a; intro a hF
 refine sv hF (v_build (cs := #[.int .u8 ((n / 256 / 256 / 256 % 256 : Nat) : Int), .int .u8 ((n / 256 / 256 % 256 : Nat) : Int), .int .u8 ((n / 256 % 256 : Nat) : Int), .int .u8 ((n % 256 : Nat) : Int)]) rfl (by kernel_rfl)) rfl ?_; clear hF a; intro a hF
 have hs0 := hSw.ext.size
 refine s_allocN (D := FDx) (B := B) (z := .agg #[.int .u8 0, .int .u8 0, .int .u8 0, .int .u8 0]) hF (by kernel_rfl) (by decide) hS.inv rfl ?_; clear hF a; intro gT w' a hm hI' hT hF
 replace hkb := hkb.mb hm (by simp)
 replace hka := hka.mb hm (by simp)
 replace hxr := hxr.mb hm (fun _ h => by cases h)
 replace hSw := hSw.mb0 hm
 replace hS := hS.mb0 hm
 clear hm hI'
 have hgT := hT.low
 refine s_storeN (D := FDx) (B := B) hF (by kernel_rfl) rfl rfl (rfl) (by rfl) hT hS.inv ?_; intro w' hm hI' hrc'
 replace hkb := hkb.mb hm (fun e => by have e2 : gT = pb := Option.some.inj e; omega)
 replace hka := hka.mb hm (fun e => by have e2 : gT = pa := Option.some.inj e; omega)
 replace hxr := hxr.mb hm (fun k h => by cases h; exact Nat.le_trans (by omega) hT.low)
 replace hSw := hSw.mb hm (fun k h => by cases h; omega)
 replace hS := hS.mbn hm (fun k h => by cases h; exact ⟨by omega, _, _, _, hT.blk⟩)
 replace hT := hrc'
 clear hm hI' hrc'
 refine wn hK ?_
 clear hK K
 replace hF := hF.sub _ (c_ 5 rfl (c_ 0 rfl (c_ 1 rfl (c_ 2 rfl n_))))
 refine W_sd (m := 8) rfl hmix hS.inv (fun K hK w1 hS' hh => ?_)
 replace hkb := hkb.st hS'
 replace hka := hka.st hS'
 replace hxr := hxr.st hS'
 replace hSw := hSw.trans hS'
 replace hT := hT.st hS'
 replace hS := hS.trans hS'
 clear hS'
 clear hh
 refine a_v (i := 0) rfl (by kernel_rfl) hF (fun w2 hx => v_load sc3 rfl (by first | exact KC.ld (by assumption) hx | exact KC.ld (Box.kc (by assumption)) hx | (rw [toNat_c]; exact KC.ld (by assumption) hx))) rfl ?_; clear hF a; intro a hF
 refine a_v (i := 1) rfl (by kernel_rfl) hF (fun w2 hx => (v_subI rfl rfl (by omega)).as (show Value.int .i64 (4 - (ah : Int)) = .int .i64 ((4 - ah : Nat) : Int) by congr 1; omega)) rfl ?_; clear hF a; intro a hF
 refine a_v (i := 2) rfl (by kernel_rfl) hF (fun w2 hx => v_slA ar290 rfl rfl (by omega)) rfl ?_; clear hF a; intro a hF
 have hrT := RecB.rowD (l := hdr n) (n := 4) (d := 4 - ah) hT rfl (by omega)
 obtain ⟨s27, hs27⟩ : ∃ x, x = ((if 4 = 4 - ah then ⟨gT, 0, none⟩ else ⟨gT, 4 - ah, none⟩) : Addr) := ⟨_, rfl⟩
 rw [← hs27, show 4 - (4 - ah) = ah by omega] at hF hrT
 clear hs27 hT
 refine a_v (i := 3) rfl (by kernel_rfl) hF (fun w2 hx => v_load sc23 rfl (by first | exact KC.ld (by assumption) hx | exact KC.ld (Box.kc (by assumption)) hx | (rw [toNat_c]; exact KC.ld (by assumption) hx))) rfl ?_; clear hF a; intro a hF
 refine a_v (i := 7) rfl (by kernel_rfl) hF (fun w2 hx => v_move rfl) rfl ?_; clear hF a; intro a hF
 refine a_e (i := 4) rfl (by kernel_rfl) ?_
 refine s_bs (D := FDx) (B := B) hF sl48 rfl rfl (by decide) (by simp [Value.cells]) (by decide) hS.inv rfl ?_; clear hF a; intro w' a hm hI' hb hF
 have hS' := (St.refl hS.inv).mb0 hm
 refine WL_nil ⟨hS'.ext, ?_⟩
 clear hS'
 replace hkb := hkb.mb hm (by simp)
 replace hka := hka.mb hm (by simp)
 replace hxr := hxr.mb hm (fun _ h => by cases h)
 replace hSw := hSw.mb0 hm
 replace hrT := (hrT.mb hm (fun _ h => by cases h)).mono hm.size
 replace hS := hS.mb0 hm
 clear hm hI'
 refine a_e (i := 5) rfl (by kernel_rfl) ?_
 refine sc hF rfl rfl rfl en64 rfl (BConcat_ok B _ (some ⟨_, 0, none⟩) 2 [.slice (some s27) ah ah, .slice px n cx] [(hdr n).drop (4 - ah), bs] _ hS.inv (hb.row (by decide)) (rows2_two hrT (hxr.mono (Nat.le_trans hMw hS.ext.size))) (Nat.le_refl _) (by simp) (two_le (by simp [hdr_len]; omega) (by omega))) ?_; clear hF a; intro v w' a hv hF
 clear hb hrT
 obtain ⟨obC, hC, hS'⟩ := hv
 replace hC := (hC.le hSw.ext.size).cast (show _ = byt (laidL ah bs) by simp [laidL, hn])
 obtain ⟨sC, cC, rfl⟩ := hC.shape
 rw [byt_length] at hC hF
 refine WL_nil ⟨hS'.ext, ?_⟩
 replace hSw := hSw.trans hS'
 replace hS := hS.trans hS'
 clear hS'
 refine a_v (i := 6) rfl (by kernel_rfl) hF (fun w2 hx => v_lenS rfl sl23 rfl) rfl ?_; clear hF a; intro a hF
 refine a_done (by kernel_rfl) (hK _ _ ?_)
 clear hK K
 replace hF := hF.sub _ (c_ 31 rfl (c_ 30 rfl (c_ 32 rfl (c_ 0 rfl n_))))
 refine W_block ?_
 refine W_loop (fun m a w1 => ∃ (i : Nat), Fr 43 [(0, .func (.yield l) #[] #[]), (30, .slice sC (laidL ah bs).length cC), (31, .int .i64 ((laidL ah bs).length : Int)), (32, .int .i64 (i : Int))] a ∧ (StZ FDx B Z w0 w1) ∧ (Gam.Own FDx B w.heap.size w1 5 (.slice sC (laidL ah bs).length cC) obC (byt (laidL ah bs))) ∧ (J i w1) ∧ (i ≤ (laidL ah bs).length) ∧ (m + i = (laidL ah bs).length)) ((laidL ah bs).length) ?_ ?_
 · skip
   exact ⟨0, hF.sub _ (c_ 0 rfl (c_ 30 rfl (c_ 31 rfl (c_ 32 rfl n_)))), hS, hC, hJs _ _ _ h0 hSw, by omega, by omega⟩
 skip
 clear hF
 clear hS hC
 rintro m a w1 ⟨i, hF, hS, hC, hJ, hi, hm⟩
 refine W_sr rfl fun K hK => ?_
 refine svw hK hF (v_lss rfl rfl) rfl ?_; clear hF a hK K; intro a hF
 refine W_seq ?_
 refine W_if hF rfl (fun hc1 => ?_) (fun hc1 => ?_)
 ·
  skip
  try simp only [dcl] at hc1
  have hlt : i < (laidL ah bs).length := by omega
  obtain ⟨c, hc⟩ : ∃ x, (laidL ah bs)[i]? = some x := ⟨_, List.getElem?_eq_getElem hlt⟩
  obtain ⟨gx, ox, hgx, hkx, -⟩ := (hC.row (by decide)).kat (byt_at hc)
  subst hgx
  refine W_skip ?_
  refine W_seq ?_
  refine W_block ?_
  refine W_sr rfl fun K hK => ?_
  refine sv2 hF (v_move rfl) (v_ixS sl23 rfl rfl (by omega) (by omega)) rfl rfl ?_; clear hF a; intro a hF
  refine sv hF (v_load sc5 rfl (by rw [toNat_c]; exact hkx.c)) rfl ?_; clear hF a; intro a hF
  refine sv2w hK hF (v_assign rfl) (v_assign rfl) rfl rfl ?_; clear hF a hK K; intro a hF
  replace hF := hF.sub _ (c_ 7 rfl (c_ 6 rfl (c_ 0 rfl (c_ 30 rfl (c_ 31 rfl (c_ 32 rfl n_))))))
  refine W_srY rfl (fun K hK => ?_)
  refine svI hF rfl (v_move rfl) rfl ?_; clear hF a; intro a hF
  refine svI hF rfl (v_move rfl) rfl ?_; clear hF a; intro a hF
  refine svI hF rfl (v_move rfl) rfl ?_; clear hF a; intro a hF
  refine syI2 hF rfl rfl rfl rfl ((hY i _ _ _ _ (prs_at hc) hJ hS ⟨rfl, rfl⟩).mono (fun b w' hb => ?_))
  rcases hb with ⟨rfl, hJ', hz⟩ | ⟨rfl, hX'⟩
  ·
   skip
   clear hF; intro a hF
   refine WLI_of rfl ?_
   replace hC := hC.stz (by decide) hz (fun k e z => by have h1 := hZw k z; have h2 := (hC.lt k e).1; omega)
   replace hS := hS.transZ hz
   replace hJ := hJ'
   refine svw hK hF (v_not rfl) rfl ?_; clear hF a hK K; intro a hF
   replace hF := hF.sub _ (c_ 41 rfl (c_ 0 rfl (c_ 30 rfl (c_ 31 rfl (c_ 32 rfl n_)))))
   refine W_ifF hF rfl ?_
   refine W_skip ?_
   refine W_reg rfl fun K hK => ?_
   refine sv2w hK hF (v_addI rfl rfl (by omega)) (v_move rfl) rfl rfl ?_; clear hF a hK K; intro a hF
   replace hF := hF.sub _ (c_ 32 rfl (c_ 42 rfl (c_ 0 rfl (c_ 30 rfl (c_ 31 rfl n_)))))
   exact ⟨m - 1, by omega, i + 1, hF.sub _ (c_ 0 rfl (c_ 30 rfl (c_ 31 rfl (c_ 32 rfl n_)))), hS, hC, hJ, by omega, by omega⟩
  skip
  clear hF; intro a hF
  refine WLI_of rfl ?_
  refine svw hK hF (v_not rfl) rfl ?_; clear hF a hK K; intro a hF
  replace hF := hF.sub _ (c_ 41 rfl (c_ 0 rfl (c_ 30 rfl (c_ 31 rfl (c_ 32 rfl n_)))))
  refine W_ifT hF rfl ?_
  refine W_ret ?_
  refine ⟨_, hF, ?_⟩
  exact .inr ⟨_, hX'⟩
 skip
 try simp only [dcl] at hc1
 refine W_exit rfl ?_
 refine ⟨_, hF, ?_⟩
 obtain rfl : i = (laidL ah bs).length := by omega
 exact .inl ⟨hJ, hS⟩
theorem laid_seq (B M pb pa ah n : Nat) (px : Option Addr) (cx : Nat) (bs : List Nat) (Z : Nat → Prop) (w0 : World) (hkb : KC FDx B w0 ⟨pb, 0, none⟩ (.slice px n cx)) (hka : KC FDx B w0 ⟨pa, 0, none⟩ (.int .i64 (ah : Int))) (hn : bs.length = n) (hxr : Row FDx B M w0 (.slice px n cx) (byt bs)) (hzM : ∀ k, k < M → ¬ Z k) (hMw : M ≤ w0.heap.size) (hZw : ∀ k, Z k → k ≤ w0.heap.size + 1) (hl : n ≤ 4096) (ha : ah ≤ 4) :
  Seq2 Tryz.prog FDx B 202 [.pointer (some ⟨pb, 0, none⟩), .pointer (some ⟨pa, 0, none⟩)] encP (prs (laidL ah bs)) Z w0 := by
 intro l J Jx W hl1 hl2 hW hJs hY h0
 have := laid1_ok B M pb pa l ah n px cx bs Z J Jx w0 W hW.z (hkb.st hW) (hka.st hW) hn (hxr.st hW) hzM hMw (fun k hk => by have := hZw k hk; omega) hl ha hJs hY h0
 refine Calls.mono this ?_
 rintro e A' ⟨v, rfl, h⟩
 refine ⟨v, rfl, ?_⟩
 rw [prs_len]
 exact h
end Go.Proofs.YtoabojbpeafdkaaGreatDoor
/- The walk of package layout: Split. -/
namespace Go.Proofs.YtoabojbpeafdkaaGreatDoor
open Go Go.Gam
namespace FxFSpl
theorem en131 : Ent Tryz.prog 131 := ent Tryz.func131 (by kernel_rfl) (by kernel_rfl)
theorem en132 : Ent Tryz.prog 132 := ent Tryz.func132 (by kernel_rfl) (by kernel_rfl)
theorem fa30_1 : FieldFact Tryz.prog 30 1 1 := ff_of (sz := 0) Tryz.underlying30 (by kernel_rfl)
theorem hmix : Tryz.prog.follows .mixedOrders = true := by kernel_rfl
theorem on23 : Gam.One Tryz.prog 23 := by unfold Gam.One; kernel_rfl
theorem on3 : Gam.One Tryz.prog 3 := by unfold Gam.One; kernel_rfl
theorem on48 : Gam.One Tryz.prog 48 := by unfold Gam.One; kernel_rfl
theorem on5 : Gam.One Tryz.prog 5 := by unfold Gam.One; kernel_rfl
theorem sc23 : Scalar Tryz.prog 23 := ⟨_, Tryz.underlying23, by simp, by simp⟩
theorem sc3 : Scalar Tryz.prog 3 := ⟨_, Tryz.underlying3, by simp, by simp⟩
theorem sc48 : Scalar Tryz.prog 48 := ⟨_, Tryz.underlying48, by simp, by simp⟩
theorem sl23 : Sl Tryz.prog 23 5 (.int .u8 0) 1 := sl_of Tryz.underlying23 rfl (by kernel_rfl)
theorem sl48 : Sl Tryz.prog 48 23 (.slice none 0 0) 24 := sl_of Tryz.underlying48 rfl (by kernel_rfl)
theorem zv3 : Zv Tryz.prog 3 (.int .i64 0) := zv_of rfl (by kernel_rfl)
theorem zv48 : Zv Tryz.prog 48 (.slice none 0 0) := zv_of rfl (by kernel_rfl)
end FxFSpl
open FxFSpl
theorem Split_ok (B M p k m : Nat) (px : Option Addr) (cx : Nat) (bs : List Nat) (w : World) (hI : Inv FDx B w) (hB : 9 ≤ B) (hp : 1 ≤ p ∧ p ≤ 6) (hk : 1 ≤ k ∧ k ≤ 8) (hm : 1 ≤ m ∧ m ≤ maxN p) (hx : Row FDx B M w (.slice px bs.length cx) (byt bs)) (hM : M ≤ w.heap.size) (hl : bs.length ≤ 4096) : Ret Tryz.prog 66 [.agg #[.int .i64 (p : Int), .int .i64 (k : Int), .int .i64 (m : Int)], .slice px bs.length cx] w fun v w' => ∃ sl ob vals, v = .tuple #[sl, .int .i64 0] ∧ Gam.Own FDx B w.heap.size w' 23 sl ob vals ∧ Owns2 FDx B w.heap.size w' 5 vals (dataL p k bs) ∧ St FDx B w w' := by
 refine enterM2 (D := FDx) (B := B) w.heap.size 60 [(0, .agg #[.int .i64 (p : Int), .int .i64 (k : Int), .int .i64 (m : Int)]), (1, .slice px bs.length cx)] 4 5 Tryz.func66 rfl rfl rfl rfl rfl ?_; intro a hF
 have hS := St.refl hI
 obtain ⟨sz, hsze⟩ : ∃ s, s = sizeN p k bs.length := ⟨_, rfl⟩
 have hsb := size_bd (p := p) (n := bs.length) hk hl
 rw [← hsze] at hsb
 have hMk := Mk.nil w.heap.size w
 have hah := aheadN_bd p
 have hLL := laidL_len (a := aheadN p) (b := bs) hah
 refine W_sr rfl fun K hK => ?_
 refine s_box (D := FDx) (B := B) hF rfl (by decide) hS.inv rfl ?_; clear hF a; intro w' a hm hbx hsz hF
 replace hx := hx.mb hm (fun _ h => by cases h)
 replace hMk := hMk.mb hm (fun k e => by cases e)
 replace hS := hS.mb0 hm
 clear hm
 refine sv2w hK hF (v_assign rfl) (v_assign rfl) rfl rfl ?_; clear hF a hK K; intro a hF
 replace hF := hF.sub _ (c_ 5 rfl (c_ 4 rfl (c_ 2 rfl (c_ 1 rfl n_))))
 refine W_sr rfl fun K hK => ?_
 refine sv hF (v_loadN Tryz.underlying30 rfl (by kernel_rfl) rfl hbx) rfl ?_; clear hF a; intro a hF
 refine sv2 hF (v_move rfl) (v_lenS rfl sl23 rfl) rfl rfl ?_; clear hF a; intro a hF
 refine sc hF rfl rfl rfl en131 rfl (LSize_ok B p k m bs.length _ hS.inv hB hp hk hm hl) ?_; clear hF a; intro v w' a hv hF
 obtain ⟨rfl, hS'⟩ := hv
 replace hx := hx.st hS'
 replace hMk := hMk.st hS'
 replace hbx := hbx.st (by decide) hS'
 replace hS := hS.trans hS'
 clear hS'
 rw [← hsze] at hF
 refine sv3 hF (v_move rfl) (v_ext rfl rfl) (v_ext rfl rfl) rfl rfl rfl ?_; clear hF a; intro a hF
 have hlb := heap_lt hbx
 obtain ⟨g6, hg6⟩ : ∃ g, g = w'.heap.size := ⟨_, rfl⟩
 refine s_alloc (D := FDx) (B := B) hF zv3 (by decide) hS.inv rfl ?_; clear hF a; intro w' a hm hI' hb6 hsz hF
 replace hx := hx.mb hm (fun _ h => by cases h)
 replace hMk := hMk.mb hm (fun k e => by cases e)
 replace hbx := hbx.mb hm (by simp)
 replace hS := hS.mb0 hm
 clear hm hI' hsz
 rw [← hg6] at hb6 hF
 have hl6 := heap_lt hb6.blk
 have hn6 := hS.ext.size
 refine s_stb (D := FDx) (B := B) hF on3 rfl rfl (rfl) hb6 hS.inv ?_; intro w' hm hI' hbx'
 replace hx := hx.mb hm (fun k h => by cases h; exact Nat.le_trans (by omega) hb6.low)
 replace hMk := hMk.mb hm (fun k e => by cases e; exact ⟨_, _, _, hb6.blk⟩)
 replace hbx := hbx.mb hm (by simp; omega)
 replace hS := hS.mb hm (fun k h => by cases h; omega)
 replace hb6 := hbx'
 clear hm hI' hbx'
 refine svw hK hF (v_assign rfl) rfl ?_; clear hF a hK K; intro a hF
 replace hF := hF.sub _ (c_ 7 rfl (c_ 6 rfl (c_ 5 rfl (c_ 4 rfl (c_ 2 rfl (c_ 1 rfl n_))))))
 refine W_seq ?_
 refine W_sr rfl fun K hK => ?_
 refine sv2w hK hF (v_move rfl) ((v_neq rfl rfl).as (congrArg Value.bool (decide_eq_false (fun h => h rfl)))) rfl rfl ?_; clear hF a hK K; intro a hF
 replace hF := hF.sub _ (c_ 22 rfl (c_ 7 rfl (c_ 6 rfl (c_ 5 rfl (c_ 4 rfl (c_ 2 rfl (c_ 1 rfl n_)))))))
 refine W_ifF hF rfl ?_
 refine W_skip ?_
 refine W_sr rfl fun K hK => ?_
 refine sv2 hF (v_fieldAddr fa30_1 rfl) (v_load sc3 rfl (hbx.at 1 rfl)) rfl rfl ?_; clear hF a; intro a hF
 have hs2 := hS.ext.size
 obtain ⟨go, hgo⟩ : ∃ g, g = w'.heap.size := ⟨_, rfl⟩
 refine s_mk (D := FDx) (B := B) (m := k) hF sl48 rfl rfl (by simp) (by omega) (by simp only [maxLen]; omega) (by decide) hS.inv rfl ?_; clear hF a; intro w' a hm hI' hO hF
 replace hx := hx.mb hm (fun _ h => by cases h)
 replace hMk := hMk.mb hm (fun k e => by cases e)
 replace hbx := hbx.mb hm (by simp)
 replace hb6 := hb6.mb hm (by simp)
 replace hS := hS.mb0 hm
 clear hm hI'
 rw [← hgo] at hO hF
 replace hO := hO.le (show w.heap.size ≤ go by omega)
 have hlo := (hO.lt _ rfl).2
 obtain ⟨g8, hg8⟩ : ∃ g, g = w'.heap.size := ⟨_, rfl⟩
 have hl6b := heap_lt hb6.blk
 have hlbb := heap_lt hbx
 refine s_alloc (D := FDx) (B := B) hF zv48 (by decide) hS.inv rfl ?_; clear hF a; intro w' a hm hI' hb8 hsz hF
 replace hx := hx.mb hm (fun _ h => by cases h)
 replace hMk := hMk.mb hm (fun k e => by cases e)
 replace hbx := hbx.mb hm (by simp)
 replace hb6 := hb6.mb hm (by simp)
 replace hO := hO.mb hm (fun _ _ => by simp)
 replace hS := hS.mb0 hm
 clear hm hI' hsz
 rw [← hg8] at hb8 hF
 have hs8 := hS.ext.size
 refine s_stb (D := FDx) (B := B) hF on48 rfl rfl (rfl) hb8 hS.inv ?_; intro w' hm hI' hbx'
 replace hx := hx.mb hm (fun k h => by cases h; exact Nat.le_trans (by omega) hb8.low)
 replace hMk := hMk.mb hm (fun k e => by cases e; exact ⟨_, _, _, hb8.blk⟩)
 replace hbx := hbx.mb hm (by simp; omega)
 replace hb6 := hb6.mb hm (by simp; omega)
 replace hO := hO.mb hm (fun k e e2 => by cases e2; cases e; omega)
 replace hS := hS.mb hm (fun k h => by cases h; omega)
 replace hb8 := hbx'
 clear hm hI' hbx'
 refine wn hK ?_
 clear hK K
 replace hF := hF.sub _ (c_ 8 rfl (c_ 6 rfl (c_ 5 rfl (c_ 4 rfl (c_ 2 rfl (c_ 1 rfl n_))))))
 refine W_seq ?_
 refine W_sr rfl fun K hK => ?_
 refine sv3w hK hF (v_load sc48 rfl hb8.at) (v_lenS rfl sl48 rfl) (v_move rfl) rfl rfl rfl ?_; clear hF a hK K; intro a hF
 replace hF := hF.sub _ (c_ 29 rfl (c_ 28 rfl (c_ 8 rfl (c_ 6 rfl (c_ 5 rfl (c_ 4 rfl (c_ 2 rfl (c_ 1 rfl n_))))))))
 refine W_block ?_
 refine W_loop (fun q a w1 => ∃ (i : Nat) (bsf rc : Nat → Nat), Fr 60 [(1, .slice px bs.length cx), (2, .pointer (some ⟨w.heap.size, 0, none⟩)), (6, .pointer (some ⟨g6, 0, none⟩)), (8, .pointer (some ⟨g8, 0, none⟩)), (28, .int .i64 (k : Int)), (29, .int .i64 (i : Int))] a ∧ (St FDx B w w1) ∧ (Row FDx B M w1 (.slice px bs.length cx) (byt bs)) ∧ (Blk w1 w.heap.size 30 [.int .i64 (p : Int), .int .i64 (k : Int), .int .i64 (m : Int)]) ∧ (Box FDx B g6 w1 g6 3 (.int .i64 (sz : Int))) ∧ (Box FDx B g8 w1 g8 48 (.slice (some ⟨go, 0, none⟩) k k)) ∧ (Gam.Own FDx B w.heap.size w1 23 (.slice (some ⟨go, 0, none⟩) k k) (some go) (vls i sz bsf rc ++ List.replicate (k - i) (.slice none 0 0))) ∧ (Wb FDx B w.heap.size w1.heap.size w1 5 i sz bsf rc (fun _ => List.replicate sz 0)) ∧ (Mk w.heap.size [] w1) ∧ (i ≤ k) ∧ (q + i = k)) (k) ?_ ?_
 · skip
   exact ⟨0, id, id, hF.sub _ (c_ 1 rfl (c_ 2 rfl (c_ 6 rfl (c_ 8 rfl (c_ 28 rfl (c_ 29 rfl n_)))))), hS, hx, hbx, hb6, hb8, hO.cast (by simp [vls]), Wb.nil, hMk, by omega, by omega⟩
 skip
 clear hF
 clear hS hx hbx hb6 hb8 hO hMk
 rintro q a w1 ⟨i, bsf, rc, hF, hS, hx, hbx, hb6, hb8, hO, hW, hMk, hi, hq⟩
 refine W_sr rfl fun K hK => ?_
 refine svw hK hF (v_lss rfl rfl) rfl ?_; clear hF a hK K; intro a hF
 refine W_seq ?_
 refine W_if hF rfl (fun hc1 => ?_) (fun hc1 => ?_)
 ·
  skip
  try simp only [dcl] at hc1
  have hlt : i < k := by omega
  have hvl := vls_length i sz bsf rc
  refine W_skip ?_
  refine W_seq ?_
  refine W_block ?_
  refine W_sr rfl fun K hK => ?_
  refine sv2w hK hF (v_move rfl) (v_assign rfl) rfl rfl ?_; clear hF a hK K; intro a hF
  replace hF := hF.sub _ (c_ 9 rfl (c_ 1 rfl (c_ 2 rfl (c_ 6 rfl (c_ 8 rfl (c_ 28 rfl (c_ 29 rfl n_)))))))
  have hS0 := hS.ext.size
  refine W_dS (fun w2 => w2.cell? ⟨g8, 0, none⟩ = some (.slice (some ⟨go, 0, none⟩) k k) ∧ w2.cell? ⟨g6, 0, none⟩ = some (.int .i64 (sz : Int))) (m := 6) rfl hmix (fun K hK => ?_)
  have hS' := St.drew hS.inv
  replace hx := hx.st hS'
  replace hbx := hbx.st (by decide) hS'
  replace hb6 := hb6.st hS'
  replace hb8 := hb8.st hS'
  replace hO := hO.st (by decide) hS'
  replace hW := hW.st (by decide) hS'
  replace hMk := hMk.st hS'
  replace hS := hS.trans hS'
  clear hS'
  have hSS := And.intro hb8.at hb6.at
  refine b_v (i := 0) rfl (by kernel_rfl) hF (fun w2 hx => v_load sc48 rfl hx.1) rfl hSS ?_; clear hF a; intro a hF
  refine b_v (i := 1) rfl (by kernel_rfl) hF (fun w2 hx => v_move rfl) rfl hSS ?_; clear hF a; intro a hF
  refine b_v (i := 2) rfl (by kernel_rfl) hF (fun w2 hx => v_load sc3 rfl hx.2) rfl hSS ?_; clear hF a; intro a hF
  refine b_e (i := 3) (by kernel_rfl) rfl ?_
  refine s_mk (D := FDx) (B := B) (m := sz) hF sl23 rfl rfl (by simp) (by omega) (by simp only [maxLen]; omega) (by decide) hS.inv rfl ?_; clear hF a; intro w' a hm hI' hR0 hF
  replace hx := hx.mb hm (fun _ h => by cases h)
  replace hbx := hbx.mb hm (by simp)
  replace hb6 := hb6.mb hm (by simp)
  replace hb8 := hb8.mb hm (by simp)
  replace hO := hO.mb hm (fun _ _ => by simp)
  replace hW := hW.mb0 hm
  replace hMk := hMk.mb hm (fun k e => by cases e)
  replace hS := hS.mb0 hm
  clear hm hI'
  clear hSS
  have hSS := And.intro hb8.at hb6.at
  refine WL_nil ⟨hSS, ?_⟩
  refine b_v (i := 4) rfl (by kernel_rfl) hF (fun w2 hx => v_ixS sl48 rfl rfl (by omega) (by omega)) rfl hSS ?_; clear hF a; intro a hF
  refine b_e (i := 5) (by kernel_rfl) rfl ?_
  refine s_set (D := FDx) (B := B) hF on23 rfl (by rw [toNat_c]; simp; omega) rfl rfl hO (by decide) hS.inv ?_; intro w' hm hI' ho'
  replace hx := hx.mb hm (fun k h => Nat.le_trans (by omega) (hO.lt k h).1)
  replace hbx := hbx.mb hm (Blk.ne_own hbx hO (by decide))
  replace hb6 := hb6.mb hm (hb6.ne_own hO (by decide))
  replace hb8 := hb8.mb hm (hb8.ne_own hO (by decide))
  replace hW := hW.mbo hm hO (by decide)
  replace hMk := hMk.mb hm hO.isrow
  replace hR0 := hR0.mb hm (hR0.ne_type hO (by decide))
  replace hS := hS.mb hm (fun k h => Nat.le_trans (Nat.le_refl _) (hO.lt k h).1)
  replace hO := ho'
  clear hm hI' ho'
  rw [toNat_c, Nat.zero_add, vls_fill hlt] at hO
  replace hW := hW.snoc ((hR0.le (show w.heap.size ≤ _ from hS0)).cast (by simp [byt])) (Nat.le_refl _)
  clear hR0
  clear hSS
  have hSS := And.intro hb8.at hb6.at
  refine WL_nil ⟨hSS, ?_⟩
  refine b_done (by kernel_rfl) (hK _ _ ?_)
  clear hK K
  replace hF := hF.sub _ (c_ 1 rfl (c_ 2 rfl (c_ 6 rfl (c_ 8 rfl (c_ 28 rfl (c_ 29 rfl n_))))))
  refine W_reg rfl fun K hK => ?_
  refine sv2w hK hF (v_addI rfl rfl (by omega)) (v_move rfl) rfl rfl ?_; clear hF a hK K; intro a hF
  exact ⟨q - 1, by omega, i + 1, _, _, hF.sub _ (c_ 1 rfl (c_ 2 rfl (c_ 6 rfl (c_ 8 rfl (c_ 28 rfl (c_ 29 rfl n_)))))), hS, hx, hbx, hb6, hb8, hO, hW, hMk, by omega, by omega⟩
 skip
 try simp only [dcl] at hc1
 have hKs : w1.heap.size ≤ w1.heap.size := Nat.le_refl _
 obtain rfl : k = i := by omega
 rw [Nat.sub_self, List.replicate_zero, List.append_nil] at hO
 refine W_exit rfl ?_
 refine W_sr rfl fun K hK => ?_
 refine sv hF (v_loadN Tryz.underlying30 rfl (by kernel_rfl) rfl hbx) rfl ?_; clear hF a; intro a hF
 refine sc hF rfl rfl rfl en63 rfl (rule_ok B p k m (unitN p) (aheadN p) _ hS.inv hB hp hk hm rfl rfl) ?_; clear hF a; intro v w' a hv hF
 obtain ⟨rfl, hS'⟩ := hv
 replace hx := hx.st hS'
 replace hbx := hbx.st (by decide) hS'
 replace hb6 := hb6.st hS'
 replace hb8 := hb8.st hS'
 replace hO := hO.st (by decide) hS'
 replace hW := hW.st (by decide) hS'
 replace hMk := hMk.st hS'
 replace hKs := Nat.le_trans hKs hS'.ext.size
 replace hS := hS.trans hS'
 clear hS'
 refine sv5w hK hF (v_move rfl) (v_ext rfl rfl) (v_ext rfl rfl) (v_assign rfl) (v_assign rfl) rfl rfl rfl rfl rfl ?_; clear hF a hK K; intro a hF
 replace hF := hF.sub _ (c_ 11 rfl (c_ 42 rfl (c_ 41 rfl (c_ 38 rfl (c_ 40 rfl (c_ 39 rfl (c_ 1 rfl (c_ 2 rfl (c_ 6 rfl (c_ 8 rfl (c_ 28 rfl (c_ 29 rfl n_))))))))))))
 refine W_seq ?_
 refine W_sr rfl fun K hK => ?_
 refine sv2 hF (v_move rfl) (v_move rfl) rfl rfl ?_; clear hF a; intro a hF
 refine sc hF rfl rfl rfl en132 rfl (laid_ok B (aheadN p) px cx bs _ hS.inv) ?_; clear hF a; intro v w' a hv hF
 obtain ⟨pb, pa, rfl, hpb, hpa, hkb, hka, hS'⟩ := hv
 replace hx := hx.st hS'
 replace hbx := hbx.st (by decide) hS'
 replace hb6 := hb6.st hS'
 replace hb8 := hb8.st hS'
 replace hO := hO.st (by decide) hS'
 replace hW := hW.st (by decide) hS'
 replace hMk := hMk.st hS'
 replace hKs := Nat.le_trans hKs hS'.ext.size
 replace hS := hS.trans hS'
 clear hS'
 refine wn hK ?_
 clear hK K
 obtain ⟨nz, hnz⟩ : ∃ n, n = w'.heap.size := ⟨_, rfl⟩
 have hsw : w.heap.size ≤ w'.heap.size := hS.ext.size
 replace hW := hW.up (show _ ≤ nz by rw [hnz]; exact hKs)
 have hzM : ∀ q, q < M → ¬ (fun q => (∃ i, i < k ∧ q = bsf i) ∨ q = nz + 1) q := by
  rintro q h (⟨i, hi, rfl⟩ | h2)
  · have := (hW.ge hi).1; omega
  omega
 have hZw : ∀ q, (fun q => (∃ i, i < k ∧ q = bsf i) ∨ q = nz + 1) q → q ≤ w'.heap.size + 1 := by
  rintro q (⟨i, hi, rfl⟩ | h2)
  · have := (hW.ge hi).2; omega
  omega
 refine W_block ?_
 refine W_rf2 (D := FDx) (B := B) (fun t A => Box FDx B g6 A g6 3 (.int .i64 (sz : Int)) ∧ Box FDx B g8 A g8 48 (.slice (some ⟨go, 0, none⟩) k k) ∧ Gam.Own FDx B w.heap.size A 23 (.slice (some ⟨go, 0, none⟩) k k) (some go) (vls k sz bsf rc) ∧ Wb FDx B w.heap.size nz A 5 k sz bsf rc (rowT (laidL (aheadN p) bs) sz t) ∧ St FDx B w A ∧ Mk w.heap.size [] A) (fun _ => False) (fun v u a2 _ => Fr ⟨60, []⟩ [(6, .pointer (some ⟨g6, 0, none⟩)), (8, .pointer (some ⟨g8, 0, none⟩)), (12, v), (13, u)] a2) hF rfl rfl rfl (ent Tryz.func202 (by kernel_rfl) (by kernel_rfl)) hS.inv (laid_seq B M pb pa (aheadN p) bs.length px cx bs (fun q => (∃ i, i < k ∧ q = bsf i) ∨ q = nz + 1) _ hkb hka rfl hx hzM (by omega) hZw hl hah) (.inr (by rw [hnz])) ?_ ?_ ?_ ?_ (⟨hb6, hb8, hO, hW.congr (fun i _ => (rowT_zero _ _ _).symm), hS, hMk⟩) ?_ ?_ ?_ ?_
 · rintro t A C ⟨h1, h2, h3, h4, h5, h6⟩ hX
   exact ⟨h1.xt hX, h2.xt hX, h3.xt (by decide) hX, h4.xt (by decide) hX, h5.thenX hX hsw, h6.xt hX (fun d hd => by cases hd)⟩
 · exact fun _ _ h _ => h
 · exact fun _ _ _ _ _ h _ => h
 · exact fun x v u A C h _ => h
 ·
  skip
  clear hF hS
  rintro l i x v u A a hx9 hJ hIA he hF
  have hS := St.refl hIA
  refine Rd.W_sr rfl rfl (fun K hK => ?_)
  refine svw hK hF (v_assign rfl) rfl ?_; clear hF a hK K; intro a hF
  replace hF := hF.sub _ (c_ 12 rfl (c_ 47 rfl (c_ 6 rfl (c_ 8 rfl n_))))
  refine Rd.W_reg rfl rfl (fun K hK => ?_)
  refine svw hK hF (v_assign rfl) rfl ?_; clear hF a hK K; intro a hF
  replace hF := hF.sub _ (c_ 13 rfl (c_ 12 rfl (c_ 6 rfl (c_ 8 rfl n_))))
  exact ⟨hS, hF.sub _ (c_ 6 rfl (c_ 8 rfl (c_ 12 rfl (c_ 13 rfl n_))))⟩
 ·
  skip
  clear hF hS hMk hb6 hb8 hO hW
  rintro l t x v u A a hx9 ⟨hb6, hb8, hO, hW, hSw, hMk⟩ hz0 ⟨rfl, rfl⟩ hF
  obtain ⟨x1, c⟩ := x
  obtain ⟨hx1, hlt, hc⟩ := prs_get hx9
  obtain rfl : t = x1 := hx1.symm
  have hS : StZ FDx B (fun q => (∃ i, i < k ∧ q = bsf i) ∨ q = nz + 1) A A := StZ.refl hSw.inv
  obtain ⟨i, hie⟩ : ∃ i, i = t / sz := ⟨_, rfl⟩
  obtain ⟨j, hje⟩ : ∃ j, j = t % sz := ⟨_, rfl⟩
  have hi : i < k := by rw [hie]; exact Nat.div_lt_of_lt_mul (by rw [Nat.mul_comm]; omega)
  have hj : j < sz := by rw [hje]; exact Nat.mod_lt _ (by omega)
  have hij : t = i * sz + j := by rw [hie, hje, Nat.mul_comm]; exact (Nat.div_add_mod t sz).symm
  refine Rd.W_block ?_
  refine Rd.W_dS (fun w2 => w2.cell? ⟨g8, 0, none⟩ = some (.slice (some ⟨go, 0, none⟩) k k) ∧ w2.cell? ⟨g6, 0, none⟩ = some (.int .i64 (sz : Int)) ∧ w2.cell? ⟨go, 0 + i, none⟩ = some (.slice (some ⟨bsf i, 0, none⟩) sz (rc i))) (m := 12) rfl hmix rfl (fun K hK => ?_)
  have hS' := St.drew hS.inv
  replace hb6 := hb6.st hS'
  replace hb8 := hb8.st hS'
  replace hO := hO.st (by decide) hS'
  replace hW := hW.st (by decide) hS'
  replace hSw := hSw.trans hS'
  replace hMk := hMk.st hS'
  replace hS := hS.trans hS'
  clear hS'
  have hSS := And.intro hb8.at (And.intro hb6.at (hO.kc (by decide) (vls_at hi)).c)
  refine b_v (i := 0) rfl (by kernel_rfl) hF (fun w2 hx => v_load sc48 rfl hx.1) rfl hSS ?_; clear hF a; intro a hF
  refine b_v (i := 1) rfl (by kernel_rfl) hF (fun w2 hx => v_move rfl) rfl hSS ?_; clear hF a; intro a hF
  refine b_v (i := 2) rfl (by kernel_rfl) hF (fun w2 hx => v_load sc3 rfl hx.2.1) rfl hSS ?_; clear hF a; intro a hF
  refine b_v (i := 3) rfl (by kernel_rfl) hF (fun w2 hx => (v_quoN (m := t) (n := sz) rfl rfl (by omega) (fits_i64 (by omega))).as (show Value.int .i64 ((t / sz : Nat) : Int) = .int .i64 (i : Int) by rw [hie])) rfl hSS ?_; clear hF a; intro a hF
  refine b_v (i := 4) rfl (by kernel_rfl) hF (fun w2 hx => v_ixS sl48 rfl rfl (by omega) (by omega)) rfl hSS ?_; clear hF a; intro a hF
  refine b_v (i := 5) rfl (by kernel_rfl) hF (fun w2 hx => v_load sc23 rfl (by rw [toNat_c]; exact hx.2.2)) rfl hSS ?_; clear hF a; intro a hF
  refine b_v (i := 6) rfl (by kernel_rfl) hF (fun w2 hx => v_move rfl) rfl hSS ?_; clear hF a; intro a hF
  refine b_v (i := 7) rfl (by kernel_rfl) hF (fun w2 hx => v_load sc3 rfl hx.2.1) rfl hSS ?_; clear hF a; intro a hF
  refine b_v (i := 8) rfl (by kernel_rfl) hF (fun w2 hx => (v_remI rfl rfl (by omega) (by omega)).as (show Value.int .i64 ((t : Int) % (sz : Int)) = .int .i64 (j : Int) by rw [hje]; simp)) rfl hSS ?_; clear hF a; intro a hF
  refine b_v (i := 9) rfl (by kernel_rfl) hF (fun w2 hx => v_move rfl) rfl hSS ?_; clear hF a; intro a hF
  refine b_v (i := 10) rfl (by kernel_rfl) hF (fun w2 hx => v_ixS sl23 rfl rfl (by omega) (by omega)) rfl hSS ?_; clear hF a; intro a hF
  refine b_e (i := 11) (by kernel_rfl) rfl ?_
  have hRi := hW.row i hi
  refine s_set (D := FDx) (B := B) hF on5 rfl (by rw [toNat_c]; simp; exact hj) rfl rfl hRi (by decide) hS.inv ?_; intro w' hm hI' ho'
  rw [toNat_c, Nat.zero_add, byt_set, rowT_set hj hij hc] at ho'
  replace hb6 := hb6.mb hm (hb6.ne_own hRi (by decide))
  replace hb8 := hb8.mb hm (hb8.ne_own hRi (by decide))
  replace hO := hO.mb hm (hO.ne_type hRi (by decide))
  replace hSw := hSw.mb hm (fun q h => by cases h; exact (hW.ge hi).1)
  replace hMk := hMk.mb hm hRi.isrow
  replace hS := hS.mb hm (fun q h => ⟨by cases h; exact .inl ⟨i, hi, rfl⟩, hRi.isrow q h⟩)
  replace hW := hW.set hi hm ho' (fun a _ ha => rowT_ne hj hij ha)
  clear hm hI' ho' hRi hSS
  have hSS := And.intro hb8.at (And.intro hb6.at (hO.kc (by decide) (vls_at hi)).c)
  refine WL_nil ⟨hSS, ?_⟩
  refine b_done (by kernel_rfl) (hK _ _ ?_)
  clear hK K
  replace hF := hF.sub _ n_
  exact ⟨⟨hb6, hb8, hO, hW, hSw, hMk⟩, hS⟩
 ·
  skip
  clear hF hS hb6 hb8 hO hW
  rintro a W hF hD ⟨hb6, hb8, hO, hW, hS, hMk2⟩ hz0
  replace hMk := Mk.cons (D := FDx) (B := B) hMk (Nat.le_refl _) hsw hMk2 hD
  clear hMk2 hD
  rw [prs_len] at hW
  refine W_sr rfl fun K hK => ?_
  refine sv3w hK hF (v_load sc48 rfl hb8.at) (v_assign rfl) (v_assign rfl) rfl rfl rfl ?_; clear hF a hK K; intro a hF
  refine W_ret ?_
  refine ⟨_, _, _, _, hMk, hS.inv, hF, rfl, rfl, fun w2 hX => ?_⟩
  exact ⟨_, some go, _, rfl, hO.xt (by decide) hX, by unfold dataL; rw [← hsze]; exact (hW.xt (by decide) hX).owns2, hS.thenX hX (Nat.le_refl _)⟩
 intro a1 w1 hF hD hj; exact hj.elim
end Go.Proofs.YtoabojbpeafdkaaGreatDoor
