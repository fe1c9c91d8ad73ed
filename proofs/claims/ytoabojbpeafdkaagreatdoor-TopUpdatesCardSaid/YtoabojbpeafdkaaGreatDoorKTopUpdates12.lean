/- Texts of the claim TopUpdates (part 12), put together in the order of their imports. -/
import Derived.Test.YtoabojbpeafdkaaGreatDoorKTopUpdates4
import Derived.Test.YtoabojbpeafdkaaGreatDoorKTopUpdates5
import Derived.Test.YtoabojbpeafdkaaGreatDoorKTopUpdates9
import Derived.Test.YtoabojbpeafdkaaGreatDoorKTopUpdates11
set_option linter.all false
set_option maxRecDepth 100000
set_option maxHeartbeats 1000000
/- A field's functions answer as the interpreter says. -/
namespace Go.Proofs.YtoabojbpeafdkaaGreatDoor
open Go Go.Gam Go.Iv
theorem en128 : Ent Tryz.prog 128 := ent Tryz.func128 (by kernel_rfl) (by kernel_rfl)
theorem en141 : Ent Tryz.prog 141 := ent Tryz.func141 (by kernel_rfl) (by kernel_rfl)
theorem en213 : Ent Tryz.prog 213 := ent Tryz.func213 (by kernel_rfl) (by kernel_rfl)
theorem en205 : Ent Tryz.prog 205 := ent Tryz.func205 (by kernel_rfl) (by kernel_rfl)
theorem en216 : Ent Tryz.prog 216 := ent Tryz.func216 (by kernel_rfl) (by kernel_rfl)
variable {W : World} {B : Nat}
theorem oNew_ok : CallAt (some (W, some B)) Tryz.prog 128 oNew := by
 intro args h a h' hq e w vs hv hH
 unfold oNew at hq
 split at hq
 ·
  rename_i wb p
  cases hf : fok? wb p with
  | false => rw [hf] at hq; cases hq
  | true =>
   rw [hf] at hq
   obtain ⟨rfl, rfl⟩ := Prod.mk.inj (Option.some.inj hq)
   have hp := fok_prm hf
   have hsz := hp.size
   have hw := hp.w
   obtain ⟨V1, r1, rfl, h1, V2, r2, rfl, h2, h3⟩ := hv
   obtain rfl : V1 = .int .i64 (wb : Int) := h1
   obtain rfl : V2 = .int .u32 (p : Int) := h2
   obtain rfl : r2 = [] := h3
   have hpl : p < 4294967296 := by
    unfold fok? at hf
    simp only [Bool.or_eq_true, Bool.and_eq_true] at hf
    rcases hf with ⟨-, h2⟩ | ⟨-, h2⟩ <;> (rw [Nat.eq_of_beq_eq_true h2]; decide)
   refine .inl ⟨en128, (New_ok B (wb : Int) p w ((hH.st _ rfl).st B rfl).inv (by omega) hpl).mono fun v w' ⟨h1, h2⟩ => ?_⟩
   rw [newF_p hp] at h1
   obtain ⟨-, k, rfl, hk⟩ := h1
   obtain ⟨g1, g2⟩ := hw_fld (hH.later h2) hk
   exact ⟨_, g1, ⟨k, 7, ext_at _ _ _, rfl⟩, g2⟩
 cases hq
theorem oGMul_ok : CallAt (some (W, some B)) Tryz.prog 141 oGMul := by
 intro args h a h' hq e w vs hv hH
 unfold oGMul at hq
 split at hq
 ·
  rename_i b x y
  split at hq
  ·
   rename_i wb p hg
   split at hq
   ·
    rename_i xn hx
    split at hq
    ·
     rename_i yn hy
     obtain ⟨rfl, rfl⟩ := Prod.mk.inj (Option.some.inj hq)
     obtain ⟨rfl, hxl⟩ := inN_lt hx
     obtain ⟨rfl, hyl⟩ := inN_lt hy
     obtain ⟨V1, r1, rfl, h1, V2, r2, rfl, h2, V3, r3, rfl, h3, h4⟩ := hv
     obtain rfl : V2 = .int .i64 (xn : Int) := h2
     obtain rfl : V3 = .int .i64 (yn : Int) := h3
     obtain rfl : r3 = [] := h4
     obtain ⟨hI, hf⟩ := fo_of hH hg h1
     have hsz := hf.1.size
     have hlt : 2 ^ wb ≤ 65536 := hsz.2
     refine .inl ⟨en141, (Mul_gf B _ V1 (xn : Int) (yn : Int) w hI hf).mono fun v w' ⟨h1, h2⟩ => ⟨e, Gr.refl e h, ?_, hH.later h2⟩⟩
     rw [h1, gmul_in hxl hyl, ← mulF_eq (show yn < 131072 by omega)]
     rfl
    cases hq
   cases hq
  cases hq
 cases hq
theorem oGPow_ok : CallAt (some (W, some B)) Tryz.prog 213 oGPow := by
 intro args h a h' hq e w vs hv hH
 unfold oGPow at hq
 split at hq
 ·
  rename_i b x n
  split at hq
  ·
   rename_i wb p hg
   split at hq
   ·
    rename_i xn hx
    cases hn : Nat.blt n 1000000 with
    | false => rw [hn] at hq; cases hq
    | true =>
     rw [hn] at hq
     obtain ⟨rfl, rfl⟩ := Prod.mk.inj (Option.some.inj hq)
     have hn2 : n < 1000000 := by simpa [Nat.blt_eq] using hn
     obtain ⟨rfl, hxl⟩ := inN_lt hx
     obtain ⟨V1, r1, rfl, h1, V2, r2, rfl, h2, V3, r3, rfl, h3, h4⟩ := hv
     obtain rfl : V2 = .int .i64 (xn : Int) := h2
     obtain rfl : V3 = .int .i64 (n : Int) := h3
     obtain rfl : r3 = [] := h4
     obtain ⟨hI, hf⟩ := fo_of hH hg h1
     refine .inl ⟨en213, (Pow_gf B _ V1 (xn : Int) (n : Int) w hI hf (by omega)).mono fun v w' ⟨h1, h2⟩ => ⟨e, Gr.refl e h, ?_, hH.later h2⟩⟩
     rw [h1, gpow_in hxl, ← powF_eq hf.1 hxl 20 n (by omega)]
     rfl
   cases hq
  cases hq
 cases hq
theorem oGInv_ok : CallAt (some (W, some B)) Tryz.prog 205 oGInv := by
 intro args h a h' hq e w vs hv hH
 unfold oGInv at hq
 split at hq
 ·
  rename_i b x
  split at hq
  ·
   rename_i wb p hg
   split at hq
   ·
    rename_i xn hx
    cases h0 : Nat.beq xn 0 with
    | true => rw [h0] at hq; cases hq
    | false =>
     rw [h0] at hq
     obtain ⟨rfl, rfl⟩ := Prod.mk.inj (Option.some.inj hq)
     have hx0 : xn ≠ 0 := fun e => by rw [e] at h0; cases h0
     obtain ⟨rfl, hxl⟩ := inN_lt hx
     obtain ⟨V1, r1, rfl, h1, V2, r2, rfl, h2, h4⟩ := hv
     obtain rfl : V2 = .int .i64 (xn : Int) := h2
     obtain rfl : r2 = [] := h4
     obtain ⟨hI, hf⟩ := fo_of hH hg h1
     have hsz := hf.1.size
     have hlt : 2 ^ wb ≤ 65536 := hsz.2
     refine .inl ⟨en205, (Inv_gf B _ V1 (xn : Int) w hI hf).mono fun v w' ⟨h1, h2⟩ => ⟨e, Gr.refl e h, ?_, hH.later h2⟩⟩
     rw [h1, ginv_nat hf.1 hxl hx0, ← powF_eq hf.1 hxl 20 (2 ^ wb - 2) (by omega)]
     have hb : ginvb (some (wb, p)) (xn : Int) = true := by
      unfold ginvb
      rw [inF_of hxl]
      simp; omega
     rw [hb]
     exact ⟨_, rfl, VRL.cons rfl (VRL.cons rfl VRL.nil)⟩
   cases hq
  cases hq
 cases hq
theorem oGSize_ok : CallAt (some (W, some B)) Tryz.prog 216 oGSize := by
 intro args h a h' hq e w vs hv hH
 unfold oGSize at hq
 split at hq
 ·
  rename_i b
  split at hq
  ·
   rename_i wb p hg
   obtain ⟨rfl, rfl⟩ := Prod.mk.inj (Option.some.inj hq)
   obtain ⟨V1, r1, rfl, h1, h4⟩ := hv
   obtain rfl : r1 = [] := h4
   obtain ⟨hI, hf⟩ := fo_of hH hg h1
   exact .inl ⟨en216, (Size_ok B _ V1 w hf).mono fun v w' ⟨h1, h2⟩ => ⟨e, Gr.refl e h, h1, by rw [h2]; exact hH⟩⟩
  cases hq
 cases hq
end Go.Proofs.YtoabojbpeafdkaaGreatDoor
/- A call, reckoned at names of its own. No program in sight. -/
namespace Go.Iv
open Go Go.Gam
variable {W0 : Option Asked}
mutual
def ren (ρ : Nat → Nat) : AV → AV
 | .bool b => .bool b
 | .int k n => .int k n
 | .cap b o z m => .cap (ρ b) o z m
 | .str l => .str l
 | .nilp => .nilp
 | .ptr b o => .ptr (ρ b) o
 | .nils => .nils
 | .sl b o n c z => .sl (ρ b) o n c z
 | .nilm => .nilm
 | .mp b => .mp (ρ b)
 | .nilf => .nilf
 | .fn f a c => .fn f (rens ρ a) (rens ρ c)
 | .nili => .nili
 | .emp => .emp
 | .agg l => .agg (rens ρ l)
 | .tup l => .tup (rens ρ l)
def rens (ρ : Nat → Nat) : List AV → List AV
 | [] => []
 | a :: l => ren ρ a :: rens ρ l
end
section
variable {e : Env} {ρ : Nat → Nat}
mutual
theorem VR.ren : ∀ (a : AV) (v : Value), VR e (Iv.ren ρ a) v → VR (fun b => e (ρ b)) a v
 | .bool b, v, h => h
 | .int k n, v, h => h
 | .cap b o z m, v, h => h
 | .str l, v, h => h
 | .nilp, v, h => h
 | .ptr b o, v, h => h
 | .nils, v, h => h
 | .sl b o n c z, v, h => h
 | .nilm, v, h => h
 | .mp b, v, h => h
 | .nilf, v, h => h
 | .fn f a c, v, ⟨vs, ws, h1, h2, h3⟩ => ⟨vs, ws, h1, VRL.ren a vs h2, VRL.ren c ws h3⟩
 | .nili, v, h => h
 | .emp, v, h => h
 | .agg l, v, ⟨cs, h1, h2⟩ => ⟨cs, h1, VRL.ren l cs h2⟩
 | .tup l, v, ⟨cs, h1, h2⟩ => ⟨cs, h1, VRL.ren l cs h2⟩
theorem VRL.ren : ∀ (l : List AV) (vs : List Value), VRL e (rens ρ l) vs → VRL (fun b => e (ρ b)) l vs
 | [], vs, h => h
 | a :: l, vs, ⟨v, r, h1, h2, h3⟩ => ⟨v, r, h1, VR.ren a v h2, VRL.ren l r h3⟩
end
end
def look (b : Nat) : List (Nat × Nat) → Option Nat
 | [] => none
 | (c, d) :: l => bif Nat.beq c b then some d else look b l
def rho (l : List (Nat × Nat)) (N nx : Nat) : Nat → Nat := fun b => bif Nat.blt b 9 then b else bif Nat.blt b N then (match look b l with | some c => c | none => nx) else nx
def unis : List AV → List AV → List (Nat × Nat) → List (Nat × Nat)
 | .sl b _ _ _ _ :: l, .sl c _ _ _ _ :: r, q => unis l r ((b, c) :: q)
 | .ptr b _ :: l, .ptr c _ :: r, q => unis l r ((b, c) :: q)
 | _ :: l, _ :: r, q => unis l r q
 | _, _, q => q
def uniH (h : AH) : List (Nat × AO) → List (Nat × Nat) → List (Nat × Nat)
 | [], q => q
 | (b, .row l _) :: H, q => (match look b q with
  | some c => (match h.at c with | some (.row r _) => uniH h H (unis l r q) | _ => q)
  | none => q)
 | _ :: H, q => uniH h H q
def fit (ρ : Nat → Nat) : AO → Option AO → Bool
 | .row l true, some (.row q _) => (match tk (ln l) q with | some q => beqs q (rens ρ l) | none => false)
 | .fld a b, some (.fld c d) => Nat.beq a c && Nat.beq b d
 | _, _ => false
def fits (h : AH) (ρ : Nat → Nat) : List (Nat × AO) → Bool
 | [] => true
 | (b, o) :: H => fit ρ o (h.at (ρ b)) && fits h ρ H
theorem fit_ok {ρ : Nat → Nat} : ∀ {o : AO} {x : Option AO}, fit ρ o x = true → (∃ l q ro, o = .row l true ∧ x = some (.row q ro) ∧ l.length ≤ q.length ∧ q.take l.length = rens ρ l) ∨ ∃ wb p, o = .fld wb p ∧ x = some (.fld wb p)
 | .row l true, some (.row q ro), h => by
  simp only [fit] at h
  split at h
  ·
   rename_i q' hq'
   obtain ⟨h2, rfl⟩ := tk_eq _ _ _ hq'
   rw [ln_eq] at h2 h
   exact .inl ⟨l, q, ro, rfl, rfl, h2, beqs_eq _ _ h⟩
  cases h
 | .fld a b, some (.fld c d), h => by
  simp only [fit, Bool.and_eq_true] at h
  rw [← Nat.eq_of_beq_eq_true h.1, ← Nat.eq_of_beq_eq_true h.2]
  exact .inr ⟨a, b, rfl, rfl⟩
 | .row _ false, _, h => by cases h
 | .row _ true, none, h => by cases h
 | .row _ true, some (.fld _ _), h => by cases h
 | .row _ true, some (.mp _), h => by cases h
 | .fld _ _, none, h => by cases h
 | .fld _ _, some (.row _ _), h => by cases h
 | .fld _ _, some (.mp _), h => by cases h
 | .mp _, _, h => by cases h
theorem fits_at {h : AH} {ρ : Nat → Nat} : ∀ {H : List (Nat × AO)}, fits h ρ H = true → ∀ b o, (b, o) ∈ H → (∃ l q ro, o = .row l true ∧ h.at (ρ b) = some (.row q ro) ∧ l.length ≤ q.length ∧ q.take l.length = rens ρ l) ∨ ∃ wb p, o = .fld wb p ∧ h.at (ρ b) = some (.fld wb p)
 | [], _, b, o, hm => by cases hm
 | (c, d) :: H, hs, b, o, hm => by
  simp only [fits, Bool.and_eq_true] at hs
  rcases List.mem_cons.1 hm with hm | hm
  · obtain ⟨rfl, rfl⟩ := Prod.mk.inj hm
    exact fit_ok hs.1
  exact fits_at hs.2 b o hm
theorem blt_no {a b : Nat} (h : ¬ a < b) : Nat.blt a b = false := by
 cases hb : Nat.blt a b with
 | false => rfl
 | true => exact absurd (by simpa [Nat.blt_eq] using hb) h
theorem hw_canon {e : Env} {h : AH} {w : World} (hH : HW W0 e h w) {q : List (Nat × Nat)} {N B : Nat} {H : List (Nat × AO)} (hf : fits h (rho q N h.nx) H = true) (hN : 10 ≤ N) (hI : Inv FDi B w)
  (hp : ∀ b o, (b, o) ∈ H → ∀ r s, e (rho q N h.nx b) = some (r, s) → PVs w B w r o) : HW (some (w, some B)) (fun b => e (rho q N h.nx b)) (ofL H N) w := by
 have hin : ∀ b o, (ofL H N).at b = some o → (b, o) ∈ H := fun b o hb => by
  rcases lay0_at (show get 20 b (lay0 H .leaf) = some o from hb) with hm | hm
  · exact hm
  rw [get_leaf] at hm; cases hm
 have hro : ∀ b o, (b, o) ∈ H → isRo o = true := fun b o hm => by
  rcases fits_at hf b o hm with ⟨l, q, ro, rfl, -⟩ | ⟨wb, p, rfl, -⟩ <;> rfl
 have hlow : ∀ g, g < 9 → rho q N h.nx g = g := fun g hg => by
  unfold rho
  rw [show Nat.blt g 9 = true by simpa [Nat.blt_eq] using hg]
  rfl
 refine ⟨⟨fun b o hb r s he => ?_, fun b b' o o' r s s' k1 k2 _ _ _ => ⟨hro b o (hin b o k1), hro b' o' (hin b' o' k2)⟩, fun b r s he => hH.bnd _ r s he, fun g hg => ?_⟩, fun b x hx => ?_, fun W hW => ?_, fun W hW b o hb r s he => ?_⟩
 ·
  rcases fits_at hf b o (hin b o hb) with ⟨l, q', ro, rfl, h1, h2, h3⟩ | ⟨wb, p, rfl, h1⟩
  ·
   obtain ⟨c, t, fz, o1, o2, o3, o4, o5⟩ := hH.obj _ _ h1 r s he
   refine ⟨c, t, fz, o1, o2, by omega, VRL.ren _ _ ?_, fun h => by cases h⟩
   have := VRL.take l.length o4
   rwa [h3, List.take_take, Nat.min_eq_left h2] at this
  exact hH.obj _ _ h1 r s he
 · obtain ⟨s, hs⟩ := hH.gl g hg
   exact ⟨s, by rw [hlow g hg]; exact hs⟩
 ·
  show b < N
  by_cases hb : b < 9
  · omega
  refine Classical.byContradiction fun hbN => ?_
  have : rho q N h.nx b = h.nx := by
   unfold rho
   rw [blt_no hb, blt_no hbN]
   rfl
  simp only [this, fresh hH] at hx
  cases hx
 · obtain rfl := Option.some.inj hW
   exact ⟨fun B' h => by cases h; exact hI.1, fun B' h => by cases h; exact St.refl hI, fun h => by cases h⟩
 obtain rfl := Option.some.inj hW
 have hm := hin b o hb
 exact ⟨fun B' hB' => by cases hB'; exact hp b o hm r s he, fun h => by rw [hro b o hm] at h; cases h⟩
theorem new_row {w w' : World} {B : Nat} {e : Env} {h : AH} {c n : Nat} {l : List AV} {v : Value} (hH : HW (some (w, some B)) e h w') (hc : h.at c = some (.row l false)) (hn : n = l.length) (hv : VR e (.sl c 0 n none 1) v) :
  ∃ (g : Nat) (cur : Array Value) (t : TypeId), e c = some (g, cur.size) ∧ v = .slice (some ⟨g, 0, none⟩) n cur.size ∧ w.heap.size ≤ g ∧ w'.heap[g]? = some (.cells cur t (0, 0)) ∧ n ≤ cur.size ∧ cur.size ≤ maxLen ∧ VRL e l (cur.toList.take n) := by
 obtain ⟨r, s, he, h1, h2, rfl⟩ := hv
 obtain ⟨cur, t, fz, o1, o2, o3, o4, o5⟩ := hH.obj c _ hc r s he
 obtain rfl := o5 rfl
 rw [Nat.sub_zero, Nat.div_one] at h2 ⊢
 subst o2
 exact ⟨r, cur, t, he, rfl, (hH.prv _ rfl c _ hc r _ he).2 rfl, o1, by omega, h2, by rw [hn]; exact o4⟩
end Go.Iv
/- A matrix that a reckoning has made, as walks know matrices. No program in sight. -/
namespace Go.Iv
open Go Go.Gam
def intsN : Nat → List AV → Option (List Nat)
 | 0, _ => some []
 | n + 1, .int .i64 (.ofNat a) :: l => (match intsN n l with | some r => some (a :: r) | none => none)
 | _, _ => none
def capd (n : Nat) : Option Nat → Bool
 | none => true
 | some c => Nat.ble n c
def matR (h : AH) (k : Nat) : List AV → Option (List (List Nat))
 | [] => some []
 | .sl c 0 n cp 1 :: l => bif Nat.beq n k && capd n cp then (match h.at c with | some (.row q _) => (match intsN k q with | some r => (match matR h k l with | some R => some (r :: R) | none => none) | none => none) | _ => none) else none
 | _ => none
def matS (h : AH) (k : Nat) : AV → Option (List (List Nat))
 | .sl b o n cp 1 => bif capd n cp then (match h.at b with | some (.row l _) => (match seg o n l with | some vs => matR h k vs | none => none) | _ => none) else none
 | _ => none
def matAt (h : AH) (m k : Nat) : AV → Option (List (List Nat))
 | .tup [v, .int .i64 (.ofNat 0)] => (match matS h k v with | some R => bif Nat.beq (ln R) m then some R else none | none => none)
 | _ => none
theorem tk_some {α : Type} : ∀ (n : Nat) (l : List α), n ≤ l.length → tk n l = some (l.take n)
 | 0, l, h => by simp [tk]
 | n + 1, [], h => by simp at h
 | n + 1, x :: l, h => by simp [tk, tk_some n l (by simpa using h)]
def mtx (R : List (List Nat)) : Mtx := R.map fun r => r.map Int.ofNat
theorem intsN_ok : ∀ {n : Nat} {q : List AV} {r : List Nat}, intsN n q = some r → r.length = n ∧ n ≤ q.length ∧ ∀ (i a : Nat), r[i]? = some a → q[i]? = some (.int .i64 (.ofNat a))
 | 0, q, r, h => by
  obtain rfl := Option.some.inj h
  exact ⟨rfl, Nat.zero_le _, fun i a hi => by simp at hi⟩
 | n + 1, q, r, h => by
  unfold intsN at h
  split at h
  · rename_i heq; cases heq
  ·
   rename_i n' a l heq
   obtain rfl : n = n' := Nat.succ.inj heq
   split at h
   ·
    rename_i r' hr
    obtain rfl := Option.some.inj h
    obtain ⟨h1, h2, h3⟩ := intsN_ok hr
    refine ⟨by simp [h1], by simpa using h2, fun i b hi => ?_⟩
    cases i with
    | zero =>
     obtain rfl : a = b := by simpa using hi
     rfl
    | succ i => simpa using h3 i b (by simpa using hi)
   cases h
  cases h
section
variable {w w' : World} {B : Nat} {e : Env} {h : AH} (hH : HW (some (w, some B)) e h w')
include hH
omit hH in
theorem row_of {W0 : Option Asked} (hH : HW W0 e h w') {b o n : Nat} {l q : List AV} {ro : Bool} {v : Value} (hb : h.at b = some (.row l ro)) (ht : ∀ r s, e b = some (r, s) → r < B ∨ notT FDi w' r) (hq : seg o n l = some q) {cp : Option Nat} (hcp : capd n cp = true) (hv : VR e (.sl b o n cp 1) v) :
  ∃ (g cap : Nat) (vals : List Value), v = .slice (some ⟨g, o, none⟩) n cap ∧ VRL e q vals ∧ vals.length = n ∧ Gam.Row FDi B w'.heap.size w' v vals := by
 obtain ⟨r, s, cap, he, rfl, hc', hc⟩ := sl_shape hv
 obtain ⟨cs, hcs, hcell, hls⟩ := row_cells hH.toHR hb he
 obtain ⟨h1, rfl⟩ := seg_eq hq
 have hlen : ((cs.drop o).take n).length = n := by have := hcs.length; simp; omega
 refine ⟨r, cap, (cs.drop o).take n, rfl, VRL.take _ (VRL.drop o hcs), hlen, .inr ⟨r, o, cap, by rw [hlen], ?_, hH.bnd _ r s he, ht r s he, hH.bnd _ r s he, fun i u hu => ?_⟩⟩
 ·
  rw [hlen]
  cases cp with
  | none => rw [(hc rfl).2.1, Nat.div_one]; omega
  | some c => rw [hc' c rfl]; exact Nat.le_of_ble_eq_true hcp
 rw [List.getElem?_take] at hu
 split at hu
 · rw [List.getElem?_drop] at hu
   exact hcell (o + i) u hu
 cases hu
theorem own_row {b o n : Nat} {l q : List AV} {ro : Bool} {v : Value} (hb : h.at b = some (.row l ro)) (hq : seg o n l = some q) {cp : Option Nat} (hcp : capd n cp = true) (hv : VR e (.sl b o n cp 1) v) :
  ∃ (g cap : Nat) (vals : List Value), v = .slice (some ⟨g, o, none⟩) n cap ∧ VRL e q vals ∧ Gam.Row FDi B w'.heap.size w' v vals :=
 let ⟨g, cap, vals, h1, h2, _, h3⟩ := row_of hH hb (fun r s he => ((hH.prv _ rfl b _ hb r s he).1 B rfl).1) hq hcp hv
 ⟨g, cap, vals, h1, h2, h3⟩
theorem ints_row {k : Nat} : ∀ {q : List AV} {r : List Nat} {vals : List Value}, intsN k q = some r → VRL e (q.take k) vals → vals = zints (r.map Int.ofNat) := by
 intro q r vals hr hv
 obtain ⟨h1, h2, h3⟩ := intsN_ok hr
 have hl := hv.length
 apply List.ext_getElem?
 intro i
 by_cases hi : i < k
 ·
  obtain ⟨a, ha⟩ : ∃ a, r[i]? = some a := ⟨_, List.getElem?_eq_getElem (by omega)⟩
  obtain ⟨u, hu, hu2⟩ := VRL.get hv (i := i) (a := .int .i64 (.ofNat a)) (by rw [List.getElem?_take, if_pos hi]; exact h3 i a ha)
  rw [hu, show u = _ from hu2]
  simp [zints, ha]
 rw [List.getElem?_eq_none (by rw [hl]; simp; omega), List.getElem?_eq_none (by simp [zints]; omega)]
theorem matR_ok {k : Nat} : ∀ {l : List AV} {R : List (List Nat)} {vals : List Value}, matR h k l = some R → VRL e l vals →
  vals.length = R.length ∧ (∀ r ∈ R, r.length = k) ∧ ∀ (j : Nat) (v : Value) (r : List Nat), vals[j]? = some v → R[j]? = some r → Gam.Row FDi B w'.heap.size w' v (zints (r.map Int.ofNat))
 | [], R, vals, hR, hv => by
  obtain rfl := Option.some.inj hR
  obtain rfl : vals = [] := hv
  exact ⟨rfl, (fun r hr => by cases hr), (fun j v r hj => by simp at hj)⟩
 | a :: l, R, vals, hR, hva => by
  obtain ⟨v, vs, rfl, hv, hvs⟩ := hva
  unfold matR at hR
  split at hR
  · rename_i heq; cases heq
  ·
   rename_i c n cp l' heq
   obtain ⟨rfl, rfl⟩ := List.cons.inj heq
   cases hb : (Nat.beq n k && capd n cp) with
   | false => rw [hb] at hR; cases hR
   | true =>
    rw [hb] at hR
    simp only [Bool.and_eq_true] at hb
    obtain rfl := Nat.eq_of_beq_eq_true hb.1
    simp only [cond_true] at hR
    split at hR
    ·
     rename_i q ro hc
     split at hR
     ·
      rename_i r hr
      split at hR
      ·
       rename_i R' hR'
       obtain rfl := Option.some.inj hR
       obtain ⟨i1, i2, i3⟩ := matR_ok hR' hvs
       obtain ⟨h1, h2, -⟩ := intsN_ok hr
       have hsg : seg 0 n q = some (q.take n) := by
        unfold seg
        rw [dr_eq, List.drop_zero]
        exact tk_some _ _ h2
       obtain ⟨g, cap, ws, -, k2, k3⟩ := own_row hH hc hsg hb.2 hv
       rw [ints_row hH hr k2] at k3
       refine ⟨by simp [i1], fun x hx => ?_, fun j u x hu hx => ?_⟩
       ·
        rcases List.mem_cons.1 hx with rfl | hx
        · exact h1
        exact i2 x hx
       cases j with
       | zero =>
        obtain rfl : v = u := by simpa using hu
        obtain rfl : r = x := by simpa using hx
        exact k3
       | succ j => exact i3 j u x (by simpa using hu) (by simpa using hx)
      cases hR
     cases hR
    cases hR
  cases hR
theorem matS_ok {k : Nat} {a : AV} {R : List (List Nat)} {v : Value} (hR : matS h k a = some R) (hv : VR e a v) :
  ∃ sa cap, v = .slice sa R.length cap ∧ Mat FDi B w'.heap.size w' sa cap (mtx R) ∧ ∀ r ∈ R, r.length = k := by
 unfold matS at hR
 split at hR
 ·
  rename_i b o n cp
  cases hb : capd n cp with
  | false => rw [hb] at hR; cases hR
  | true =>
   rw [hb] at hR
   simp only [cond_true] at hR
   split at hR
   ·
    rename_i l ro hl
    split at hR
    ·
     rename_i vs hvs
     obtain ⟨g, cap, vals, rfl, k2, k3⟩ := own_row hH hl hvs hb hv
     obtain ⟨i1, i2, i3⟩ := matR_ok hH hR k2
     have hvl : vals.length = n := by
      have h1 := seg_eq hvs
      rw [k2.length, h1.2]; simp; omega
     obtain rfl : n = R.length := by omega
     refine ⟨_, cap, rfl, ⟨vals, by simp [mtx, i1], by rw [show (mtx R).length = R.length by simp [mtx]]; exact k3, fun j v r hj hr => ?_⟩, i2⟩
     simp only [mtx, List.getElem?_map] at hr
     obtain ⟨r', hr', rfl⟩ := Option.map_eq_some_iff.1 hr
     exact i3 j v r' hj hr'
    cases hR
   cases hR
 cases hR
theorem mat_ok {m k : Nat} {a : AV} {R : List (List Nat)} {v : Value} (hR : matAt h m k a = some R) (hv : VR e a v) :
  ∃ sa cap, v = .tuple #[.slice sa m cap, .int .i64 0] ∧ Mat FDi B w'.heap.size w' sa cap (mtx R) ∧ R.length = m ∧ ∀ r ∈ R, r.length = k := by
 unfold matAt at hR
 split at hR
 ·
  rename_i u
  split at hR
  ·
   rename_i R' hR'
   cases hb : Nat.beq (ln R') m with
   | false => rw [hb] at hR; cases hR
   | true =>
    rw [hb] at hR
    obtain rfl := Option.some.inj hR
    obtain rfl := Nat.eq_of_beq_eq_true hb
    obtain ⟨cs, rfl, x, r, rfl, hu, u2, r2, rfl, hu2, hr2⟩ := hv
    obtain rfl : u2 = .int .i64 0 := hu2
    obtain rfl : r2 = [] := hr2
    obtain ⟨sa, cap, rfl, h1, h2⟩ := matS_ok hH hR' hu
    exact ⟨sa, cap, by rw [ln_eq], h1, (ln_eq _).symm, h2⟩
  cases hR
 cases hR
end
end Go.Iv
/- matrix.Mul as the interpreter's answer. -/
namespace Go.Iv
open Go Go.Gam
def dotF (p : Nat) : Nat → List Nat → List Nat → Nat
 | s, a :: l, b :: r => dotF p (Nat.xor s (mulF p a b)) l r
 | s, _, _ => s
def nthD (j : Nat) (r : List Nat) : Nat := match nth r j with | some x => x | none => 0
def colF (j : Nat) : List (List Nat) → List Nat
 | [] => []
 | r :: Y => nthD j r :: colF j Y
def rowF (p : Nat) (Y : List (List Nat)) (r : List Nat) : Nat → Nat → List Nat
 | 0, _ => []
 | n + 1, j => dotF p 0 r (colF j Y) :: rowF p Y r n (Nat.succ j)
def prodF (p k : Nat) (Y : List (List Nat)) : List (List Nat) → List (List Nat)
 | [] => []
 | r :: X => rowF p Y r k 0 :: prodF p k Y X
def allLt (n : Nat) : List Nat → Bool
 | [] => true
 | x :: l => Nat.blt x n && allLt n l
def allLts (n : Nat) : List (List Nat) → Bool
 | [] => true
 | r :: R => allLt n r && allLts n R
theorem allLt_at {n : Nat} : ∀ {l : List Nat}, allLt n l = true → ∀ x ∈ l, x < n
 | [], _, x, hx => by cases hx
 | y :: l, h, x, hx => by
  simp only [allLt, Bool.and_eq_true] at h
  rcases List.mem_cons.1 hx with rfl | hx
  · simpa [Nat.blt_eq] using h.1
  exact allLt_at h.2 x hx
theorem allLts_at {n : Nat} : ∀ {R : List (List Nat)}, allLts n R = true → ∀ r ∈ R, ∀ x ∈ r, x < n
 | [], _, r, hr => by cases hr
 | y :: R, h, r, hr => by
  simp only [allLts, Bool.and_eq_true] at h
  rcases List.mem_cons.1 hr with rfl | hr
  · exact allLt_at h.1
  exact allLts_at h.2 r hr
section
variable {wb p : Nat} (hp : Prm wb p)
include hp
theorem dotF_eq : ∀ (l r : List Nat) (s : Nat), (∀ x ∈ l, x < 2 ^ wb) → (∀ x ∈ r, x < 2 ^ wb) → (List.zipWith (gmul (some (wb, p))) (l.map Int.ofNat) (r.map Int.ofNat)).foldl (fun s z => s ^^^ z.toNat) s = dotF p s l r
 | [], r, s, _, _ => by cases r <;> rfl
 | a :: l, [], s, _, _ => rfl
 | a :: l, b :: r, s, h1, h2 => by
  have hb := h2 b (by simp)
  have hsz := hp.size
  simp only [List.map_cons, List.zipWith_cons_cons, List.foldl_cons, dotF]
  rw [show gmul (some (wb, p)) (Int.ofNat a) (Int.ofNat b) = ((mulF p a b : Nat) : Int) by rw [mulF_eq (by omega)]; exact gmul_in (h1 a (by simp)) hb, Int.toNat_natCast]
  exact dotF_eq l r _ (fun x hx => h1 x (by simp [hx])) (fun x hx => h2 x (by simp [hx]))
end
theorem nthD_eq (j : Nat) (r : List Nat) : ((nthD j r : Nat) : Int) = (r.map Int.ofNat).getD j 0 := by
 unfold nthD
 rw [nth_eq, List.getD_eq_getElem?_getD, List.getElem?_map]
 cases r[j]? <;> rfl
theorem colF_eq (j : Nat) : ∀ Y : List (List Nat), (colF j Y).map Int.ofNat = colAt (mtx Y) j
 | [] => rfl
 | r :: Y => by
  have := colF_eq j Y
  unfold colAt mtx at this ⊢
  simp only [colF, List.map_cons, this]
  congr 1
  exact nthD_eq j r
theorem colF_lt {n : Nat} (hn : 0 < n) (j : Nat) : ∀ {Y : List (List Nat)}, (∀ r ∈ Y, ∀ x ∈ r, x < n) → ∀ x ∈ colF j Y, x < n
 | [], _, x, hx => by cases hx
 | r :: Y, h, x, hx => by
  rcases List.mem_cons.1 hx with rfl | hx
  ·
   unfold nthD
   rw [nth_eq]
   cases hr : r[j]? with
   | none => exact hn
   | some y => exact h r (by simp) y (List.mem_of_getElem? hr)
  exact colF_lt hn j (fun r hr => h r (by simp [hr])) x hx
theorem rowF_at {p : Nat} {Y : List (List Nat)} {r : List Nat} : ∀ (n j i : Nat), i < n → (rowF p Y r n j)[i]? = some (dotF p 0 r (colF (j + i) Y))
 | 0, j, i, h => by omega
 | n + 1, j, 0, h => by simp [rowF]
 | n + 1, j, i + 1, h => by
  simp only [rowF, List.getElem?_cons_succ]
  rw [rowF_at n (j + 1) i (by omega), show j + 1 + i = j + (i + 1) by omega]
theorem rowF_len {p : Nat} {Y : List (List Nat)} {r : List Nat} : ∀ (n j : Nat), (rowF p Y r n j).length = n
 | 0, j => rfl
 | n + 1, j => by simp [rowF, rowF_len n]
theorem prodF_len {p k : Nat} {Y : List (List Nat)} : ∀ X : List (List Nat), (prodF p k Y X).length = X.length
 | [] => rfl
 | r :: X => by simp [prodF, prodF_len X]
theorem prodF_mem {p k : Nat} {Y : List (List Nat)} : ∀ {X : List (List Nat)}, ∀ r ∈ prodF p k Y X, r.length = k
 | [], r, hr => by cases hr
 | x :: X, r, hr => by
  rcases List.mem_cons.1 hr with rfl | hr
  · exact rowF_len k 0
  exact prodF_mem r hr
theorem prodF_eq {wb p k : Nat} (hp : Prm wb p) {Y : List (List Nat)} (hY : ∀ r ∈ Y, ∀ x ∈ r, x < 2 ^ wb) (hk : wid (mtx Y) = k) : ∀ {X : List (List Nat)}, (∀ r ∈ X, ∀ x ∈ r, x < 2 ^ wb) → mtx (prodF p k Y X) = (mtx X).map (mulRow (some (wb, p)) (mtx Y))
 | [], _ => rfl
 | r :: X, h => by
  have ih := prodF_eq hp hY hk (X := X) (fun r hr => h r (by simp [hr]))
  unfold mtx at ih ⊢
  simp only [prodF, List.map_cons, ih]
  congr 1
  unfold mulRow
  apply List.ext_getElem?
  intro i
  by_cases hi : i < k
  ·
   rw [List.getElem?_map, rowF_at k 0 i hi, List.getElem?_map, List.getElem?_range (by rw [← hk] at hi; exact hi)]
   simp only [Option.map_some, Nat.zero_add, Option.some.injEq]
   show ((dotF p 0 r (colF i Y) : Nat) : Int) = ((dotN _ _ _ : Nat) : Int)
   congr 1
   unfold dotN
   rw [show List.map (fun r => List.map Int.ofNat r) Y = mtx Y from rfl, ← colF_eq, dotF_eq hp _ _ _ (h r (by simp)) (colF_lt (Nat.two_pow_pos wb) i hY)]
  rw [List.getElem?_eq_none (by rw [List.length_map, rowF_len]; omega), List.getElem?_eq_none (by rw [List.length_map, List.length_range]; unfold mtx at hk; omega)]
def ofInts : List Nat → List AV
 | [] => []
 | n :: l => iN n :: ofInts l
def mrows : List (List Nat) → AH → List AV × AH
 | [], h => ([], h)
 | x :: l, h => (match mrows l (h.new (.row (ofInts x) true)) with | (vs, h') => (.sl h.nx 0 (ln x) none 1 :: vs, h'))
def wdA (h : AH) : AV → Nat
 | .sl b o _ _ _ => (match h.at b with | some (.row l _) => (match dr o l with | .sl _ _ n _ _ :: _ => n | _ => 0) | _ => 0)
 | _ => 0
def okMul (n kx ky : Nat) (X Y : List (List Nat)) : Bool :=
 allLts n X && allLts n Y && Nat.ble 1 (ln X) && Nat.ble (ln X) 20 && Nat.ble 1 kx && Nat.ble kx 20 && Nat.beq kx (ln Y) && Nat.ble 1 ky && Nat.ble ky 20
def oMul : List AV → AH → Option (AV × AH)
 | [.ptr b 0, x, y], h => (match gfl h b with
  | some (w, p) => (match matS h (wdA h x) x with
   | some X => (match matS h (wdA h y) y with
    | some Y => (bif okMul (Nat.pow 2 w) (wdA h x) (wdA h y) X Y then (match mrows (prodF p (wdA h y) Y X) h with | (vs, h) => some (.tup [.sl h.nx 0 (ln vs) none 1, .int .i64 (.ofNat 0)], h.new (.row vs true))) else none)
    | none => none)
   | none => none)
  | none => none)
 | _, _ => none
theorem vr_ints (e : Env) : ∀ l : List Nat, VRL e (ofInts l) (zints (l.map Int.ofNat))
 | [] => VRL.nil
 | n :: l => VRL.cons rfl (vr_ints e l)
theorem ofInts_len : ∀ l : List Nat, (ofInts l).length = l.length
 | [] => rfl
 | n :: l => by simp [ofInts, ofInts_len l]
def NewRo (N : Nat) (e : Env) (h : AH) : Prop := ∀ b o r s, h.at b = some o → e b = some (r, s) → N ≤ r → isRo o = true
def RowsM (B N : Nat) (w : World) (vals : List Value) (rows : List (List Nat)) : Prop := vals.length = rows.length ∧
 ∀ (j : Nat) (u : Value) (x : List Nat), vals[j]? = some u → rows[j]? = some x → ∃ (g : Nat) (cur : Array Value) (t : TypeId), u = .slice (some ⟨g, 0, none⟩) x.length cur.size ∧ (g < B ∨ notT FDi w g) ∧ N ≤ g ∧ w.heap[g]? = some (.cells cur t (0, 0)) ∧ x.length ≤ cur.size ∧ cur.size ≤ maxLen ∧ cur.toList.take x.length = zints (x.map Int.ofNat)
section
variable {W : World} {B N : Nat} {w : World}
theorem name_ro {e : Env} {h : AH} {g t : Nat} {cur : Array Value} {l : List AV} (hH : HW (some (W, some B)) e h w) (hr : NewRo N e h) (hc : w.heap[g]? = some (.cells cur t (0, 0))) (hg : N ≤ g) (ht : g < B ∨ notT FDi w g) (h4 : cur.size ≤ maxLen) (hl : l.length ≤ cur.size) (hv : VRL e l (cur.toList.take l.length)) :
  ∃ e', Gr e h e' (h.new (.row l true)) ∧ VR e' (.sl h.nx 0 l.length none 1) (.slice (some ⟨g, 0, none⟩) l.length cur.size) ∧ HW (some (W, some B)) e' (h.new (.row l true)) w ∧ NewRo N e' (h.new (.row l true)) := by
 obtain ⟨g1, g2⟩ := hw_name (l := l) (ro := true) hH hc hl hv (fun b' o s hb' he' => ⟨hr b' o _ _ hb' he' hg, rfl⟩) (fun W' hW' => by
  obtain rfl := Option.some.inj hW'
  exact ⟨fun B' hB' => (by cases hB'; exact ⟨ht, fun h => by cases h⟩), fun h => by cases h⟩)
 refine ⟨_, g1, vr_slice (ext_at _ _ _) h4, g2, fun b' o r s hb' he' hN => ?_⟩
 rcases at_new hb' with ⟨-, rfl⟩ | ⟨hne, hb'⟩
 · rfl
 exact hr b' o r s hb' (by simpa [ext, hne] using he') hN
theorem own_name {E : Nat} (hE : E ≠ fT) {e : Env} {h : AH} {u : Value} {b : Option Nat} {xs : List Value} {l : List AV} (hH : HW (some (W, some B)) e h w) (hr : NewRo N e h) (ho : Gam.Own FDi B N w E u b xs) (hx : xs ≠ []) (hl : l.length = xs.length) (hv : VRL e l xs) :
  ∃ e', Gr e h e' (h.new (.row l true)) ∧ VR e' (.sl h.nx 0 l.length none 1) u ∧ HW (some (W, some B)) e' (h.new (.row l true)) w ∧ NewRo N e' (h.new (.row l true)) := by
 rcases ho with ⟨-, -, h0⟩ | ⟨g, cap, cur, rfl, -, hg, hB, hc, h3, h4, h5, h6, -⟩
 · exact absurd h0 hx
 subst h5
 rw [← hl] at h3 h6 ⊢
 exact name_ro hH hr hc hg (.inr fun c fr e2 => by rw [hc] at e2; exact hE (Obj.cells.inj (Option.some.inj e2)).2.1) h4 h3 (by rw [h6]; exact hv)
theorem nrows_ok : ∀ (rows : List (List Nat)) (vals : List Value) (e : Env) (h : AH), HW (some (W, some B)) e h w → NewRo N e h → RowsM B N w vals rows →
  ∃ e', Gr e h e' (mrows rows h).2 ∧ VRL e' (mrows rows h).1 vals ∧ HW (some (W, some B)) e' (mrows rows h).2 w ∧ NewRo N e' (mrows rows h).2
 | [], vals, e, h, hH, hr, hQ => by
  have : vals = [] := List.eq_nil_of_length_eq_zero hQ.1
  subst this
  exact ⟨e, Gr.refl e h, VRL.nil, hH, hr⟩
 | x :: rows, vals, e, h, hH, hr, hQ => by
  cases vals with
  | nil => have := hQ.1; simp at this
  | cons v vals =>
   obtain ⟨g, cur, t, rfl, ht, hg, hc, h3, h4, h6⟩ := hQ.2 0 v x rfl rfl
   obtain ⟨e1, g1, g2, g3, g4⟩ := name_ro (l := ofInts x) hH hr hc hg ht h4 (by rw [ofInts_len]; exact h3) (by rw [ofInts_len, h6]; exact vr_ints e x)
   obtain ⟨e', k1, k2, k3, k4⟩ := nrows_ok rows vals e1 _ g3 g4 ⟨by have := hQ.1; simpa using this, fun j u c hu hc => hQ.2 (j + 1) u c (by simpa using hu) (by simpa using hc)⟩
   refine ⟨e', g1.trans k1, VRL.cons ?_ k2, k3, k4⟩
   rw [ofInts_len] at g2
   rw [ln_eq]
   exact VR.mono k1.le _ _ g2
theorem mown_rows {K E2 : Nat} {u : Value} {b : Option Nat} {R : List (List Nat)} (hM : MOwn FDi B N N K w E2 u b (mtx R)) (hR : ∀ r ∈ R, r ≠ []) : ∃ vals, vals.length = R.length ∧ Gam.Own FDi B N w E2 u b vals ∧ RowsM B N w vals R := by
 obtain ⟨vals, h1, h2, h3⟩ := hM.ex
 have hl : vals.length = R.length := by rw [h1]; simp [mtx]
 refine ⟨vals, hl, h2, hl, fun j u x hu hx => ?_⟩
 have hxn := hR x (List.mem_of_getElem? hx)
 rcases h3 j u (x.map Int.ofNat) hu (by simp [mtx, hx]) with ⟨b, ho, -⟩ | ⟨h0, -⟩
 ·
  rcases ho with ⟨-, -, h0⟩ | ⟨g, cap, cur, rfl, -, hg, hB, hc, h4, h5, h6, h7, -⟩
  · cases x with
    | nil => exact absurd rfl hxn
    | cons => simp [zints] at h0
  subst h6
  have hzl : (zints (x.map Int.ofNat)).length = x.length := by simp [zints]
  rw [hzl] at h4 h7
  exact ⟨g, cur, FDi.E, by rw [hzl], .inr fun c fr e2 => (by rw [hc] at e2; exact FDi.ne (Obj.cells.inj (Option.some.inj e2)).2.1), hg, hc, h4, h5, h7⟩
 cases h0
end
end Go.Iv
namespace Go.Proofs.YtoabojbpeafdkaaGreatDoor
open Go Go.Gam Go.Iv
theorem en277 : Ent Tryz.prog 277 := ent Tryz.func277 (by kernel_rfl) (by kernel_rfl)
theorem oMul_ok {W : World} {B : Nat} : CallAt (some (W, some B)) Tryz.prog 277 oMul := by
 intro args h a h' hq e w vs hv hH
 unfold oMul at hq
 split at hq
 ·
  rename_i b x y
  split at hq
  ·
   rename_i wb p hg
   split at hq
   ·
    rename_i X hX
    split at hq
    ·
     rename_i Y hY
     cases hb : okMul (Nat.pow 2 wb) (wdA h x) (wdA h y) X Y with
     | false => rw [hb] at hq; cases hq
     | true =>
      rw [hb] at hq
      simp only [cond_true, Option.some.injEq] at hq
      obtain ⟨V1, r1, rfl, h1, V2, r2, rfl, h2, V3, r3, rfl, h3, h4⟩ := hv
      obtain rfl : r3 = [] := h4
      obtain ⟨hI, hf⟩ := fo_of hH hg h1
      obtain ⟨sx, cx, rfl, mx, lx⟩ := matS_ok hH hX h2
      obtain ⟨sy, cy, rfl, my, ly⟩ := matS_ok hH hY h3
      unfold okMul at hb
      simp only [Bool.and_eq_true] at hb
      obtain ⟨⟨⟨⟨⟨⟨⟨⟨b1, b2⟩, b3⟩, b4⟩, b5⟩, b6⟩, b7⟩, b8⟩, b9⟩ := hb
      have b1 := allLts_at b1
      have b2 := allLts_at b2
      have b3 := Nat.le_of_ble_eq_true b3
      have b4 := Nat.le_of_ble_eq_true b4
      have b5 := Nat.le_of_ble_eq_true b5
      have b6 := Nat.le_of_ble_eq_true b6
      have b7 := Nat.eq_of_beq_eq_true b7
      have b8 := Nat.le_of_ble_eq_true b8
      have b9 := Nat.le_of_ble_eq_true b9
      rw [ln_eq] at b3 b4 b7
      have hpw : Nat.pow 2 wb = 2 ^ wb := rfl
      rw [hpw] at b1 b2
      have wx : wid (mtx X) = wdA h x := by
       cases X with
       | nil => simp at b3
       | cons r X => rw [wid_at (r := r.map Int.ofNat) rfl, List.length_map]; exact lx r (by simp)
      have wy : wid (mtx Y) = wdA h y := by
       cases Y with
       | nil => rw [b7] at b5; simp at b5
       | cons r Y => rw [wid_at (r := r.map Int.ofNat) rfl, List.length_map]; exact ly r (by simp)
      have may : ∀ (Z : List (List Nat)) (k : Nat), wid (mtx Z) = k → (∀ r ∈ Z, r.length = k) → (∀ r ∈ Z, ∀ x ∈ r, x < 2 ^ wb) → 1 ≤ Z.length → Z.length ≤ 20 → 1 ≤ k → k ≤ 20 → mayM (some (wb, p)) (mtx Z) = true := fun Z k hw hl hlt z1 z2 z3 z4 =>
       mayM_of (by simpa [mtx] using z1) (by simpa [mtx] using z2) (by omega) (by omega) (fun r hr => by
        obtain ⟨r', hr', rfl⟩ := List.mem_map.1 hr
        refine ⟨by rw [List.length_map, hw]; exact hl r' hr', fun x hx => ?_⟩
        obtain ⟨x', hx', rfl⟩ := List.mem_map.1 hx
        exact inF_of (hlt r' hr' x' hx'))
      have m1 := may X _ wx lx b1 b3 b4 b5 b6
      have m2 := may Y _ wy ly b2 (by omega) (by omega) b8 b9
      have hmul := mulM_t m1 m2 (by rw [wx, b7]; simp [mtx])
      rw [← prodF_eq hf.1 b2 wy b1] at hmul
      have xl : (mtx X).length = X.length := by simp [mtx]
      have yl : (mtx Y).length = Y.length := by simp [mtx]
      rw [← xl, ← yl]
      have h20 : (20 : Nat) ≤ maxLen := by decide
      refine .inl ⟨en277, (MulM_ok B w.heap.size (some (wb, p)) V1 sx cx (mtx X) sy cy (mtx Y) w hI (Nat.le_refl _) hf mx (by omega) (fun r hr => by
        obtain ⟨r', hr', rfl⟩ := List.mem_map.1 hr; rw [List.length_map, lx r' hr']; omega) my (by omega) (fun r hr => by
        obtain ⟨r', hr', rfl⟩ := List.mem_map.1 hr; rw [List.length_map, ly r' hr']; omega)).mono fun v w' ⟨ob, u, hv, hM, hS⟩ => ?_⟩
      rw [hmul] at hv hM
      simp only [Option.getD_some] at hM
      have hne : ∀ r ∈ prodF p (wdA h y) Y X, r ≠ [] := fun r hr e0 => by
       have := prodF_mem r hr
       rw [e0] at this; simp at this; omega
      obtain ⟨vals, k1, k2, k3⟩ := mown_rows hM hne
      obtain ⟨e1, g1, g2, g3, g4⟩ := nrows_ok (prodF p (wdA h y) Y X) vals e h (hH.later hS) (fun b o r s _ he hN => by have := hH.bnd b r s he; omega) k3
      have hvl := g2.length
      have hx0 : vals ≠ [] := fun e0 => by rw [e0] at k1; simp [prodF_len] at k1; omega
      obtain ⟨e2, j1, j2, j3, -⟩ := own_name (l := (mrows (prodF p (wdA h y) Y X) h).1) (by decide) g3 g4 k2 hx0 hvl.symm g2
      have hgr := g1.trans j1
      cases hm : mrows (prodF p (wdA h y) Y X) h with
      | mk vs h1 =>
       rw [hm] at hq j1 j2 j3 hgr
       obtain ⟨rfl, rfl⟩ := Prod.mk.inj hq
       refine ⟨e2, hgr, ?_, j3⟩
       rw [hv]
       refine ⟨_, rfl, VRL.cons ?_ (VRL.cons rfl VRL.nil)⟩
       rw [ln_eq]
       exact j2
    cases hq
   cases hq
  cases hq
 cases hq
end Go.Proofs.YtoabojbpeafdkaaGreatDoor
/- A call, reckoned at names of its own, that answers with a matrix. No program in sight. -/
namespace Go.Iv
open Go Go.Gam
def isRowM (h : AH) (x : List Nat) : AV → Bool
 | .sl c 0 n none 1 => (match h.at c with | some (.row l false) => beqs l (ofInts x) && Nat.beq n (ln x) | _ => false)
 | _ => false
def areRowsM (h : AH) : List (List Nat) → List AV → Bool
 | [], [] => true
 | x :: R, v :: l => isRowM h x v && areRowsM h R l
 | _, _ => false
def givesM (r : Option (AV × AH)) (R : List (List Nat)) : Bool :=
 match r with
 | some (.tup [.sl b 0 n none 1, .int .i64 (.ofNat 0)], h) => (match h.at b with | some (.row vs false) => Nat.beq n (ln R) && areRowsM h R vs | _ => false)
 | _ => false
theorem vrl_ints {e : Env} : ∀ {l : List Nat} {vs : List Value}, VRL e (ofInts l) vs → vs = zints (l.map Int.ofNat)
 | [], vs, h => h
 | n :: l, vs, ⟨v, r, h1, h2, h3⟩ => by
  rw [h1, vrl_ints h3, show v = _ from h2]; rfl
theorem areRowsM_ok {w w' : World} {B : Nat} {e : Env} {h : AH} (hH : HW (some (w, some B)) e h w') : ∀ {R : List (List Nat)} {l : List AV} {vals : List Value}, areRowsM h R l = true → VRL e l vals → RowsM B w.heap.size w' vals R
 | [], [], vals, _, hv => by
  obtain rfl : vals = [] := hv
  exact ⟨rfl, fun j u x hu => by simp at hu⟩
 | x :: R, a :: l, vals, ha, hv => by
  obtain ⟨v, r, rfl, h2, h3⟩ := hv
  simp only [areRowsM, Bool.and_eq_true] at ha
  have ih := areRowsM_ok hH ha.2 h3
  refine ⟨by simpa using ih.1, fun j u y hu hy => ?_⟩
  cases j with
  | succ j => exact ih.2 j u y (by simpa using hu) (by simpa using hy)
  | zero =>
   obtain rfl : v = u := by simpa using hu
   obtain rfl : x = y := by simpa using hy
   have h1 := ha.1
   unfold isRowM at h1
   split at h1
   ·
    rename_i c n
    split at h1
    ·
     rename_i q hc
     simp only [Bool.and_eq_true] at h1
     obtain rfl := beqs_eq _ _ h1.1
     have hn := Nat.eq_of_beq_eq_true h1.2
     rw [ln_eq] at hn
     obtain ⟨g, cur, t, k1, rfl, k3, k4, k5, k6, k7⟩ := new_row hH hc (by rw [ofInts_len]; exact hn) h2
     subst hn
     exact ⟨g, cur, t, rfl, ((hH.prv _ rfl c _ hc _ _ k1).1 B rfl).1, k3, k4, k5, k6, vrl_ints k7⟩
    cases h1
   cases h1
 | [], _ :: _, _, ha, _ => by cases ha
 | _ :: _, [], _, ha, _ => by cases ha
theorem areRowsM_len {h : AH} : ∀ {R : List (List Nat)} {l : List AV}, areRowsM h R l = true → l.length = R.length
 | [], [], _ => rfl
 | x :: R, a :: l, ha => by
  simp only [areRowsM, Bool.and_eq_true] at ha
  simp [areRowsM_len ha.2]
 | [], _ :: _, ha => by cases ha
 | _ :: _, [], ha => by cases ha
def canonM (A : List AV) (H : List (Nat × AO)) (N : Nat) (R : List (List Nat)) : List AV → AH → Option (AV × AH) := fun args h =>
 bif beqs args (rens (rho (uniH h H (unis A args [])) N h.nx) A) && fits h (rho (uniH h H (unis A args [])) N h.nx) H then (match mrows R h with | (vs, h) => some (.tup [.sl h.nx 0 (ln vs) none 1, .int .i64 (.ofNat 0)], h.new (.row vs true))) else none
theorem canonM_ok {W : World} {B : Nat} {P : Program} {call : CallF} {f N : Nat} {A : List AV} {H : List (Nat × AO)} {R : List (List Nat)} (hN : 10 ≤ N) (hcall : ∀ W B, CallOK (some (W, some B)) P call) (hq : givesM (call f A (ofL H N)) R = true) : CallAt (some (W, some B)) P f (canonM A H N R) := by
 intro args h a h' hm e w vs hv hH
 unfold canonM at hm
 cases hb : (beqs args (rens (rho (uniH h H (unis A args [])) N h.nx) A) && fits h (rho (uniH h H (unis A args [])) N h.nx) H) with
 | false => rw [hb] at hm; cases hm
 | true =>
  rw [hb] at hm
  simp only [cond_true] at hm
  simp only [Bool.and_eq_true] at hb
  have hv2 := hv
  rw [beqs_eq _ _ hb.1] at hv2
  have hs := hw_canon hH hb.2 hN ((hH.st _ rfl).st B rfl).inv (fun b o hm r s he => by
   rcases fits_at hb.2 b o hm with ⟨l, q, ro, rfl, h1, -⟩ | ⟨wb, p, rfl, h1⟩
   · exact ⟨((hH.prv _ rfl _ _ h1 r s he).1 B rfl).1, fun h => by cases h⟩
   exact (hH.prv _ rfl _ _ h1 r s he).1 B rfl)
  unfold givesM at hq
  split at hq
  ·
   rename_i b n h1 hc
   split at hq
   ·
    rename_i l hl
    simp only [Bool.and_eq_true] at hq
    have hn := Nat.eq_of_beq_eq_true hq.1
    rw [ln_eq] at hn
    refine (hcall w B f A _ _ _ hc _ w vs (VRL.ren _ _ hv2) hs).mono fun v w' ⟨e1, g1, g2, g3⟩ => ?_
    obtain ⟨cs, rfl, u, r, rfl, hu, u2, r2, rfl, hu2, hr2⟩ := g2
    obtain rfl : u2 = .int .i64 0 := hu2
    obtain rfl : r2 = [] := hr2
    have hll := areRowsM_len hq.2
    obtain ⟨g, cur, t, k1, rfl, k3, k4, k5, k6, k7⟩ := new_row g3 hl (by omega) hu
    have hQ := areRowsM_ok g3 hq.2 k7
    have ht := ((g3.prv _ rfl b _ hl _ _ k1).1 B rfl).1
    have hvn : (cur.toList.take n).length = n := by simp; omega
    obtain ⟨e2, j1, j2, j3, j4⟩ := nrows_ok R _ e h (hH.later ((g3.st _ rfl).st B rfl)) (fun b o r s _ he hN => by have := hH.bnd b r s he; omega) hQ
    have hvl := j2.length
    obtain ⟨e3, i1, i2, i3, -⟩ := name_ro (l := (mrows R h).1) j3 j4 k4 k3 ht k6 (by omega) (by rw [← hvl, hvn]; exact j2)
    have hgr := j1.trans i1
    cases hm2 : mrows R h with
    | mk us h2 =>
     rw [hm2] at hm i2 i3 hgr hvl
     obtain ⟨rfl, rfl⟩ := Prod.mk.inj (Option.some.inj hm)
     refine ⟨e3, hgr, ⟨_, rfl, VRL.cons ?_ (VRL.cons rfl VRL.nil)⟩, i3⟩
     have e5 : n = us.length := by simp only at hvl; omega
     rw [ln_eq, e5]
     exact i2
   cases hq
  cases hq
end Go.Iv
/- The parity rows of all params: what is reckoned. -/
set_option maxRecDepth 100000
namespace Go.Proofs.YtoabojbpeafdkaaGreatDoor
open Go Go.Gam Go.Iv
def orcP : OrcF := fun f => bif Nat.beq f 128 then some oNew else bif Nat.beq f 141 then some oGMul else bif Nat.beq f 213 then some oGPow else bif Nat.beq f 205 then some oGInv else bif Nat.beq f 216 then some oGSize else bif Nat.beq f 277 then some oMul else none
def mP (P : Program) (n : Nat) : Mch := mch P orcP n
def rawT : Nat → List (List Nat)
 | 1 => [[1]]
 | 2 => [[1, 0], [1, 1]]
 | 3 => [[1, 0, 0], [1, 1, 1], [1, 2, 4]]
 | 4 => [[1, 0, 0, 0], [1, 1, 1, 1], [1, 2, 4, 8], [1, 3, 5, 15]]
 | 5 => [[1, 0, 0, 0, 0], [1, 1, 1, 1, 1], [1, 2, 4, 8, 16], [1, 3, 5, 15, 17], [1, 4, 16, 64, 29]]
 | 6 => [[1, 0, 0, 0, 0, 0], [1, 1, 1, 1, 1, 1], [1, 2, 4, 8, 16, 32], [1, 3, 5, 15, 17, 51], [1, 4, 16, 64, 29, 116], [1, 5, 17, 85, 28, 108]]
 | 7 => [[1, 0, 0, 0, 0, 0, 0], [1, 1, 1, 1, 1, 1, 1], [1, 2, 4, 8, 16, 32, 64], [1, 3, 5, 15, 17, 51, 85], [1, 4, 16, 64, 29, 116, 205], [1, 5, 17, 85, 28, 108, 193], [1, 6, 20, 120, 13, 46, 228]]
 | 8 => [[1, 0, 0, 0, 0, 0, 0, 0], [1, 1, 1, 1, 1, 1, 1, 1], [1, 2, 4, 8, 16, 32, 64, 128], [1, 3, 5, 15, 17, 51, 85, 255], [1, 4, 16, 64, 29, 116, 205, 19], [1, 5, 17, 85, 28, 108, 193, 226], [1, 6, 20, 120, 13, 46, 228, 98], [1, 7, 21, 107, 12, 36, 252, 206]]
 | _ => []
def invT : Nat → List (List Nat)
 | 1 => [[1]]
 | 2 => [[1, 0], [1, 1]]
 | 3 => [[1, 0, 0], [143, 245, 122], [142, 244, 122]]
 | 4 => [[1, 0, 0, 0], [123, 1, 142, 244], [0, 122, 244, 142], [122, 122, 122, 122]]
 | 5 => [[1, 0, 0, 0, 0], [60, 166, 244, 78, 32], [215, 150, 110, 244, 219], [122, 122, 122, 122, 0], [144, 75, 224, 192, 251]]
 | 6 => [[1, 0, 0, 0, 0, 0], [155, 1, 211, 105, 160, 128], [219, 154, 9, 147, 176, 107], [65, 65, 154, 154, 219, 219], [219, 0, 96, 64, 48, 203], [219, 219, 32, 32, 251, 251]]
 | 7 => [[1, 0, 0, 0, 0, 0, 0], [225, 187, 52, 78, 253, 29, 192], [154, 192, 126, 255, 157, 93, 27], [235, 186, 146, 195, 40, 121, 81], [74, 27, 248, 82, 179, 194, 138], [113, 32, 40, 121, 8, 89, 81], [170, 251, 8, 89, 243, 162, 81]]
 | 8 => [[1, 0, 0, 0, 0, 0, 0, 0], [91, 1, 142, 244, 71, 167, 122, 186], [0, 90, 228, 101, 7, 199, 129, 154], [11, 90, 114, 35, 200, 153, 177, 224], [0, 81, 178, 24, 249, 136, 192, 74], [0, 81, 89, 8, 121, 40, 32, 113], [0, 81, 162, 243, 89, 8, 251, 170], [81, 81, 81, 81, 81, 81, 81, 81]]
 | _ => []
def spA (k : Nat) : Nat → Nat → List AV
 | 0, _ => []
 | n + 1, b => .sl b 0 k none 1 :: spA k n (Nat.succ b)
def rowsH : List (List Nat) → Nat → List (Nat × AO)
 | [], _ => []
 | r :: R, b => (b, .row (ofInts r) true) :: rowsH R (Nat.succ b)
def invA (k : Nat) : List AV := [.ptr 10 0, .sl 11 0 k none 1]
def invH (k : Nat) : List (Nat × AO) := (10, .fld 8 285) :: (11, .row (spA k k 12) true) :: rowsH (rawT k) 12
def invOk (P : Program) (k : Nat) : Bool := givesM ((mP P 3000).call 126 (invA k) (ofL (invH k) (Nat.add 12 k))) (invT k)
def oInvK : List AV → AH → Option (AV × AH)
 | [x, .sl b o n c z], h => bif Nat.ble 1 n && Nat.ble n 8 then canonM (invA n) (invH n) (Nat.add 12 n) (invT n) [x, .sl b o n c z] h else none
 | _, _ => none
def orcQ : OrcF := fun f => bif Nat.beq f 126 then some oInvK else orcP f
def mQ (P : Program) (n : Nat) : Mch := mch P orcQ n
def parN (P : Program) (p k m : Nat) : Option (List (List Nat)) := match (mQ P 3000).call 78 [prmA p k m] (ofL [] 10) with | some (a, h) => matAt h m k a | none => none
def parOk (P : Program) (p k m : Nat) : Bool := match parN P p k m with | some M => allLts (bif Nat.beq p 2 then 65536 else 256) M | none => false
def rng (P : Program) (p : Nat) (ks ms : List Nat) : Bool := ks.all fun k => ms.all fun m => parOk P p k m
theorem rng_at {P : Program} {p k m : Nat} {ks ms : List Nat} (h : rng P p ks ms = true) (hk : k ∈ ks) (hm : m ∈ ms) : parOk P p k m = true := List.all_eq_true.1 (List.all_eq_true.1 h k hk) m hm
theorem orcP_ok {W : World} {B : Nat} : ∀ f g, orcP f = some g → CallAt (some (W, some B)) Tryz.prog f g := by
 intro f g h
 unfold orcP at h
 have pick : ∀ {k : Nat} {x : List AV → AH → Option (AV × AH)} {y : Option (List AV → AH → Option (AV × AH))}, (bif Nat.beq f k then some x else y) = some g → CallAt (some (W, some B)) Tryz.prog k x → (y = some g → CallAt (some (W, some B)) Tryz.prog f g) → CallAt (some (W, some B)) Tryz.prog f g := by
  intro k x y h hx hy
  cases hb : Nat.beq f k with
  | true =>
   rw [hb] at h
   obtain rfl := Option.some.inj h
   obtain rfl := Nat.eq_of_beq_eq_true hb
   exact hx
  | false => rw [hb] at h; exact hy h
 refine pick h oNew_ok fun h => pick h oGMul_ok fun h => pick h oGPow_ok fun h => pick h oGInv_ok fun h => pick h oGSize_ok fun h => pick h oMul_ok fun h => ?_
 cases h
theorem mP_ok (n : Nat) (W : World) (B : Nat) : CallOK (some (W, some B)) Tryz.prog (mP Tryz.prog n).call := (mch_ok idle mixed en371 orcP_ok n).2
theorem oInvK_ok {W : World} {B : Nat} (hr : ∀ k, 1 ≤ k → k ≤ 8 → invOk Tryz.prog k = true) : CallAt (some (W, some B)) Tryz.prog 126 oInvK := by
 intro args h a h' hq
 unfold oInvK at hq
 split at hq
 ·
  rename_i x b o n c z
  cases hb : (Nat.ble 1 n && Nat.ble n 8) with
  | false => rw [hb] at hq; cases hq
  | true =>
   rw [hb] at hq
   simp only [Bool.and_eq_true] at hb
   exact canonM_ok (by show 10 ≤ 12 + n; omega) (mP_ok 3000) (hr n (Nat.le_of_ble_eq_true hb.1) (Nat.le_of_ble_eq_true hb.2)) _ _ _ _ hq
 cases hq
theorem mQ_ok (hr : ∀ k, 1 ≤ k → k ≤ 8 → invOk Tryz.prog k = true) (n : Nat) (W : World) (B : Nat) : CallOK (some (W, some B)) Tryz.prog (mQ Tryz.prog n).call :=
 (mch_ok idle mixed en371 (fun f g h => by
  unfold orcQ at h
  cases hb : Nat.beq f 126 with
  | true =>
   rw [hb] at h
   obtain rfl := Option.some.inj h
   obtain rfl := Nat.eq_of_beq_eq_true hb
   exact oInvK_ok hr
  | false => rw [hb] at h; exact orcP_ok f g h) n).2
end Go.Proofs.YtoabojbpeafdkaaGreatDoor
