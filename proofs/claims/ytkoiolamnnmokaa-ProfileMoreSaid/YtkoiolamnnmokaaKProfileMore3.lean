/- Texts of the claim ProfileMore (part 3), put together in the order of their imports. -/
import Derived.Test.YtkoiolamnnmokaaKProfileMore2
import Derived.Deep.Matrix
import Derived.Test.YtkoiolamnnmokaaProg
import Derived.WalkKit
import Derived.Laws.LoneSync
import Derived.Laws.NewBlocks
/- Bytes as numbers of a field: stores into rows of the walk's own; what the functions of regions tell. No program in sight. -/
set_option linter.unusedVariables false
set_option linter.unusedSimpArgs false
namespace Go.Gam
open Px

section
variable {P : Program} {ops : Array Oper} {K : Kont} {rest : List Oper} {n : NN} {F : Fs} {T : TypeId} {pp : String} {af : Array Edge} {v : Value} {d : Nat} {a : Act} {w : World} {x y : Operand} {D : FD} {B : Nat}

theorem Own.ptr {N E : Nat} {b : Option Nat} {xs : List Value} (h : Own D B N w E v b xs) (h0 : 0 < xs.length) : ∃ g cap, v = .slice (some ⟨g, 0, none⟩) xs.length cap ∧ b = some g := by
  rcases h with ⟨_, _, rfl⟩ | ⟨g, cap, cur, rfl, rfl, _⟩
  · simp at h0
  · exact ⟨g, cap, rfl, rfl⟩

/-- A store into a row of the walk's own. -/
theorem s_set {t N E g o : Nat} {u : Value} {xs : List Value} (hF : Fr n F a) (ht : One P t) (hx : ev F x = some (.pointer (some ⟨g, o, none⟩))) (ho : o < xs.length) (hy : ev F y = some u) (hu : u.oneCell' = true)
    (hO : Own D B N w E v (some g) xs) (hE : E ≠ D.T) (hI : Inv D B w) (k : ∀ w', Mb D B (some g) w w' → Inv D B w' → Own D B N w' E v (some g) (xs.set o u) → WL P ops K rest a w') :
    WL P ops K (⟨none, .store t x y, T, pp, af, none⟩ :: rest) a w := by
  rcases hO with ⟨_, hb, _⟩ | ⟨g', cap, cur, rfl, hb, h1, hB, h2, h3, h4, h5, h6, h7⟩
  · cases hb
  · obtain rfl := Option.some.inj hb
    have hc : u.cells = #[u] := by cases u <;> first | rfl | simp [Value.oneCell'] at hu
    have hst := run_storeCells_at P g o E [u] 0 cur w h2 (by simp; omega) (by simpa using hu)
    have hset : (cur.toList.take (o + 0) ++ [u] ++ cur.toList.drop (o + 0 + [u].length)).toArray = cur.setIfInBounds o u := by
      apply Array.toList_inj.1
      rw [Array.toList_setIfInBounds, List.set_eq_take_append_cons_drop, if_pos (by simp; omega)]
      simp
    rw [hset] at hst
    have hrun : (execOp a.eval ⟨none, .store t x y, T, pp, af, none⟩).run P w = .ok .skip (w.setRow g (cur.setIfInBounds o u)) := by
      simp only [execOp, hF.reads x _ hx, hF.reads y _ hy, Instr.storeAt, Instr.sureAddr, storeVar, hc]
      simp [run_size1 ht, hst]
    have hm : Mb D B (some g) w (w.setRow g (cur.setIfInBounds o u)) := Mb.setRow h2 hE hB h7
    unfold WL wpList
    rw [if_pos (by simp [Region.wanted])]
    refine .inl ?_
    unfold Oper.wp
    rw [hrun]
    refine k _ hm (hm.inv hI) (.inr ⟨g, cap, cur.setIfInBounds o u, by simp, rfl, h1, hB, setRow_heap w g cur _ E _ h2, by simpa using h3, h4, by simpa using h5, ?_, hm.priv h7⟩)
    rw [List.length_set, Array.toList_setIfInBounds, List.take_set, h6]
end

theorem Own.cast {D : FD} {B N E : Nat} {w : World} {v : Value} {b : Option Nat} {xs ys : List Value} (h : Own D B N w E v b xs) (e : xs = ys) : Own D B N w E v b ys := e ▸ h

/-- Bytes as values. -/
def byt (l : List Nat) : List Value := l.map fun (n : Nat) => Value.int .u8 (n : Int)
@[simp] theorem byt_length (l : List Nat) : (byt l).length = l.length := by simp [byt]
theorem byt_at {l : List Nat} {i n : Nat} (h : l[i]? = some n) : (byt l)[i]? = some (.int .u8 (n : Int)) := by simp [byt, h]
theorem byt_snoc (l : List Nat) (n : Nat) : byt (l ++ [n]) = byt l ++ [.int .u8 (n : Int)] := by simp [byt]
def zints (l : List Int) : List Value := l.map (Value.int .i64)
@[simp] theorem zints_length (l : List Int) : (zints l).length = l.length := by simp [zints]
theorem zints_at {l : List Int} {i : Nat} {z : Int} (h : l[i]? = some z) : (zints l)[i]? = some (.int .i64 z) := by simp [zints, h]
theorem ints_zints (l : List Nat) : ints l = zints (l.map fun (n : Nat) => (n : Int)) := by simp [ints, zints]

/-- n bytes to a number (n = 1 or 2), number by number, byte by byte. -/
def wrun (n : Nat) (bs : List Nat) : Nat → List Nat
  | 0 => List.replicate (bs.length / n) 0
  | i + 1 => (wrun n bs i).set (i / n) (if i % n = 0 then bs.getD i 0 else (wrun n bs i).getD (i / n) 0 + 256 * bs.getD i 0)
theorem wrun_len (n : Nat) (bs : List Nat) : ∀ i, (wrun n bs i).length = bs.length / n
  | 0 => by simp [wrun]
  | i + 1 => by rw [wrun, List.length_set, wrun_len n bs i]

def wordsN (n : Nat) (bs : List Nat) : List Nat := (List.range (bs.length / n)).map fun j => if n = 2 then bs.getD (2 * j) 0 + 256 * bs.getD (2 * j + 1) 0 else bs.getD j 0
def bytesN (n : Nat) (l : List Nat) : List Nat := l.flatMap fun a => if n = 2 then [a % 256, a / 256] else [a % 256]

theorem wrun1 (bs : List Nat) : ∀ i, i ≤ bs.length → ∀ j, j < bs.length → (wrun 1 bs i).getD j 0 = if j < i then bs.getD j 0 else 0
  | 0, _, j, hj => by simp [wrun, hj]
  | i + 1, hi, j, hj => by
    have ih := wrun1 bs i (by omega) j hj
    have hl := wrun_len 1 bs i
    simp only [Nat.div_one] at hl
    rw [wrun, Nat.mod_one, if_pos rfl, Nat.div_one]
    simp only [List.getD_eq_getElem?_getD, List.getElem?_set] at ih ⊢
    by_cases e : i = j
    · subst e; simp [hl, hj]
    · rw [if_neg e, ih]
      by_cases h1 : j < i
      · rw [if_pos h1, if_pos (by omega)]
      · rw [if_neg h1, if_neg (by omega)]
theorem wrun2 (bs : List Nat) : ∀ i, i ≤ bs.length → ∀ j, j < bs.length / 2 → (wrun 2 bs i).getD j 0 = (if 2 * j < i then bs.getD (2 * j) 0 else 0) + (if 2 * j + 1 < i then 256 * bs.getD (2 * j + 1) 0 else 0)
  | 0, _, j, hj => by simp [wrun, hj]
  | i + 1, hi, j, hj => by
    have ih := wrun2 bs i (by omega) j hj
    have hl := wrun_len 2 bs i
    rw [wrun]
    generalize wrun 2 bs i = ys at *
    have key : (ys.set (i / 2) (if i % 2 = 0 then bs.getD i 0 else ys.getD (i / 2) 0 + 256 * bs.getD i 0)).getD j 0 = if i / 2 = j then (if i % 2 = 0 then bs.getD i 0 else ys.getD j 0 + 256 * bs.getD i 0) else ys.getD j 0 := by
      simp only [List.getD_eq_getElem?_getD, List.getElem?_set]
      by_cases e : i / 2 = j
      · subst e; simp [hl, hj]
      · simp [e]
    rw [key, ih]
    by_cases e : i / 2 = j
    · rw [if_pos e]
      by_cases h2 : i % 2 = 0
      · have : i = 2 * j := by omega
        subst this
        rw [if_pos h2, if_pos (by omega), if_neg (by omega)]; rfl
      · have : i = 2 * j + 1 := by omega
        subst this
        rw [if_neg h2, if_pos (by omega), if_neg (by omega), if_pos (by omega), if_pos (by omega)]; rfl
    · rw [if_neg e]
      by_cases h1 : 2 * j < i
      · rw [if_pos h1, if_pos (by omega), if_pos (by omega), if_pos (by omega)]
      · rw [if_neg h1, if_neg (by omega), if_neg (by omega), if_neg (by omega)]

theorem wrun_all {n : Nat} (hn : n = 1 ∨ n = 2) (bs : List Nat) : wrun n bs bs.length = wordsN n bs ∨ bs.length % n ≠ 0 := by
  by_cases hm : bs.length % n = 0
  · left
    apply List.ext_getElem
    · simp [wrun_len, wordsN]
    · intro j h1 h2
      rw [wrun_len] at h1
      have e1 : (wrun n bs bs.length)[j] = (wrun n bs bs.length).getD j 0 := by rw [List.getD_eq_getElem?_getD, List.getElem?_eq_getElem]; rfl
      rw [e1]
      rcases hn with rfl | rfl
      · rw [Nat.div_one] at h1
        rw [wrun1 bs _ (Nat.le_refl _) j h1, if_pos h1]
        simp [wordsN]
      · rw [wrun2 bs _ (Nat.le_refl _) j h1, if_pos (by omega), if_pos (by omega)]
        simp [wordsN]
  · exact .inr hm

theorem getD_lt {bs : List Nat} (h : ∀ x ∈ bs, x < 256) (i : Nat) : bs.getD i 0 < 256 := by
  rw [List.getD_eq_getElem?_getD]
  cases e : bs[i]? with
  | none => simp
  | some x => exact h x (List.mem_of_getElem? e)
theorem wrun_lt {n : Nat} (hn : n = 1 ∨ n = 2) {bs : List Nat} (h : ∀ x ∈ bs, x < 256) {i : Nat} (hi : i ≤ bs.length) (j : Nat) : (wrun n bs i).getD j 0 < 65536 := by
  by_cases hj : j < bs.length / n
  · have a := getD_lt h
    rcases hn with rfl | rfl
    · rw [wrun1 bs i hi j (by simpa using hj)]; split <;> have := a j <;> omega
    · rw [wrun2 bs i hi j hj]
      have h1 := a (2 * j)
      have h2 := a (2 * j + 1)
      split <;> split <;> omega
  · rw [List.getD_eq_getElem?_getD, List.getElem?_eq_none (by rw [wrun_len]; omega)]; simp
theorem div_lt_n {n i len : Nat} (hn : n = 1 ∨ n = 2) (hm : len % n = 0) (hi : i < len) : i / n < len / n := by rcases hn with rfl | rfl <;> omega

def errV {α : Type} (s : Option α) : Int := if s.isSome then 0 else 1
def rwords : Fq → List Nat → Option (List Nat)
  | none, _ => none
  | some q, bs => if bs.length % (q.1 / 8) = 0 then some (wordsN (q.1 / 8) bs) else none
def rbytes : Fq → List Int → Option (List Nat)
  | none, _ => none
  | some q, zs => if zs.all (inF (some q)) = true then some (bytesN (q.1 / 8) (zs.map Int.toNat)) else none
def rmul (o : Fq) (c : Int) (bs : List Nat) : Option (List Nat) := (rwords o bs).bind fun l => if inF o c = true then rbytes o (l.map fun (a : Nat) => gmul o c (a : Int)) else none
theorem rwords_t {wb p nn : Nat} {bs : List Nat} (hn : nn = wb / 8) (h : bs.length % nn = 0) : rwords (some (wb, p)) bs = some (wordsN nn bs) := by subst hn; exact if_pos h
theorem rwords_f {wb p nn : Nat} {bs : List Nat} (hn : nn = wb / 8) (h : bs.length % nn ≠ 0) : rwords (some (wb, p)) bs = none := by subst hn; exact if_neg h

theorem errV_ne {α : Type} {s : Option α} (h : errV s ≠ 0) : s = none := by cases s with | none => rfl | some x => exact absurd rfl h
theorem errV_eq {α : Type} {s : Option α} (h : errV s = 0) : ∃ x, s = some x := by cases s with | none => exact absurd (show (1 : Int) = 0 from h) (by decide) | some x => exact ⟨x, rfl⟩

theorem bytesN_len (n : Nat) (l : List Nat) : (bytesN n l).length ≤ 2 * l.length := by
  induction l with
  | nil => simp [bytesN]
  | cons a l ih =>
    have e : bytesN n (a :: l) = (if n = 2 then [a % 256, a / 256] else [a % 256]) ++ bytesN n l := rfl
    rw [e, List.length_append, List.length_cons]
    split <;> simp <;> omega
theorem bytes_step (n : Nat) {zs : List Int} {i x : Nat} (hz : zs[i]? = some (x : Int)) :
    bytesN n ((zs.take (i + 1)).map Int.toNat) = bytesN n ((zs.take i).map Int.toNat) ++ (if n = 2 then [x % 256, x / 256] else [x % 256]) := by
  rw [List.take_add_one, hz]
  simp [bytesN]
theorem rbytes_t {wb p nn : Nat} {zs : List Int} (hn : nn = wb / 8) (h : zs.all (inF (some (wb, p))) = true) : rbytes (some (wb, p)) zs = some (bytesN nn (zs.map Int.toNat)) := by subst hn; exact if_pos h
theorem rbytes_f {wb p : Nat} {zs : List Int} (h : zs.all (inF (some (wb, p))) = false) : rbytes (some (wb, p)) zs = none := if_neg (by rw [h]; simp)

/-- The numbers multiplied so far. -/
def mrun (o : Fq) (c : Int) (ws : List Nat) (i : Nat) : List Int := ((ws.take i).map fun (a : Nat) => gmul o c (a : Int)) ++ (ws.drop i).map fun (a : Nat) => (a : Int)
theorem mrun_len (o : Fq) (c : Int) (ws : List Nat) (i : Nat) : (mrun o c ws i).length = ws.length := by simp [mrun]; omega
theorem mrun_at {o : Fq} {c : Int} {ws : List Nat} {i a : Nat} (h : ws[i]? = some a) : (mrun o c ws i)[i]? = some (a : Int) := by
  have hl := (List.getElem?_eq_some_iff.1 h).1
  unfold mrun
  rw [List.getElem?_append_right (by simp; omega), List.getElem?_map, List.getElem?_drop]
  simp [Nat.min_eq_left (Nat.le_of_lt hl), h]
theorem mrun_step {o : Fq} {c : Int} {ws : List Nat} {i a : Nat} (h : ws[i]? = some a) : (mrun o c ws i).set i (gmul o c (a : Int)) = mrun o c ws (i + 1) := by
  obtain ⟨hl, ha⟩ := List.getElem?_eq_some_iff.1 h
  have e1 : ((ws.drop i).map fun (a : Nat) => (a : Int)) = (a : Int) :: (ws.drop (i + 1)).map fun (a : Nat) => (a : Int) := by rw [List.drop_eq_getElem_cons hl, ha]; rfl
  have e2 : ((ws.take (i + 1)).map fun (a : Nat) => gmul o c (a : Int)) = ((ws.take i).map fun (a : Nat) => gmul o c (a : Int)) ++ [gmul o c (a : Int)] := by rw [List.take_add_one, h]; simp
  unfold mrun
  rw [e1, e2, List.set_append_right _ _ (by simp; omega)]
  have : i - ((ws.take i).map fun (a : Nat) => gmul o c (a : Int)).length = 0 := by simp; omega
  rw [this, List.set_cons_zero, List.append_assoc]; rfl
theorem mrun_all (o : Fq) (c : Int) (ws : List Nat) : mrun o c ws ws.length = ws.map fun (a : Nat) => gmul o c (a : Int) := by simp [mrun]
theorem mrun_zero (o : Fq) (c : Int) (ws : List Nat) : zints (mrun o c ws 0) = ints ws := by rw [ints_zints]; simp [mrun]
theorem zints_set (l : List Int) (i : Nat) (z : Int) : (zints l).set i (.int .i64 z) = zints (l.set i z) := by simp [zints, List.map_set]
theorem wordsN_len (n : Nat) (bs : List Nat) : (wordsN n bs).length = bs.length / n := by simp [wordsN]
theorem rwords_len {o : Fq} {bs ws : List Nat} (h : rwords o bs = some ws) : ws.length ≤ bs.length := by
  cases o with
  | none => cases h
  | some q =>
    simp only [rwords] at h
    split at h
    · obtain rfl := Option.some.inj h; rw [wordsN_len]; exact Nat.div_le_self _ _
    · cases h
theorem rmul_none {o : Fq} {c : Int} {bs : List Nat} (h : rwords o bs = none ∨ inF o c = false) : rmul o c bs = none := by
  unfold rmul
  rcases h with h | h
  · rw [h]; rfl
  · cases rwords o bs with | none => rfl | some x => simp [h]
theorem rmul_some {o : Fq} {c : Int} {bs ws : List Nat} (h : rwords o bs = some ws) (hc : inF o c = true) : rmul o c bs = rbytes o (ws.map fun (a : Nat) => gmul o c (a : Int)) := by
  unfold rmul; rw [h]; simp [hc]

/-! ### rows of rows -/
def Rows2 (D : FD) (B M : Nat) (w : World) (vals : List Value) (bss : List (List Nat)) : Prop := vals.length = bss.length ∧ ∀ (j : Nat) (v : Value) (bs : List Nat), vals[j]? = some v → bss[j]? = some bs → Row D B M w v (byt bs)
theorem Rows2.st {D : FD} {B M : Nat} {w w' : World} {vals : List Value} {bss : List (List Nat)} (h : Rows2 D B M w vals bss) (hs : St D B w w') : Rows2 D B M w' vals bss := ⟨h.1, fun j v bs a b => (h.2 j v bs a b).st hs⟩
theorem Rows2.mb {D : FD} {B M : Nat} {b : Option Nat} {w w' : World} {vals : List Value} {bss : List (List Nat)} (h : Rows2 D B M w vals bss) (hm : Mb D B b w w') (hb : ∀ k, b = some k → M ≤ k) : Rows2 D B M w' vals bss := ⟨h.1, fun j v bs x y => (h.2 j v bs x y).mb hm hb⟩
theorem Rows2.mono {D : FD} {B M M' : Nat} {w : World} {vals : List Value} {bss : List (List Nat)} (h : Rows2 D B M w vals bss) (hM : M ≤ M') : Rows2 D B M' w vals bss := ⟨h.1, fun j v bs x y => (h.2 j v bs x y).mono hM⟩

def xorB (a b : List Nat) : List Nat := List.zipWith (· ^^^ ·) a b
def rsum : List (List Nat) → Option (List Nat)
  | [] => none
  | b0 :: r => if (b0 :: r).all (fun b => b.length == b0.length) = true then some ((b0 :: r).foldl xorB (List.replicate b0.length 0)) else none
theorem rsum_t {bss : List (List Nat)} {b0 : List Nat} (h0 : bss[0]? = some b0) (h : ∀ b ∈ bss, b.length = b0.length) : rsum bss = some (bss.foldl xorB (List.replicate b0.length 0)) := by
  cases bss with
  | nil => simp at h0
  | cons c r =>
    obtain rfl : c = b0 := by simpa using h0
    exact if_pos (by rw [List.all_eq_true]; intro b hb; simpa using h b hb)
theorem rsum_f {bss : List (List Nat)} {b0 b : List Nat} (h0 : bss[0]? = some b0) (hb : b ∈ bss) (h : b.length ≠ b0.length) : rsum bss = none := by
  cases bss with
  | nil => simp at h0
  | cons c r =>
    obtain rfl : c = b0 := by simpa using h0
    exact if_neg (by rw [List.all_eq_true]; intro hh; exact h (by simpa using hh b hb))
def xpart (a b : List Nat) (i : Nat) : List Nat := xorB (a.take i) (b.take i) ++ a.drop i
theorem xpart_zero (a b : List Nat) : xpart a b 0 = a := by simp [xpart, xorB]
theorem xorB_len {a b : List Nat} (h : a.length = b.length) : (xorB a b).length = a.length := by simp [xorB]; omega
theorem xpart_len {a b : List Nat} {i : Nat} (h : a.length = b.length) : (xpart a b i).length = a.length := by simp [xpart, xorB]; omega
theorem xpart_all {a b : List Nat} (h : a.length = b.length) : xpart a b a.length = xorB a b := by
  unfold xpart
  rw [List.take_length, h, List.take_length, ← h, List.drop_length, List.append_nil]
theorem xpart_at {a b : List Nat} {i x : Nat} (h : a.length = b.length) (hx : a[i]? = some x) : (xpart a b i)[i]? = some x := by
  have hl := (List.getElem?_eq_some_iff.1 hx).1
  unfold xpart
  rw [List.getElem?_append_right (by simp [xorB]; omega), List.getElem?_drop]
  have : i + (i - (xorB (a.take i) (b.take i)).length) = i := by simp [xorB]; omega
  rw [this]; exact hx
theorem xpart_step {a b : List Nat} {i x y : Nat} (h : a.length = b.length) (hx : a[i]? = some x) (hy : b[i]? = some y) : (xpart a b i).set i (x ^^^ y) = xpart a b (i + 1) := by
  obtain ⟨hl, ha⟩ := List.getElem?_eq_some_iff.1 hx
  have e : xorB (a.take (i + 1)) (b.take (i + 1)) = xorB (a.take i) (b.take i) ++ [x ^^^ y] := by
    unfold xorB
    rw [List.take_add_one, List.take_add_one, hx, hy, List.zipWith_append (by simp; omega)]
    rfl
  unfold xpart
  rw [e, List.set_append_right _ _ (by simp [xorB]; omega), List.drop_eq_getElem_cons hl]
  have : i - (xorB (a.take i) (b.take i)).length = 0 := by simp [xorB]; omega
  rw [this, List.set_cons_zero, List.append_assoc]; rfl
theorem xorB_lt {a b : List Nat} (ha : ∀ x ∈ a, x < 256) (hb : ∀ x ∈ b, x < 256) : ∀ x ∈ xorB a b, x < 256 := by
  intro x hx
  obtain ⟨i, hi⟩ := List.getElem?_of_mem hx
  unfold xorB at hi
  rw [List.getElem?_zipWith] at hi
  cases h1 : a[i]? with
  | none => rw [h1] at hi; cases hi
  | some u =>
    cases h2 : b[i]? with
    | none => rw [h1, h2] at hi; cases hi
    | some v =>
      rw [h1, h2] at hi
      obtain rfl := Option.some.inj hi
      exact Px.xor_lt (k := 8) (ha u (List.mem_of_getElem? h1)) (hb v (List.mem_of_getElem? h2))
theorem byt_set (l : List Nat) (i n : Nat) : (byt l).set i (.int .u8 (n : Int)) = byt (l.set i n) := by simp [byt, List.map_set]

/-! ### rows of the walk's own -/
def Owns2 (D : FD) (B N : Nat) (w : World) (E : TypeId) (vals : List Value) (bss : List (List Nat)) : Prop := vals.length = bss.length ∧ ∀ (j : Nat) (v : Value) (bs : List Nat), vals[j]? = some v → bss[j]? = some bs → ∃ b, Own D B N w E v b (byt bs)
theorem Owns2.st {D : FD} {B N : Nat} {w w' : World} {E : TypeId} {vals : List Value} {bss : List (List Nat)} (h : Owns2 D B N w E vals bss) (hE : E ≠ D.T) (hs : St D B w w') : Owns2 D B N w' E vals bss :=
  ⟨h.1, fun j v bs a b => let ⟨c, hc⟩ := h.2 j v bs a b; ⟨c, hc.st hE hs⟩⟩
theorem Owns2.mb0 {D : FD} {B N : Nat} {w w' : World} {E : TypeId} {vals : List Value} {bss : List (List Nat)} (h : Owns2 D B N w E vals bss) (hm : Mb D B none w w') : Owns2 D B N w' E vals bss :=
  ⟨h.1, fun j v bs a b => let ⟨c, hc⟩ := h.2 j v bs a b; ⟨c, hc.mb hm (fun _ _ => by simp)⟩⟩
theorem Owns2.mb {D : FD} {B N N' : Nat} {w w' : World} {E E' : TypeId} {vals : List Value} {bss : List (List Nat)} {v' : Value} {b' : Option Nat} {xs' : List Value} (h : Owns2 D B N w E vals bss) (ho : Own D B N' w E' v' b' xs') (hE : E ≠ E') (hm : Mb D B b' w w') : Owns2 D B N w' E vals bss :=
  ⟨h.1, fun j v bs a b => let ⟨c, hc⟩ := h.2 j v bs a b; ⟨c, hc.mb hm (hc.ne_type ho hE)⟩⟩
theorem Owns2.snoc {D : FD} {B N : Nat} {w : World} {E : TypeId} {vals : List Value} {bss : List (List Nat)} {v : Value} {b : Option Nat} {bs : List Nat} (h : Owns2 D B N w E vals bss) (ho : Own D B N w E v b (byt bs)) : Owns2 D B N w E (vals ++ [v]) (bss ++ [bs]) := by
  refine ⟨by simp [h.1], fun j u cs hu hc => ?_⟩
  by_cases hj : j < vals.length
  · rw [List.getElem?_append_left hj] at hu
    rw [List.getElem?_append_left (by rw [← h.1]; exact hj)] at hc
    exact h.2 j u cs hu hc
  · have e : j = vals.length := by
      have := (List.getElem?_eq_some_iff.1 hu).1
      simp at this; omega
    subst e
    simp at hu
    rw [h.1] at hc
    simp at hc
    subst hu; subst hc
    exact ⟨b, ho⟩
theorem Owns2.nil (D : FD) (B N : Nat) (w : World) (E : TypeId) : Owns2 D B N w E [] [] := ⟨rfl, fun j v bs a => by simp at a⟩
theorem Owns2.rows {D : FD} {B N : Nat} {w : World} {E : TypeId} {vals : List Value} {bss : List (List Nat)} (h : Owns2 D B N w E vals bss) (hE : E ≠ D.T) : Rows2 D B w.heap.size w vals bss :=
  ⟨h.1, fun j v bs a b => let ⟨_, hc⟩ := h.2 j v bs a b; hc.row hE⟩
theorem Owns2.le {D : FD} {B N N' : Nat} {w : World} {E : TypeId} {vals : List Value} {bss : List (List Nat)} (h : Owns2 D B N w E vals bss) (hN : N' ≤ N) : Owns2 D B N' w E vals bss :=
  ⟨h.1, fun j v bs a b => let ⟨c, hc⟩ := h.2 j v bs a b; ⟨c, hc.le hN⟩⟩

/-! ### each row times its number -/
def rmuls (o : Fq) : List Int → List (List Nat) → Option (List (List Nat))
  | c :: cs, b :: bs => (rmul o c b).bind fun x => (rmuls o cs bs).map fun xs => x :: xs
  | _, _ => some []
def rdot (o : Fq) (cs : List Int) (bss : List (List Nat)) : Option (List Nat) := if cs.length = bss.length ∧ cs.length ≠ 0 then (rmuls o cs bss).bind rsum else none
theorem rmuls_snoc {o : Fq} {c : Int} {b : List Nat} : ∀ {cs : List Int} {bss xs : List (List Nat)}, cs.length = bss.length → rmuls o cs bss = some xs → rmuls o (cs ++ [c]) (bss ++ [b]) = (rmul o c b).map fun x => xs ++ [x]
  | [], [], xs, _, h => by
    obtain rfl : [] = xs := Option.some.inj h
    simp only [List.nil_append, rmuls]
    cases rmul o c b <;> rfl
  | c' :: cs, b' :: bs, xs, hl, h => by
    simp only [rmuls] at h
    cases h1 : rmul o c' b' with
    | none => rw [h1] at h; cases h
    | some x =>
      rw [h1] at h
      cases h2 : rmuls o cs bs with
      | none => rw [h2] at h; cases h
      | some ys =>
        rw [h2] at h
        obtain rfl : x :: ys = xs := Option.some.inj h
        simp only [List.cons_append, rmuls, h1]
        rw [Option.bind_some, rmuls_snoc (by simpa using hl) h2]
        cases rmul o c b <;> rfl
  | [], _ :: _, _, hl, _ => by simp at hl
  | _ :: _, [], _, hl, _ => by simp at hl
theorem rmuls_none {o : Fq} {c : Int} {b : List Nat} : ∀ {cs : List Int} {bss : List (List Nat)} {r : Nat}, cs[r]? = some c → bss[r]? = some b → rmul o c b = none → rmuls o cs bss = none
  | [], _, _, h, _, _ => by simp at h
  | _ :: _, [], _, _, h, _ => by simp at h
  | c' :: cs, b' :: bs, 0, h1, h2, h => by
    simp at h1 h2; subst h1; subst h2
    simp [rmuls, h]
  | c' :: cs, b' :: bs, r + 1, h1, h2, h => by
    simp at h1 h2
    simp only [rmuls, rmuls_none h1 h2 h]
    cases rmul o c' b' <;> rfl
theorem rmuls_step {o : Fq} {cs : List Int} {bss xs : List (List Nat)} {r : Nat} {b x : List Nat} {ci : Int} (hl : cs.length = bss.length) (h : rmuls o (cs.take r) (bss.take r) = some xs) (hc : cs[r]? = some ci) (hb : bss[r]? = some b) (hx : rmul o ci b = some x) :
    rmuls o (cs.take (r + 1)) (bss.take (r + 1)) = some (xs ++ [x]) := by
  rw [List.take_add_one, List.take_add_one, hc, hb]
  show rmuls o (cs.take r ++ [ci]) (bss.take r ++ [b]) = _
  rw [rmuls_snoc (by simp; omega) h, hx]; rfl
theorem rbytes_props {o : Fq} {zs : List Int} {xs : List Nat} (hs : fsz o ≤ 65536) (h : rbytes o zs = some xs) : (∀ x ∈ xs, x < 256) ∧ xs.length ≤ 2 * zs.length := by
  cases o with
  | none => cases h
  | some q =>
    simp only [rbytes] at h
    split at h
    · rename_i hall
      obtain rfl := Option.some.inj h
      refine ⟨fun x hx => ?_, by have := bytesN_len (q.1 / 8) (zs.map Int.toNat); simpa using this⟩
      obtain ⟨a, ha, hxa⟩ := List.mem_flatMap.1 hx
      obtain ⟨z, hz, rfl⟩ := List.mem_map.1 ha
      have hin := List.all_eq_true.1 hall z hz
      have hr : 0 ≤ z ∧ z < ((fsz (some q) : Nat) : Int) := of_decide_eq_true hin
      split at hxa
      · simp at hxa; rcases hxa with rfl | rfl <;> omega
      · simp at hxa; omega
    · cases h
theorem rmul_props {o : Fq} {c : Int} {bs xs : List Nat} (hs : fsz o ≤ 65536) (h : rmul o c bs = some xs) : (∀ x ∈ xs, x < 256) ∧ xs.length ≤ 2 * bs.length := by
  unfold rmul at h
  cases hw : rwords o bs with
  | none => rw [hw] at h; cases h
  | some ws =>
    rw [hw] at h
    simp only [Option.bind_some] at h
    split at h
    · have := rbytes_props hs h
      have hl := rwords_len hw
      exact ⟨this.1, by have := this.2; simp at this; omega⟩
    · cases h
theorem rdot_none1 {o : Fq} {cs : List Int} {bss : List (List Nat)} (h : cs.length ≠ bss.length ∨ cs.length = 0) : rdot o cs bss = none := if_neg (by rintro ⟨h1, h2⟩; rcases h with h | h; exact h h1; exact h2 h)
theorem rdot_none2 {o : Fq} {cs : List Int} {bss : List (List Nat)} (h : rmuls o cs bss = none) : rdot o cs bss = none := by unfold rdot; rw [h]; split <;> rfl
theorem rdot_some {o : Fq} {cs : List Int} {bss xs : List (List Nat)} (hl : cs.length = bss.length) (h0 : cs.length ≠ 0) (h : rmuls o cs bss = some xs) : rdot o cs bss = rsum xs := by unfold rdot; rw [if_pos ⟨hl, h0⟩, h]; rfl

/-- The number at place j. -/
def wv (n : Nat) (bs : List Nat) (j : Nat) : Nat := if n = 2 then bs.getD (2 * j) 0 + 256 * bs.getD (2 * j + 1) 0 else bs.getD j 0
theorem wordsN_eq (n : Nat) (bs : List Nat) : wordsN n bs = (List.range (bs.length / n)).map (wv n bs) := rfl
theorem wv_snoc (n : Nat) (bs : List Nat) (j : Nat) : (List.range (j + 1)).map (wv n bs) = (List.range j).map (wv n bs) ++ [wv n bs j] := by rw [List.range_succ, List.map_append]; rfl
theorem wstep_lt {n i j len : Nat} (hn : n = 1 ∨ n = 2) (hi : i = n * j) (h : i + n ≤ len) : j < len / n ∧ i + n = n * (j + 1) := by
  rcases hn with rfl | rfl <;> omega
theorem wstep_end {n i j len : Nat} (hn : n = 1 ∨ n = 2) (hi : i = n * j) (h : ¬ i + n ≤ len) (hj : j ≤ len / n) : j = len / n := by
  rcases hn with rfl | rfl <;> omega
theorem wv_one {n : Nat} {bs : List Nat} {i j c : Nat} (hn : n = 1) (hi : i = n * j) (hc : bs[i]? = some c) : wv n bs j = c := by
  subst hn
  unfold wv
  rw [if_neg (by decide), List.getD_eq_getElem?_getD, show j = i by omega, hc]; rfl
theorem wv_two {n : Nat} {bs : List Nat} {i j c d : Nat} (hn : n = 2) (hi : i = n * j) (hc : bs[i]? = some c) (hd : bs[i + 1]? = some d) : wv n bs j = c + 256 * d := by
  subst hn
  unfold wv
  rw [if_pos rfl, List.getD_eq_getElem?_getD, List.getD_eq_getElem?_getD, show 2 * j = i by omega, hc, hd]; rfl

theorem gmuls_snoc {o : Fq} {c : Int} {ws : List Nat} {i a : Nat} (h : ws[i]? = some a) : ((ws.take (i + 1)).map fun (a : Nat) => gmul o c (a : Int)) = ((ws.take i).map fun (a : Nat) => gmul o c (a : Int)) ++ [gmul o c (a : Int)] := by rw [List.take_add_one, h]; simp
theorem zints_snoc (l : List Int) (z : Int) : zints (l ++ [z]) = zints l ++ [.int .i64 z] := by simp [zints]
theorem wordsN_rw {wb p : Nat} {bs : List Nat} (h : decide (bs.length % (wb / 8) = 0) = true) : rwords (some (wb, p)) bs = some (wordsN (wb / 8) bs) := rwords_t rfl (of_decide_eq_true h)
theorem wordsN_no {wb p : Nat} {bs : List Nat} (h : decide (bs.length % (wb / 8) = 0) = false) : rwords (some (wb, p)) bs = none := rwords_f rfl (of_decide_eq_false h)
theorem mk_M {D : FD} {B : Nat} {w0 w1 : World} {v : Value} {xs : List Value} (hL : Row D B w1.heap.size w1 v xs) (hs : w0.heap.size ≤ w1.heap.size) : ∃ M2, Row D B M2 w1 v xs ∧ w0.heap.size ≤ M2 ∧ M2 ≤ w1.heap.size := ⟨_, hL, hs, Nat.le_refl _⟩
theorem xorB_snoc {a b : List Nat} {i x y : Nat} (hx : a[i]? = some x) (hy : b[i]? = some y) : xorB (a.take (i + 1)) (b.take (i + 1)) = xorB (a.take i) (b.take i) ++ [x ^^^ y] := by
  have h1 := (List.getElem?_eq_some_iff.1 hx).1
  have h2 := (List.getElem?_eq_some_iff.1 hy).1
  unfold xorB
  rw [List.take_add_one, List.take_add_one, hx, hy, List.zipWith_append (by simp; omega)]
  rfl

/-! ### the sum, one row behind the other -/
theorem bytesN_len1 (l : List Nat) : (bytesN 1 l).length = l.length := by
  induction l with
  | nil => rfl
  | cons a l ih =>
    have e : bytesN 1 (a :: l) = [a % 256] ++ bytesN 1 l := rfl
    rw [e, List.length_append, ih]; simp; omega
theorem bytesN_len2 (l : List Nat) : (bytesN 2 l).length = 2 * l.length := by
  induction l with
  | nil => rfl
  | cons a l ih =>
    have e : bytesN 2 (a :: l) = [a % 256, a / 256] ++ bytesN 2 l := rfl
    rw [e, List.length_append, ih]; simp; omega
theorem rmul_len {wb p : Nat} (hw : wb = 8 ∨ wb = 16) {c : Int} {bs xs : List Nat} (h : rmul (some (wb, p)) c bs = some xs) : xs.length = bs.length := by
  unfold rmul at h
  simp only [rwords] at h
  split at h
  · rename_i hd
    simp only [Option.bind_some] at h
    split at h
    · simp only [rbytes] at h
      split at h
      · obtain rfl := Option.some.inj h
        rcases hw with rfl | rfl
        · rw [show 8 / 8 = 1 from rfl, bytesN_len1]; simp [wordsN_len]
        · rw [show 16 / 8 = 2 from rfl, bytesN_len2]
          simp only [List.length_map, wordsN_len] at hd ⊢
          omega
      · cases h
    · cases h
  · cases h
theorem xorB_zero (x : List Nat) : xorB (List.replicate x.length 0) x = x := by
  induction x with
  | nil => rfl
  | cons a x ih =>
    show (0 ^^^ a) :: xorB (List.replicate x.length 0) x = a :: x
    rw [ih, Nat.zero_xor]
theorem foldl_len {L : Nat} : ∀ (xs : List (List Nat)) (a : List Nat), a.length = L → (∀ x ∈ xs, x.length = L) → (xs.foldl xorB a).length = L
  | [], a, ha, _ => ha
  | x :: xs, a, ha, h => foldl_len xs _ (by rw [xorB_len (by rw [ha, h x (by simp)])]; exact ha) (fun y hy => h y (by simp [hy]))
theorem foldl_lt : ∀ (xs : List (List Nat)) (a : List Nat), (∀ u ∈ a, u < 256) → (∀ x ∈ xs, ∀ u ∈ x, u < 256) → ∀ u ∈ xs.foldl xorB a, u < 256
  | [], a, ha, _ => ha
  | x :: xs, a, ha, h => foldl_lt xs _ (xorB_lt ha (h x (by simp))) (fun y hy => h y (by simp [hy]))
theorem rmuls_mem {o : Fq} : ∀ {cs : List Int} {bss xs : List (List Nat)}, rmuls o cs bss = some xs → ∀ (j : Nat) (b : List Nat) (c : Int), bss[j]? = some b → cs[j]? = some c → ∃ x, rmul o c b = some x ∧ x ∈ xs
  | [], _, _, _, j, _, _, _, hc => by simp at hc
  | _ :: _, [], _, _, j, _, _, hb, _ => by simp at hb
  | c' :: cs, b' :: bs, xs, h, j, b, c, hb, hc => by
    simp only [rmuls] at h
    cases h1 : rmul o c' b' with
    | none => rw [h1] at h; cases h
    | some x =>
      rw [h1] at h
      cases h2 : rmuls o cs bs with
      | none => rw [h2] at h; cases h
      | some ys =>
        rw [h2] at h
        obtain rfl : x :: ys = xs := Option.some.inj h
        cases j with
        | zero =>
          simp at hb hc; subst hb; subst hc
          exact ⟨x, h1, by simp⟩
        | succ j =>
          simp at hb hc
          obtain ⟨z, h3, h4⟩ := rmuls_mem h2 j b c hb hc
          exact ⟨z, h3, by simp [h4]⟩
theorem rmuls_head {o : Fq} {cs : List Int} {bss xs : List (List Nat)} (h : rmuls o cs bss = some xs) {b : List Nat} {c : Int} (hb : bss[0]? = some b) (hc : cs[0]? = some c) : ∃ x, rmul o c b = some x ∧ xs[0]? = some x := by
  match cs, bss, hb, hc with
  | c' :: cs, b' :: bs, hb, hc =>
    simp at hb hc; subst hb; subst hc
    simp only [rmuls] at h
    cases h1 : rmul o c' b' with
    | none => rw [h1] at h; cases h
    | some x =>
      rw [h1] at h
      cases h2 : rmuls o cs bs with
      | none => rw [h2] at h; cases h
      | some ys =>
        rw [h2] at h
        obtain rfl : x :: ys = xs := Option.some.inj h
        exact ⟨x, rfl, rfl⟩
/-- Rows of unlike lengths have no sum. -/
theorem rdot_unlike {wb p : Nat} (hw : wb = 8 ∨ wb = 16) {cs : List Int} {bss : List (List Nat)} {b0 b : List Nat} {c0 c : Int} {j : Nat} (h0 : bss[0]? = some b0) (hc0 : cs[0]? = some c0) (hb : bss[j]? = some b) (hc : cs[j]? = some c) (hne : b.length ≠ b0.length) : rdot (some (wb, p)) cs bss = none := by
  cases h : rmuls (some (wb, p)) cs bss with
  | none => exact rdot_none2 h
  | some xs =>
    obtain ⟨x0, h1, h2⟩ := rmuls_head h h0 hc0
    obtain ⟨x, h3, h4⟩ := rmuls_mem h j b c hb hc
    unfold rdot
    split
    · rw [h]
      exact rsum_f h2 h4 (by rw [rmul_len hw h3, rmul_len hw h1]; exact hne)
    · rfl
def u16s (l : List Nat) : List Value := l.map fun (n : Nat) => Value.int .u16 (n : Int)
@[simp] theorem u16s_length (l : List Nat) : (u16s l).length = l.length := by simp [u16s]
theorem u16s_at {l : List Nat} {i n : Nat} (h : l[i]? = some n) : (u16s l)[i]? = some (.int .u16 (n : Int)) := by simp [u16s, h]
def fq (b : Bool) : Nat × Nat := bif b then (16, 69643) else (8, 285)
end Go.Gam

/- Arguments opened: rows, rows of rows. No program in sight. -/
set_option linter.unusedVariables false
set_option linter.unusedSimpArgs false
namespace Go.Gam
open Go Go.ChangeShapes Go.WideShapes Go.ChangeAt Go.RowKit

section
variable {H : Type} {enc : TypeId × Value → H} {P : Program} {w : World} {base : Nat} {held : Bool} {D : FD}

theorem cell_spot {w : World} {a : Addr} {v : Value} (h : w.cell? a = some v) : a = ⟨a.block, a.off, none⟩ ∧ a.block < w.heap.size := by
  unfold World.cell? at h
  split at h
  · rename_i c e fr hc
    split at h
    · cases h
    · rename_i hs
      obtain ⟨b, o, s⟩ := a
      cases s with
      | none => exact ⟨rfl, heap_lt hc⟩
      | some x => simp at hs
  · cases h

theorem row_mk {a : Addr} {len cap : Nat} {f : Nat → Value} (hl : len ≤ cap) (hc : ∀ i, i < cap → w.cell? (a.add i) = some (f i)) : Row D w.heap.size w.heap.size w (.slice (some a) len cap) ((List.range len).map f) := by
  by_cases h0 : len = 0
  · subst h0; exact .inl ⟨_, _, rfl, rfl⟩
  · have h1 := hc 0 (by omega)
    have e0 : a.add 0 = a := by simp [Addr.add]
    rw [e0] at h1
    obtain ⟨h2, h3⟩ := cell_spot h1
    refine .inr ⟨a.block, a.off, cap, by rw [← h2]; simp, by simpa using hl, h3, .inl h3, h3, fun i u hu => ?_⟩
    have hi := (List.getElem?_eq_some_iff.1 hu).1
    simp at hi
    have h4 := hc i (by omega)
    rw [h2, Addr.add_eq] at h4
    rw [h4]
    simp [hi] at hu
    rw [hu]

theorem zrow_c {t e : TypeId} {k : IntKind} {fuel : Nat} {v : Value} {x : DataW H × List MemPlace} (ht : P.underlying t = some (.slice e)) (he : P.underlying e = some (.int k)) (hc : P.cellsOf e = 1)
    (h : DataW.trod enc P w base (fun _ => true) held fuel t [v] = some x) :
    ∃ sa cap, ∃ zs : List Int, v = .slice sa zs.length cap ∧ Row D w.heap.size w.heap.size w v (zs.map (Value.int k)) ∧ (∀ z ∈ zs, (Lit.int k z).wf = true) ∧ zs.length ≤ maxLen := by
  rcases open_ints ht he hc h with ⟨hcs, _⟩ | ⟨a, len, cap, zs, hcs, _, hl, hm, hz, _, hcell, hwf⟩
  · obtain rfl : v = .slice none 0 0 := by simpa using hcs
    exact ⟨none, 0, [], rfl, .inl ⟨_, _, rfl, rfl⟩, by simp, by simp⟩
  · obtain rfl : v = .slice (some a) len cap := by simpa using hcs
    simp only [if_true] at hz
    have hlen : (zs.take len).length = len := by simp; omega
    refine ⟨some a, cap, zs.take len, by rw [hlen], ?_, fun z hz' => hwf z (List.mem_of_mem_take hz'), by rw [hlen]; omega⟩
    have := row_mk (D := D) (w := w) (a := a) (len := len) (cap := cap) (f := fun i => .int k (zs.getD i 0)) hl (fun i hi => hcell i (by omega))
    have e : (zs.take len).map (Value.int k) = (List.range len).map fun i => Value.int k (zs.getD i 0) := by
      apply List.ext_getElem
      · simp; omega
      · intro i h1 h2
        simp at h1 h2
        simp [List.getElem?_eq_getElem (show i < zs.length by omega)]
    rw [e]; exact this

theorem slice_cells {t e : TypeId} {r : Reach} {b0 : Nat} {v : Value} (ht : P.underlying t = some (.slice e)) (hval : Value.okWide P w r b0 t v) : v.cells.toList = [v] := by
  obtain ⟨a, len, cap, rfl⟩ := okWide_slice ht hval
  rfl

theorem open_zrow {r : Reach} {b0 : Nat} {t e : TypeId} {k : IntKind} {v : Value} {d : DataW H} {ps : List MemPlace} (ht : P.underlying t = some (.slice e)) (he : P.underlying e = some (.int k)) (hc : P.cellsOf e = 1)
    (hval : Value.okWide P w r b0 t v) (hd : DataW.Trod enc P w base (fun _ => true) held t v d ps) :
    ∃ sa cap, ∃ zs : List Int, v = .slice sa zs.length cap ∧ Row D w.heap.size w.heap.size w v (zs.map (Value.int k)) ∧ (∀ z ∈ zs, (Lit.int k z).wf = true) ∧ zs.length ≤ maxLen := by
  obtain ⟨fuel, hf⟩ := hd
  rw [slice_cells ht hval] at hf
  exact zrow_c ht he hc hf

theorem open_byt {r : Reach} {b0 : Nat} {t e : TypeId} {v : Value} {d : DataW H} {ps : List MemPlace} (ht : P.underlying t = some (.slice e)) (he : P.underlying e = some (.int .u8)) (hc : P.cellsOf e = 1)
    (hval : Value.okWide P w r b0 t v) (hd : DataW.Trod enc P w base (fun _ => true) held t v d ps) :
    ∃ sa cap, ∃ l : List Nat, v = .slice sa l.length cap ∧ Row D w.heap.size w.heap.size w v (byt l) ∧ (∀ x ∈ l, x < 256) ∧ l.length ≤ maxLen := by
  obtain ⟨sa, cap, zs, h1, h2, h3, h4⟩ := open_zrow (D := D) ht he hc hval hd
  have hb : ∀ z ∈ zs, 0 ≤ z ∧ z < 256 := fun z hz => by have := bounds_u8 (h3 z hz); omega
  have e : zs.map (Value.int .u8) = byt (zs.map Int.toNat) := by
    unfold byt
    rw [List.map_map]
    refine List.map_congr_left fun z hz => ?_
    have := hb z hz
    show Value.int .u8 z = Value.int .u8 ((z.toNat : Nat) : Int)
    congr 1; omega
  refine ⟨sa, cap, zs.map Int.toNat, by simpa using h1, by rw [← e]; exact h2, fun x hx => ?_, by simpa using h4⟩
  obtain ⟨z, hz, rfl⟩ := List.mem_map.1 hx
  have := hb z hz
  omega

theorem u16_list {zs : List Int} (h : ∀ z ∈ zs, (Lit.int .u16 z).wf = true) : ∃ l : List Nat, zs.map (Value.int .u16) = l.map (fun (n : Nat) => Value.int .u16 (n : Int)) ∧ l.length = zs.length ∧ ∀ x ∈ l, x < 65536 := by
  have hb : ∀ z ∈ zs, 0 ≤ z ∧ z < 65536 := fun z hz => by have := bounds_u16 (h z hz); omega
  refine ⟨zs.map Int.toNat, ?_, by simp, fun x hx => ?_⟩
  · rw [List.map_map]
    refine List.map_congr_left fun z hz => ?_
    have := hb z hz
    show Value.int .u16 z = Value.int .u16 ((z.toNat : Nat) : Int)
    congr 1; omega
  · obtain ⟨z, hz, rfl⟩ := List.mem_map.1 hx
    have := hb z hz
    omega

theorem open_u16 {r : Reach} {b0 : Nat} {t e : TypeId} {v : Value} {d : DataW H} {ps : List MemPlace} (ht : P.underlying t = some (.slice e)) (he : P.underlying e = some (.int .u16)) (hc : P.cellsOf e = 1)
    (hval : Value.okWide P w r b0 t v) (hd : DataW.Trod enc P w base (fun _ => true) held t v d ps) :
    ∃ sa cap, ∃ l : List Nat, v = .slice sa l.length cap ∧ Row D w.heap.size w.heap.size w v (u16s l) ∧ (∀ x ∈ l, x < 65536) ∧ l.length ≤ maxLen := by
  obtain ⟨sa, cap, zs, h1, h2, h3, h4⟩ := open_zrow (D := D) ht he hc hval hd
  obtain ⟨l, e1, e2, e3⟩ := u16_list h3
  exact ⟨sa, cap, l, by rw [e2]; exact h1, by unfold u16s; rw [← e1]; exact h2, e3, by omega⟩

/-- Rows of rows. -/
def RowsV (D : FD) (B M : Nat) (w : World) (vals : List Value) (xss : List (List Value)) : Prop := vals.length = xss.length ∧ ∀ (j : Nat) (v : Value) (xs : List Value), vals[j]? = some v → xss[j]? = some xs → Row D B M w v xs

theorem rows_c {t e q : TypeId} {k : IntKind} {fuel : Nat} {v : Value} {x : DataW H × List MemPlace} (ht : P.underlying t = some (.slice e)) (he : P.underlying e = some (.slice q)) (hq : P.underlying q = some (.int k)) (ce : P.cellsOf e = 1) (cq : P.cellsOf q = 1)
    (h : DataW.trod enc P w base (fun _ => true) held fuel t [v] = some x) :
    ∃ sa cap vals, ∃ zss : List (List Int), v = .slice sa vals.length cap ∧ Row D w.heap.size w.heap.size w v vals ∧ RowsV D w.heap.size w.heap.size w vals (zss.map fun zs => zs.map (Value.int k)) ∧ (∀ zs ∈ zss, (∀ z ∈ zs, (Lit.int k z).wf = true) ∧ zs.length ≤ maxLen) ∧ vals.length ≤ maxLen := by
  rcases Deep.open_int_rows ht he hq ce cq h with ⟨hcs, _⟩ | ⟨a, len, cap, A, L, C, Z, hcs, _, hl, hm, _, hr⟩
  · obtain rfl : v = .slice none 0 0 := by simpa using hcs
    exact ⟨none, 0, [], [], rfl, .inl ⟨_, _, rfl, rfl⟩, ⟨rfl, fun j v xs h => by simp at h⟩, by simp, by simp⟩
  · obtain rfl : v = .slice (some a) len cap := by simpa using hcs
    have hrow := row_mk (D := D) (w := w) (a := a) (len := len) (cap := cap) (f := fun r => .slice (A r) (L r) (C r)) hl (fun i hi => (hr i hi).1)
    have key : ∀ r, r < cap → Row D w.heap.size w.heap.size w (.slice (A r) (L r) (C r)) (((Z r).take (L r)).map (Value.int k)) ∧ (((Z r).take (L r)).length = L r) := by
      intro r hr0
      obtain ⟨_, h2, h3, h4, h5, h6, h7⟩ := hr r hr0
      have hlen : ((Z r).take (L r)).length = L r := by simp; omega
      refine ⟨?_, hlen⟩
      cases hA : A r with
      | none =>
        have := h6 hA
        have : L r = 0 := by omega
        exact .inl ⟨_, _, by rw [this], by apply List.eq_nil_of_length_eq_zero; simp [this]⟩
      | some a' =>
        obtain ⟨_, h8⟩ := h7 a' hA
        have := row_mk (D := D) (w := w) (a := a') (len := L r) (cap := C r) (f := fun i => .int k ((Z r).getD i 0)) h2 h8
        have e : ((Z r).take (L r)).map (Value.int k) = (List.range (L r)).map fun i => Value.int k ((Z r).getD i 0) := by
          apply List.ext_getElem
          · simp; omega
          · intro i h1 h2'
            simp at h1 h2'
            simp [List.getElem?_eq_getElem (show i < (Z r).length by omega)]
        rw [e]; exact this
    refine ⟨some a, cap, (List.range len).map fun r => .slice (A r) (L r) (C r), (List.range len).map fun r => (Z r).take (L r), by simp, hrow, ⟨by simp, fun j v xs hv hx => ?_⟩, fun zs hz => ?_, by simp; omega⟩
    · have hj := (List.getElem?_eq_some_iff.1 hv).1
      simp at hj
      simp [hj] at hv hx
      subst hv
      subst hx
      have := (key j (by omega)).1
      rw [List.map_take] at this
      exact this
    · obtain ⟨r, hr', rfl⟩ := List.mem_map.1 hz
      have hr0 := List.mem_range.1 hr'
      obtain ⟨_, h2, h3, h4, h5, h6, h7⟩ := hr r (by omega)
      exact ⟨fun z hz => h5 z (List.mem_of_mem_take hz), by rw [(key r (by omega)).2]; omega⟩

theorem open_rows {r : Reach} {b0 : Nat} {t e q : TypeId} {k : IntKind} {v : Value} {d : DataW H} {ps : List MemPlace} (ht : P.underlying t = some (.slice e)) (he : P.underlying e = some (.slice q)) (hq : P.underlying q = some (.int k)) (ce : P.cellsOf e = 1) (cq : P.cellsOf q = 1)
    (hval : Value.okWide P w r b0 t v) (hd : DataW.Trod enc P w base (fun _ => true) held t v d ps) :
    ∃ sa cap vals, ∃ zss : List (List Int), v = .slice sa vals.length cap ∧ Row D w.heap.size w.heap.size w v vals ∧ RowsV D w.heap.size w.heap.size w vals (zss.map fun zs => zs.map (Value.int k)) ∧ (∀ zs ∈ zss, (∀ z ∈ zs, (Lit.int k z).wf = true) ∧ zs.length ≤ maxLen) ∧ vals.length ≤ maxLen := by
  obtain ⟨fuel, hf⟩ := hd
  rw [slice_cells ht hval] at hf
  exact rows_c ht he hq ce cq hf

/-- Rows of bytes. -/
theorem rows_byt {B M : Nat} {vals : List Value} {zss : List (List Int)} (h : RowsV D B M w vals (zss.map fun zs => zs.map (Value.int .u8))) (hw : ∀ zs ∈ zss, (∀ z ∈ zs, (Lit.int .u8 z).wf = true) ∧ zs.length ≤ maxLen) :
    ∃ bss : List (List Nat), Rows2 D B M w vals bss ∧ (∀ b ∈ bss, ∀ x ∈ b, x < 256) ∧ ∀ b ∈ bss, b.length ≤ maxLen := by
  refine ⟨zss.map fun zs => zs.map Int.toNat, ⟨by simpa using h.1, fun j v bs hv hb => ?_⟩, fun b hb x hx => ?_, fun b hb => ?_⟩
  · rw [List.getElem?_map] at hb
    cases hz : zss[j]? with
    | none => rw [hz] at hb; cases hb
    | some zs =>
      rw [hz] at hb
      obtain rfl := Option.some.inj hb
      have := h.2 j v (zs.map (Value.int .u8)) hv (by rw [List.getElem?_map, hz]; rfl)
      have hb : ∀ z ∈ zs, 0 ≤ z ∧ z < 256 := fun z hz' => by have := bounds_u8 ((hw zs (List.mem_of_getElem? hz)).1 z hz'); omega
      have e : zs.map (Value.int .u8) = byt (zs.map Int.toNat) := by
        unfold byt
        rw [List.map_map]
        refine List.map_congr_left fun z hz => ?_
        have := hb z hz
        show Value.int .u8 z = Value.int .u8 ((z.toNat : Nat) : Int)
        congr 1; omega
      rw [e] at this
      exact this
  · obtain ⟨zs, hz, rfl⟩ := List.mem_map.1 hb
    obtain ⟨z, hz', rfl⟩ := List.mem_map.1 hx
    have := bounds_u8 ((hw zs hz).1 z hz')
    omega
  · obtain ⟨zs, hz, rfl⟩ := List.mem_map.1 hb
    simpa using (hw zs hz).2
end
end Go.Gam

/- The walks of package poly: each function returns what the plain function on numbers tells. -/
set_option linter.unusedVariables false
set_option linter.unusedSimpArgs false
namespace Go.Proofs.Ytkoiolamnnmokaa
open Go Go.Gam


namespace FxFPoly
theorem en35 : Ent Try.prog 35 := ent Try.func35 (by kernel_rfl) (by kernel_rfl)
theorem en40 : Ent Try.prog 40 := ent Try.func40 (by kernel_rfl) (by kernel_rfl)
theorem en47 : Ent Try.prog 47 := ent Try.func47 (by kernel_rfl) (by kernel_rfl)
theorem en48 : Ent Try.prog 48 := ent Try.func48 (by kernel_rfl) (by kernel_rfl)
theorem en49 : Ent Try.prog 49 := ent Try.func49 (by kernel_rfl) (by kernel_rfl)
theorem en50 : Ent Try.prog 50 := ent Try.func50 (by kernel_rfl) (by kernel_rfl)
theorem en51 : Ent Try.prog 51 := ent Try.func51 (by kernel_rfl) (by kernel_rfl)
theorem en52 : Ent Try.prog 52 := ent Try.func52 (by kernel_rfl) (by kernel_rfl)
theorem en65 : Ent Try.prog 65 := ent Try.func65 (by kernel_rfl) (by kernel_rfl)
theorem en66 : Ent Try.prog 66 := ent Try.func66 (by kernel_rfl) (by kernel_rfl)
theorem en67 : Ent Try.prog 67 := ent Try.func67 (by kernel_rfl) (by kernel_rfl)
theorem en68 : Ent Try.prog 68 := ent Try.func68 (by kernel_rfl) (by kernel_rfl)
theorem sc3 : Scalar Try.prog 3 := ⟨_, Try.underlying3, by simp, by simp⟩
theorem sc34 : Scalar Try.prog 34 := ⟨_, Try.underlying34, by simp, by simp⟩
theorem sl23 : Sl Try.prog 23 3 (.int .i64 0) 8 := sl_of Try.underlying23 rfl (by kernel_rfl)
end FxFPoly
open FxFPoly

/-- The field's type and the type of whole numbers in this program. -/
def FDx : FD := ⟨66, 3, by decide⟩

def len8 : List UInt8 := [0, 1, 2, 2, 3, 3, 3, 3, 4, 4, 4, 4, 4, 4, 4, 4, 5, 5, 5, 5, 5, 5, 5, 5, 5, 5, 5, 5, 5, 5, 5, 5, 6, 6, 6, 6, 6, 6, 6, 6, 6, 6, 6, 6, 6, 6, 6, 6, 6, 6, 6, 6, 6, 6, 6, 6, 6, 6, 6, 6, 6, 6, 6, 6, 7, 7, 7, 7, 7, 7, 7, 7, 7, 7, 7, 7, 7, 7, 7, 7, 7, 7, 7, 7, 7, 7, 7, 7, 7, 7, 7, 7, 7, 7, 7, 7, 7, 7, 7, 7, 7, 7, 7, 7, 7, 7, 7, 7, 7, 7, 7, 7, 7, 7, 7, 7, 7, 7, 7, 7, 7, 7, 7, 7, 7, 7, 7, 7, 8, 8, 8, 8, 8, 8, 8, 8, 8, 8, 8, 8, 8, 8, 8, 8, 8, 8, 8, 8, 8, 8, 8, 8, 8, 8, 8, 8, 8, 8, 8, 8, 8, 8, 8, 8, 8, 8, 8, 8, 8, 8, 8, 8, 8, 8, 8, 8, 8, 8, 8, 8, 8, 8, 8, 8, 8, 8, 8, 8, 8, 8, 8, 8, 8, 8, 8, 8, 8, 8, 8, 8, 8, 8, 8, 8, 8, 8, 8, 8, 8, 8, 8, 8, 8, 8, 8, 8, 8, 8, 8, 8, 8, 8, 8, 8, 8, 8, 8, 8, 8, 8, 8, 8, 8, 8, 8, 8, 8, 8, 8, 8, 8, 8, 8, 8, 8, 8, 8, 8, 8, 8, 8, 8, 8, 8, 8, 8]
theorem len8_eq : len8 = (List.range 256).map fun n => UInt8.ofNat (blen n) := by decide +kernel
theorem len8_at {x : Nat} (h : x < 256) : len8[x]? = some (UInt8.ofNat (blen x)) := by rw [len8_eq]; exact blen_table x h

set_option maxRecDepth 100000 in
set_option maxHeartbeats 1000000 in
theorem Len64_ok (B X : Nat) (w : World) (hI : Inv FDx B w) (hX : X < 18446744073709551616) : Ret Try.prog 47 [.int .u64 (X : Int)] w fun v w' => v = .int .i64 (blen X : Int) ∧ w' = w := by
 refine enter 25 [(0, .int .u64 (X : Int))] 2 Try.func47 rfl rfl rfl rfl rfl ?_; intro a hF
 have hS := St.refl hI
 refine W_sr rfl (fun K hK => ?_)
 refine sv hF (v_assign rfl) rfl ?_; clear hF a; intro a hF
 refine WL_nil (hK _ _ ?_)
 clear hK K
 refine W_cut (fun a w' => ∃ x n : Nat, Fr 25 [(0, .int .u64 (x : Int)), (2, .int .i64 (n : Int))] a ∧ w = w' ∧ x < 2 ^ 32 ∧ n ≤ 32 ∧ blen x + n = blen X) ?_ ?_
 ·
  skip
  refine W_sr rfl (fun K hK => ?_)
  refine sv hF (v_move rfl) rfl ?_; clear hF a; intro a hF
  refine sv hF (v_geq rfl rfl) rfl ?_; clear hF a; intro a hF
  refine WL_nil (hK _ _ ?_)
  clear hK K
  replace hF := hF.sub _ (c_ 4 rfl (c_ 2 rfl (c_ 0 rfl (n_))))
  refine W_if hF rfl (fun hc1 => ?_) (fun hc1 => ?_)
  ·
   skip
   try simp only [dcl] at hc1
   refine W_sr rfl (fun K hK => ?_)
   refine sv hF (v_move rfl) rfl ?_; clear hF a; intro a hF
   refine sv hF ((v_shrN (m := X) rfl rfl (by decide))) rfl ?_; clear hF a; intro a hF
   refine sv hF (v_assign rfl) rfl ?_; clear hF a; intro a hF
   refine WL_nil (hK _ _ ?_)
   clear hK K
   replace hF := hF.sub _ (c_ 0 rfl (c_ 2 rfl (n_)))
   refine W_reg rfl (fun K hK => ?_)
   refine sv hF (v_assign rfl) rfl ?_; clear hF a; intro a hF
   refine WL_nil (hK _ _ ?_)
   clear hK K
   exact ⟨X / 2 ^ 32, 32, hF.sub _ (c_ 0 rfl (c_ 2 rfl n_)), rfl, (Nat.div_lt_iff_lt_mul (by decide)).2 (by omega), by omega, blen_shift (by omega)⟩
  ·
   skip
   try simp only [dcl] at hc1
   refine W_skip ?_
   exact ⟨X, 0, hF.sub _ (c_ 0 rfl (c_ 2 rfl n_)), rfl, by omega, by omega, rfl⟩
 ·
  skip
  clear hF
  rintro a _ ⟨x, n, hF, rfl, hx, hn, he⟩
  refine W_cut (fun a w' => ∃ x n : Nat, Fr 25 [(0, .int .u64 (x : Int)), (2, .int .i64 (n : Int))] a ∧ w = w' ∧ x < 2 ^ 16 ∧ n ≤ 48 ∧ blen x + n = blen X) ?_ ?_
  ·
   skip
   refine W_sr rfl (fun K hK => ?_)
   refine sv hF (v_move rfl) rfl ?_; clear hF a; intro a hF
   refine sv hF (v_geq rfl rfl) rfl ?_; clear hF a; intro a hF
   refine WL_nil (hK _ _ ?_)
   clear hK K
   replace hF := hF.sub _ (c_ 8 rfl (c_ 0 rfl (c_ 2 rfl (n_))))
   refine W_if hF rfl (fun hc2 => ?_) (fun hc2 => ?_)
   ·
    skip
    try simp only [dcl] at hc2
    refine W_sr rfl (fun K hK => ?_)
    refine sv hF (v_move rfl) rfl ?_; clear hF a; intro a hF
    refine sv hF ((v_shrN (m := x) rfl rfl (by decide))) rfl ?_; clear hF a; intro a hF
    refine sv hF (v_assign rfl) rfl ?_; clear hF a; intro a hF
    refine WL_nil (hK _ _ ?_)
    clear hK K
    replace hF := hF.sub _ (c_ 0 rfl (c_ 2 rfl (n_)))
    refine W_reg rfl (fun K hK => ?_)
    refine sv hF (v_move rfl) rfl ?_; clear hF a; intro a hF
    refine sv hF (v_addI rfl rfl (by omega)) rfl ?_; clear hF a; intro a hF
    refine sv hF (v_assign rfl) rfl ?_; clear hF a; intro a hF
    refine WL_nil (hK _ _ ?_)
    clear hK K
    replace hF := hF.sub _ (c_ 2 rfl (c_ 0 rfl (n_)))
    exact ⟨x / 2 ^ 16, n + 16, hF.sub _ (c_ 0 rfl (c_ 2 rfl n_)), rfl, (Nat.div_lt_iff_lt_mul (by decide)).2 (by omega), by omega, by have := blen_shift (x := x) (k := 16) (by omega); omega⟩
   ·
    skip
    try simp only [dcl] at hc2
    refine W_skip ?_
    exact ⟨x, n, hF.sub _ (c_ 0 rfl (c_ 2 rfl n_)), rfl, by omega, by omega, he⟩
  ·
   skip
   clear hF
   rintro a _ ⟨x, n, hF, rfl, hx, hn, he⟩
   refine W_cut (fun a w' => ∃ x n : Nat, Fr 25 [(0, .int .u64 (x : Int)), (2, .int .i64 (n : Int))] a ∧ w = w' ∧ x < 2 ^ 8 ∧ n ≤ 56 ∧ blen x + n = blen X) ?_ ?_
   ·
    skip
    refine W_sr rfl (fun K hK => ?_)
    refine sv hF (v_move rfl) rfl ?_; clear hF a; intro a hF
    refine sv hF (v_geq rfl rfl) rfl ?_; clear hF a; intro a hF
    refine WL_nil (hK _ _ ?_)
    clear hK K
    replace hF := hF.sub _ (c_ 14 rfl (c_ 0 rfl (c_ 2 rfl (n_))))
    refine W_if hF rfl (fun hc3 => ?_) (fun hc3 => ?_)
    ·
     skip
     try simp only [dcl] at hc3
     refine W_sr rfl (fun K hK => ?_)
     refine sv hF (v_move rfl) rfl ?_; clear hF a; intro a hF
     refine sv hF ((v_shrN (m := x) rfl rfl (by decide))) rfl ?_; clear hF a; intro a hF
     refine sv hF (v_assign rfl) rfl ?_; clear hF a; intro a hF
     refine WL_nil (hK _ _ ?_)
     clear hK K
     replace hF := hF.sub _ (c_ 0 rfl (c_ 2 rfl (n_)))
     refine W_reg rfl (fun K hK => ?_)
     refine sv hF (v_move rfl) rfl ?_; clear hF a; intro a hF
     refine sv hF (v_addI rfl rfl (by omega)) rfl ?_; clear hF a; intro a hF
     refine sv hF (v_assign rfl) rfl ?_; clear hF a; intro a hF
     refine WL_nil (hK _ _ ?_)
     clear hK K
     replace hF := hF.sub _ (c_ 2 rfl (c_ 0 rfl (n_)))
     exact ⟨x / 2 ^ 8, n + 8, hF.sub _ (c_ 0 rfl (c_ 2 rfl n_)), rfl, (Nat.div_lt_iff_lt_mul (by decide)).2 (by omega), by omega, by have := blen_shift (x := x) (k := 8) (by omega); omega⟩
    ·
     skip
     try simp only [dcl] at hc3
     refine W_skip ?_
     exact ⟨x, n, hF.sub _ (c_ 0 rfl (c_ 2 rfl n_)), rfl, by omega, by omega, he⟩
   ·
    skip
    clear hF
    rintro a _ ⟨x, n, hF, rfl, hx, hn, he⟩
    have hbl := blen_le (n := x) (k := 8) (by omega)
    refine W_sr rfl (fun K hK => ?_)
    refine sv2 hF (v_move rfl) (v_move rfl) rfl rfl ?_; clear hF a; intro a hF
    refine sv hF (v_cv Try.underlying78 Try.underlying5 rfl (wrap_u8 _ (by omega))) rfl ?_; clear hF a; intro a hF
    refine sv hF (v_ixStr (b := UInt8.ofNat (blen x)) Try.underlying9 rfl rfl (by omega) (by rw [toNat_c]; exact len8_at (by omega))) rfl ?_; clear hF a; intro a hF
    refine sv hF ((v_cv Try.underlying5 Try.underlying3 rfl ((congrArg _ (blen_byte (by omega))).trans (wrap_i64 _ (by omega))))) rfl ?_; clear hF a; intro a hF
    refine sv hF (v_addI rfl rfl (by omega)) rfl ?_; clear hF a; intro a hF
    refine sv hF (v_assign rfl) rfl ?_; clear hF a; intro a hF
    refine WL_nil (hK _ _ ?_)
    clear hK K
    replace hF := hF.sub _ (c_ 2 rfl (n_))
    refine W_ret ?_
    refine ⟨_, _, hF, rfl, ?_⟩
    exact ⟨by rw [← he]; congr 1; omega, rfl⟩

set_option maxRecDepth 100000 in
set_option maxHeartbeats 1000000 in
theorem Len32_ok (B X : Nat) (w : World) (hI : Inv FDx B w) (hX : X < 4294967296) : Ret Try.prog 68 [.int .u32 (X : Int)] w fun v w' => v = .int .i64 (blen X : Int) ∧ w' = w := by
 refine enter 19 [(0, .int .u32 (X : Int))] 2 Try.func68 rfl rfl rfl rfl rfl ?_; intro a hF
 have hS := St.refl hI
 refine W_sr rfl (fun K hK => ?_)
 refine sv hF (v_assign rfl) rfl ?_; clear hF a; intro a hF
 refine WL_nil (hK _ _ ?_)
 clear hK K
 refine W_cut (fun a w' => ∃ x n : Nat, Fr 19 [(0, .int .u32 (x : Int)), (2, .int .i64 (n : Int))] a ∧ w = w' ∧ x < 2 ^ 16 ∧ n ≤ 48 ∧ blen x + n = blen X) ?_ ?_
 ·
  skip
  refine W_sr rfl (fun K hK => ?_)
  refine sv hF (v_move rfl) rfl ?_; clear hF a; intro a hF
  refine sv hF (v_geq rfl rfl) rfl ?_; clear hF a; intro a hF
  refine WL_nil (hK _ _ ?_)
  clear hK K
  replace hF := hF.sub _ (c_ 4 rfl (c_ 2 rfl (c_ 0 rfl (n_))))
  refine W_if hF rfl (fun hc1 => ?_) (fun hc1 => ?_)
  ·
   skip
   try simp only [dcl] at hc1
   refine W_sr rfl (fun K hK => ?_)
   refine sv hF (v_move rfl) rfl ?_; clear hF a; intro a hF
   refine sv hF ((v_shrN (m := X) rfl rfl (by decide))) rfl ?_; clear hF a; intro a hF
   refine sv hF (v_assign rfl) rfl ?_; clear hF a; intro a hF
   refine WL_nil (hK _ _ ?_)
   clear hK K
   replace hF := hF.sub _ (c_ 0 rfl (c_ 2 rfl (n_)))
   refine W_reg rfl (fun K hK => ?_)
   refine sv hF (v_assign rfl) rfl ?_; clear hF a; intro a hF
   refine WL_nil (hK _ _ ?_)
   clear hK K
   exact ⟨X / 2 ^ 16, 16, hF.sub _ (c_ 0 rfl (c_ 2 rfl n_)), rfl, (Nat.div_lt_iff_lt_mul (by decide)).2 (by omega), by omega, blen_shift (by omega)⟩
  ·
   skip
   try simp only [dcl] at hc1
   refine W_skip ?_
   exact ⟨X, 0, hF.sub _ (c_ 0 rfl (c_ 2 rfl n_)), rfl, by omega, by omega, rfl⟩
 ·
  skip
  clear hF
  rintro a _ ⟨x, n, hF, rfl, hx, hn, he⟩
  refine W_cut (fun a w' => ∃ x n : Nat, Fr 19 [(0, .int .u32 (x : Int)), (2, .int .i64 (n : Int))] a ∧ w = w' ∧ x < 2 ^ 8 ∧ n ≤ 56 ∧ blen x + n = blen X) ?_ ?_
  ·
   skip
   refine W_sr rfl (fun K hK => ?_)
   refine sv hF (v_move rfl) rfl ?_; clear hF a; intro a hF
   refine sv hF (v_geq rfl rfl) rfl ?_; clear hF a; intro a hF
   refine WL_nil (hK _ _ ?_)
   clear hK K
   replace hF := hF.sub _ (c_ 8 rfl (c_ 0 rfl (c_ 2 rfl (n_))))
   refine W_if hF rfl (fun hc2 => ?_) (fun hc2 => ?_)
   ·
    skip
    try simp only [dcl] at hc2
    refine W_sr rfl (fun K hK => ?_)
    refine sv hF (v_move rfl) rfl ?_; clear hF a; intro a hF
    refine sv hF ((v_shrN (m := x) rfl rfl (by decide))) rfl ?_; clear hF a; intro a hF
    refine sv hF (v_assign rfl) rfl ?_; clear hF a; intro a hF
    refine WL_nil (hK _ _ ?_)
    clear hK K
    replace hF := hF.sub _ (c_ 0 rfl (c_ 2 rfl (n_)))
    refine W_reg rfl (fun K hK => ?_)
    refine sv hF (v_move rfl) rfl ?_; clear hF a; intro a hF
    refine sv hF (v_addI rfl rfl (by omega)) rfl ?_; clear hF a; intro a hF
    refine sv hF (v_assign rfl) rfl ?_; clear hF a; intro a hF
    refine WL_nil (hK _ _ ?_)
    clear hK K
    replace hF := hF.sub _ (c_ 2 rfl (c_ 0 rfl (n_)))
    exact ⟨x / 2 ^ 8, n + 8, hF.sub _ (c_ 0 rfl (c_ 2 rfl n_)), rfl, (Nat.div_lt_iff_lt_mul (by decide)).2 (by omega), by omega, by have := blen_shift (x := x) (k := 8) (by omega); omega⟩
   ·
    skip
    try simp only [dcl] at hc2
    refine W_skip ?_
    exact ⟨x, n, hF.sub _ (c_ 0 rfl (c_ 2 rfl n_)), rfl, by omega, by omega, he⟩
  ·
   skip
   clear hF
   rintro a _ ⟨x, n, hF, rfl, hx, hn, he⟩
   have hbl := blen_le (n := x) (k := 8) (by omega)
   refine W_sr rfl (fun K hK => ?_)
   refine sv2 hF (v_move rfl) (v_move rfl) rfl rfl ?_; clear hF a; intro a hF
   refine sv hF (v_cv Try.underlying34 Try.underlying5 rfl (wrap_u8 _ (by omega))) rfl ?_; clear hF a; intro a hF
   refine sv hF (v_ixStr (b := UInt8.ofNat (blen x)) Try.underlying9 rfl rfl (by omega) (by rw [toNat_c]; exact len8_at (by omega))) rfl ?_; clear hF a; intro a hF
   refine sv hF ((v_cv Try.underlying5 Try.underlying3 rfl ((congrArg _ (blen_byte (by omega))).trans (wrap_i64 _ (by omega))))) rfl ?_; clear hF a; intro a hF
   refine sv hF (v_addI rfl rfl (by omega)) rfl ?_; clear hF a; intro a hF
   refine sv hF (v_assign rfl) rfl ?_; clear hF a; intro a hF
   refine WL_nil (hK _ _ ?_)
   clear hK K
   replace hF := hF.sub _ (c_ 2 rfl (n_))
   refine W_ret ?_
   refine ⟨_, _, hF, rfl, ?_⟩
   exact ⟨by rw [← he]; congr 1; omega, rfl⟩

set_option maxRecDepth 100000 in
set_option maxHeartbeats 1000000 in
theorem Deg_ok (B p : Nat) (w : World) (hI : Inv FDx B w) (hp : p < 18446744073709551616) : Ret Try.prog 35 [.int .u64 (p : Int)] w fun v w' => v = .int .i64 (Px.deg p) ∧ St FDx B w w'  := by
 refine enter 6 [(0, .int .u64 (p : Int))] 2 Try.func35 rfl rfl rfl rfl rfl ?_; intro a hF
 have hS := St.refl hI
 have hb := blen_le (n := p) (k := 64) (by omega)
 refine W_sr rfl (fun K hK => ?_)
 refine sv hF (v_assign rfl) rfl ?_; clear hF a; intro a hF
 refine WL_nil (hK _ _ ?_)
 clear hK K
 refine W_sr rfl (fun K hK => ?_)
 refine sv hF (v_move rfl) rfl ?_; clear hF a; intro a hF
 refine sc hF rfl rfl rfl en47 rfl (Len64_ok B p _ hI hp) ?_; clear hF a; intro v w' a hv hF
 obtain ⟨rfl, rfl⟩ := hv
 have hS' := St.refl hS.inv
 replace hS := hS.trans hS'
 clear hS'
 refine sv hF (v_subI rfl rfl (by omega)) rfl ?_; clear hF a; intro a hF
 refine sv hF (v_assign rfl) rfl ?_; clear hF a; intro a hF
 refine WL_nil (hK _ _ ?_)
 clear hK K
 replace hF := hF.sub _ (c_ 2 rfl (n_))
 refine W_ret ?_
 refine ⟨_, _, hF, rfl, ?_⟩
 exact ⟨congrArg _ (deg_blen p), hS⟩

set_option maxRecDepth 100000 in
set_option maxHeartbeats 1000000 in
theorem Mul1_ok (B : Nat) (i b c : Nat) (w : World) (hI : Inv FDx B w) (hi : i ≤ 32) (hb : b < 4294967296) (hc : w.cell? ⟨c, 0, none⟩ = some (.int .u32 (b : Int))) :
  Ret Try.prog 67 [.int .i64 (i : Int), .pointer (some ⟨c, 0, none⟩)] w fun v w' => v = .bool (b.testBit i) ∧ w' = w := by
 refine enter 9 [(0, .int .i64 (i : Int)), (1, .pointer (some ⟨c, 0, none⟩))] 3 Try.func67 rfl rfl rfl rfl rfl ?_; intro a hF
 have hS := St.refl hI
 refine W_sr rfl (fun K hK => ?_)
 refine sv hF (v_assign rfl) rfl ?_; clear hF a; intro a hF
 refine WL_nil (hK _ _ ?_)
 clear hK K
 refine W_sr rfl (fun K hK => ?_)
 refine sv hF (v_load sc34 rfl (by first | assumption | (rw [toNat_c]; assumption) | exact KC.c (by assumption) | (rw [toNat_c]; exact KC.c (by assumption)) | exact Box.at (by assumption))) rfl ?_; clear hF a; intro a hF
 refine sv hF (v_move rfl) rfl ?_; clear hF a; intro a hF
 refine sv hF (v_shrN rfl rfl (by omega)) rfl ?_; clear hF a; intro a hF
 refine sv hF (v_andN (n := 1) rfl rfl (fits_u32 (div_lt hb)) (fits_u32 (by decide))) rfl ?_; clear hF a; intro a hF
 refine sv hF (v_eql rfl rfl) rfl ?_; clear hF a; intro a hF
 refine sv hF (v_assign rfl) rfl ?_; clear hF a; intro a hF
 refine WL_nil (hK _ _ ?_)
 clear hK K
 replace hF := hF.sub _ (c_ 3 rfl (n_))
 refine W_ret ?_
 refine ⟨_, _, hF, rfl, ?_⟩
 exact ⟨congrArg _ (bit_says .u32 hi), rfl⟩

set_option maxRecDepth 100000 in
set_option maxHeartbeats 1000000 in
theorem Mul_ok (B A b : Nat) (w : World) (hI : Inv FDx B w) (ha : A < 4294967296) (hb : b < 4294967296) : Ret Try.prog 52 [.int .u32 (A : Int), .int .u32 (b : Int)] w fun v w' => v = .int .u64 (Px.mul A b : Int) ∧ St FDx B w w'  := by
 refine enter 25 [(0, .int .u32 (A : Int)), (1, .int .u32 (b : Int))] 4 Try.func52 rfl rfl rfl rfl rfl ?_; intro a hF
 have hS := St.refl hI
 refine W_sr rfl (fun K hK => ?_)
 refine s_box (D := FDx) (B := B) hF rfl (by decide) hI rfl (fun w' a hm hbox hsz hF => ?_)
 replace hS := hS.mb0 hm
 have hc : w'.cell? ⟨w.heap.size, 0, none⟩ = some (.int .u32 (b : Int)) := hbox.at 0 rfl
 clear hbox hm
 generalize w.heap.size = c at *
 have hbl := blen_le (n := b) (k := 32) (by omega)
 refine sv hF (v_assign rfl) rfl ?_; clear hF a; intro a hF
 refine WL_nil (hK _ _ ?_)
 clear hK K
 replace hF := hF.sub _ (c_ 4 rfl (c_ 3 rfl (c_ 0 rfl (n_))))
 refine W_sr rfl (fun K hK => ?_)
 refine sv hF (v_assign rfl) rfl ?_; clear hF a; intro a hF
 refine WL_nil (hK _ _ ?_)
 clear hK K
 refine W_sr rfl (fun K hK => ?_)
 refine sv hF (v_mkf rfl) rfl ?_; clear hF a; intro a hF
 refine sv hF (v_assign rfl) rfl ?_; clear hF a; intro a hF
 refine WL_nil (hK _ _ ?_)
 clear hK K
 replace hF := hF.sub _ (c_ 6 rfl (c_ 5 rfl (c_ 4 rfl (c_ 3 rfl (c_ 0 rfl (n_))))))
 refine W_seq ?_
 refine W_sr rfl (fun K hK => ?_)
 refine sv hF (v_load sc34 rfl (by first | assumption | (rw [toNat_c]; assumption) | exact KC.c (by assumption) | (rw [toNat_c]; exact KC.c (by assumption)) | exact Box.at (by assumption))) rfl ?_; clear hF a; intro a hF
 refine sc hF rfl rfl rfl en68 rfl (Len32_ok B b _ hS.inv hb) ?_; clear hF a; intro v w' a hv hF
 obtain ⟨rfl, rfl⟩ := hv
 have hS' := St.refl hS.inv
 replace hS := hS.trans hS'
 clear hS'
 refine sv hF (v_move rfl) rfl ?_; clear hF a; intro a hF
 refine WL_nil (hK _ _ ?_)
 clear hK K
 replace hF := hF.sub _ (c_ 11 rfl (c_ 10 rfl (c_ 6 rfl (c_ 5 rfl (c_ 4 rfl (c_ 0 rfl (n_)))))))
 refine W_block ?_
 refine W_loop (fun m a w1 => ∃ i q : Nat, Fr 25 [(0, .int .u32 (A : Int)), (5, .int .u64 (q : Int)), (6, .func (.func 67) ([] : List Value).toArray [.pointer (some ⟨c, 0, none⟩)].toArray), (10, .int .i64 (blen b : Int)), (11, .int .i64 (i : Int))] a ∧ w1 = w' ∧ i ≤ blen b ∧ q = Px.mul A (b % 2 ^ i) ∧ m + i = blen b) (blen b) ?_ ?_
 ·
  skip
  exact ⟨0, 0, hF.sub _ (c_ 0 rfl (c_ 5 rfl (c_ 6 rfl (c_ 10 rfl (c_ 11 rfl n_))))), rfl, by omega, (mul_none A b).symm, by omega⟩
 ·
  skip
  clear hF
  rintro m a _ ⟨i, q, hF, rfl, hi, hq, hm⟩
  refine W_sr rfl (fun K hK => ?_)
  refine sv hF (v_lss rfl rfl) rfl ?_; clear hF a; intro a hF
  refine WL_nil (hK _ _ ?_)
  clear hK K
  refine W_seq ?_
  refine W_if hF rfl (fun hc1 => ?_) (fun hc1 => ?_)
  ·
   skip
   try simp only [dcl] at hc1
   refine W_skip ?_
   refine W_seq ?_
   refine W_block ?_
   refine W_sr rfl (fun K hK => ?_)
   refine sv2 hF (v_move rfl) (v_assign rfl) rfl rfl ?_; clear hF a; intro a hF
   refine WL_nil (hK _ _ ?_)
   clear hK K
   replace hF := hF.sub _ (c_ 7 rfl (c_ 0 rfl (c_ 5 rfl (c_ 6 rfl (c_ 10 rfl (c_ 11 rfl (n_)))))))
   refine W_sr rfl (fun K hK => ?_)
   refine sv2 hF (v_move rfl) (v_move rfl) rfl rfl ?_; clear hF a; intro a hF
   refine sc hF rfl rfl rfl en67 rfl (Mul1_ok B i b c _ hS.inv (by omega) hb hc) ?_; clear hF a; intro v w' a hv hF
   obtain ⟨rfl, rfl⟩ := hv
   have hS' := St.refl hS.inv
   replace hS := hS.trans hS'
   clear hS'
   refine WL_nil (hK _ _ ?_)
   clear hK K
   replace hF := hF.sub _ (c_ 16 rfl (c_ 7 rfl (c_ 0 rfl (c_ 5 rfl (c_ 6 rfl (c_ 10 rfl (c_ 11 rfl (n_))))))))
   refine W_if hF rfl (fun hc2 => ?_) (fun hc2 => ?_)
   ·
    skip
    try simp only [dcl] at hc2
    have hst := mul_bit A b i
    rw [hc2, if_pos rfl, ← hq] at hst
    have h1 : A * 2 ^ i < 18446744073709551616 := Nat.lt_of_lt_of_le (shl_lt (m := 32) ha) ((Nat.pow_le_pow_right (n := 2) (by decide) (show 32 + i ≤ 64 by omega)))
    have h2 : b % 2 ^ i < 4294967296 := Nat.lt_of_le_of_lt (Nat.mod_le _ _) hb
    have h3 := mul_lt64 ha h2
    rw [← hq] at h3
    refine W_reg rfl (fun K hK => ?_)
    refine sv2 hF (v_move rfl) (v_move rfl) rfl rfl ?_; clear hF a; intro a hF
    refine sv hF (v_cv Try.underlying34 Try.underlying78 rfl (wrap_u64 _ (by omega))) rfl ?_; clear hF a; intro a hF
    refine sv hF (v_move rfl) rfl ?_; clear hF a; intro a hF
    refine sv hF ((v_shl rfl rfl (by omega)).as (congrArg _ (shl_says h1 (by omega)))) rfl ?_; clear hF a; intro a hF
    refine sv hF (v_xorN rfl rfl (fits_u64 h3) (fits_u64 (by rw [Nat.shiftLeft_eq]; exact h1))) rfl ?_; clear hF a; intro a hF
    refine sv hF (v_assign rfl) rfl ?_; clear hF a; intro a hF
    refine WL_nil (hK _ _ ?_)
    clear hK K
    replace hF := hF.sub _ (c_ 5 rfl (c_ 0 rfl (c_ 6 rfl (c_ 10 rfl (c_ 11 rfl (n_))))))
    refine W_reg rfl (fun K hK => ?_)
    refine sv hF (v_addI rfl rfl (by omega)) rfl ?_; clear hF a; intro a hF
    refine sv hF (v_move rfl) rfl ?_; clear hF a; intro a hF
    refine WL_nil (hK _ _ ?_)
    clear hK K
    exact ⟨m - 1, by omega, i + 1, _, hF.sub _ (c_ 0 rfl (c_ 5 rfl (c_ 6 rfl (c_ 10 rfl (c_ 11 rfl n_))))), rfl, by omega, hst.symm, by omega⟩
   ·
    skip
    try simp only [dcl] at hc2
    have hst := mul_bit A b i
    rw [hc2, if_neg (by decide), ← hq, Nat.xor_zero] at hst
    refine W_skip ?_
    refine W_reg rfl (fun K hK => ?_)
    refine sv hF (v_addI rfl rfl (by omega)) rfl ?_; clear hF a; intro a hF
    refine sv hF (v_move rfl) rfl ?_; clear hF a; intro a hF
    refine WL_nil (hK _ _ ?_)
    clear hK K
    replace hF := hF.sub _ (c_ 11 rfl (c_ 23 rfl (c_ 0 rfl (c_ 5 rfl (c_ 6 rfl (c_ 10 rfl (n_)))))))
    exact ⟨m - 1, by omega, i + 1, _, hF.sub _ (c_ 0 rfl (c_ 5 rfl (c_ 6 rfl (c_ 10 rfl (c_ 11 rfl n_))))), rfl, by omega, hst.symm, by omega⟩
  ·
   skip
   try simp only [dcl] at hc1
   refine W_exit rfl ?_
   refine W_sr rfl (fun K hK => ?_)
   refine sv2 hF (v_move rfl) (v_assign rfl) rfl rfl ?_; clear hF a; intro a hF
   refine WL_nil (hK _ _ ?_)
   clear hK K
   replace hF := hF.sub _ (c_ 4 rfl (c_ 24 rfl (c_ 0 rfl (c_ 5 rfl (c_ 6 rfl (c_ 10 rfl (c_ 11 rfl (n_))))))))
   refine W_ret ?_
   refine ⟨_, _, hF, rfl, ?_⟩
   refine ⟨?_, hS⟩
   obtain rfl : i = blen b := by omega
   rw [hq, mul_all]

set_option maxRecDepth 100000 in
set_option maxHeartbeats 1000000 in
theorem Mod_ok (B A p : Nat) (w : World) (hI : Inv FDx B w) (hA : A < 18446744073709551616) (hp : p < 4294967296) : Ret Try.prog 49 [.int .u64 (A : Int), .int .u32 (p : Int)] w fun v w' => v = .int .u32 (Px.mod A p : Int) ∧ St FDx B w w'  := by
 refine enter 34 [(0, .int .u64 (A : Int)), (1, .int .u32 (p : Int))] 4 Try.func49 rfl rfl rfl rfl rfl ?_; intro a hF
 have hS := St.refl hI
 refine W_sr rfl (fun K hK => ?_)
 refine sv hF (v_assign rfl) rfl ?_; clear hF a; intro a hF
 refine WL_nil (hK _ _ ?_)
 clear hK K
 refine W_seq ?_
 refine W_sr rfl (fun K hK => ?_)
 refine sv hF (v_move rfl) rfl ?_; clear hF a; intro a hF
 refine sv hF (v_eql rfl rfl) rfl ?_; clear hF a; intro a hF
 refine WL_nil (hK _ _ ?_)
 clear hK K
 replace hF := hF.sub _ (c_ 8 rfl (c_ 4 rfl (c_ 0 rfl (c_ 1 rfl (n_)))))
 refine W_if hF rfl (fun hc1 => ?_) (fun hc1 => ?_)
 ·
  skip
  try simp only [dcl] at hc1
  obtain rfl : p = 0 := by omega
  refine W_sr rfl (fun K hK => ?_)
  refine sv hF (v_assign rfl) rfl ?_; clear hF a; intro a hF
  refine WL_nil (hK _ _ ?_)
  clear hK K
  replace hF := hF.sub _ (c_ 4 rfl (c_ 0 rfl (c_ 1 rfl (n_))))
  refine W_ret ?_
  refine ⟨_, _, hF, rfl, ?_⟩
  exact ⟨by rw [Px.mod_zero]; rfl, hS⟩
 ·
  skip
  try simp only [dcl] at hc1
  have hp0 : p ≠ 0 := by omega
  have hl := log2_lt hp0 (k := 32) hp
  refine W_skip ?_
  refine W_sr rfl (fun K hK => ?_)
  refine sv hF (v_move rfl) rfl ?_; clear hF a; intro a hF
  refine sv hF (v_cv Try.underlying34 Try.underlying78 rfl (wrap_u64 _ (by omega))) rfl ?_; clear hF a; intro a hF
  refine sc hF rfl rfl rfl en35 rfl (Deg_ok B p _ hS.inv (by omega)) ?_; clear hF a; intro v w' a hv hF
  obtain ⟨rfl, hS'⟩ := hv
  replace hS := hS.trans hS'
  clear hS'
  refine sv hF (v_assign rfl) rfl ?_; clear hF a; intro a hF
  refine WL_nil (hK _ _ ?_)
  clear hK K
  replace hF := hF.sub _ (c_ 5 rfl (c_ 4 rfl (c_ 0 rfl (c_ 1 rfl (n_)))))
  refine W_seq ?_
  refine W_sr rfl (fun K hK => ?_)
  refine sv hF (v_move rfl) rfl ?_; clear hF a; intro a hF
  refine sc hF rfl rfl rfl en35 rfl (Deg_ok B A _ hS.inv hA) ?_; clear hF a; intro v w' a hv hF
  obtain ⟨rfl, hS'⟩ := hv
  replace hS := hS.trans hS'
  clear hS'
  refine sv hF (v_assign rfl) rfl ?_; clear hF a; intro a hF
  refine WL_nil (hK _ _ ?_)
  clear hK K
  replace hF := hF.sub _ (c_ 6 rfl (c_ 5 rfl (c_ 4 rfl (c_ 0 rfl (c_ 1 rfl (n_))))))
  refine W_block ?_
  refine W_loop (fun m a w1 => ∃ (i : Int) (q : Nat), Fr 34 [(0, .int .u64 (q : Int)), (1, .int .u32 (p : Int)), (5, .int .i64 (Px.deg p)), (6, .int .i64 i)] a ∧ St FDx B w w1 ∧ m = (i + 1).toNat ∧ -1 ≤ i ∧ ((Px.deg A < Px.deg p ∧ i = Px.deg A ∧ q = A) ∨ ModAt A p i q)) ((Px.deg A + 1).toNat) ?_ ?_
  ·
   skip
   refine ⟨_, _, hF.sub _ (c_ 0 rfl (c_ 1 rfl (c_ 5 rfl (c_ 6 rfl n_)))), hS, rfl, deg_ge _, ?_⟩
   by_cases h9 : Px.deg A < Px.deg p
   ·
    exact .inl ⟨h9, rfl, rfl⟩
   ·
    exact .inr (modAt_start hp0 hA (by rw [deg_pos hp0] at h9; omega))
  ·
   skip
   clear hF
   clear hS
   rintro m a w1 ⟨i, q, hF, hS, rfl, hi1, hm⟩
   refine W_seq ?_
   refine W_sr rfl (fun K hK => ?_)
   refine sv2 hF (v_move rfl) (v_move rfl) rfl rfl ?_; clear hF a; intro a hF
   refine sv hF (v_geq rfl rfl) rfl ?_; clear hF a; intro a hF
   refine WL_nil (hK _ _ ?_)
   clear hK K
   replace hF := hF.sub _ (c_ 16 rfl (c_ 0 rfl (c_ 1 rfl (c_ 5 rfl (c_ 6 rfl (n_))))))
   refine W_if hF rfl (fun hc2 => ?_) (fun hc2 => ?_)
   ·
    skip
    try simp only [dcl] at hc2
    replace hm : ModAt A p i q := by
     rcases hm with ⟨h1, h2, h3⟩ | h1
     ·
      omega
     ·
      exact h1
    rw [deg_pos hp0] at hc2 hF
    obtain ⟨j, rfl⟩ : ∃ j : Nat, i = (j : Int) := ⟨i.toNat, by omega⟩
    have hq : q < 2 ^ 64 := Nat.lt_of_lt_of_le hm.lt (Nat.pow_le_pow_right (by decide) (by have := hm.hi; omega))
    have hj := hm.hi
    have hst := (modAt_step hm hp0 (by omega)).1
    rw [toNat_c] at hst
    refine W_skip ?_
    refine W_seq ?_
    refine W_block ?_
    refine W_sr rfl (fun K hK => ?_)
    refine sv2 hF (v_move rfl) (v_move rfl) rfl rfl ?_; clear hF a; intro a hF
    refine sv hF (v_shrN rfl rfl (by omega)) rfl ?_; clear hF a; intro a hF
    refine sv hF (v_andN (n := 1) rfl rfl (fits_u64 (div_lt hq)) (fits_u64 (by decide))) rfl ?_; clear hF a; intro a hF
    refine sv hF (v_eql rfl rfl) rfl ?_; clear hF a; intro a hF
    refine WL_nil (hK _ _ ?_)
    clear hK K
    replace hF := hF.sub _ (c_ 23 rfl (c_ 0 rfl (c_ 1 rfl (c_ 5 rfl (c_ 6 rfl (n_))))))
    refine W_if hF rfl (fun hc3 => ?_) (fun hc3 => ?_)
    ·
     skip
     try simp only [dcl] at hc3
     replace hc3 := bit_T .u64 (show j ≤ 64 by omega) hc3
     rw [red_bit hc3] at hst
     have hsh := shl_lt64 hp0 hp hj (by omega)
     refine W_reg rfl (fun K hK => ?_)
     refine sv2 hF (v_move rfl) (v_move rfl) rfl rfl ?_; clear hF a; intro a hF
     refine sv hF (v_cv Try.underlying34 Try.underlying78 rfl (wrap_u64 _ (by omega))) rfl ?_; clear hF a; intro a hF
     refine sv2 hF (v_move rfl) (v_move rfl) rfl rfl ?_; clear hF a; intro a hF
     refine sv hF (v_subI rfl rfl (by omega)) rfl ?_; clear hF a; intro a hF
     refine sv hF ((v_shl rfl rfl (by omega)).as (congrArg _ (shl_says' (i := j - Nat.log2 p) (by omega) hsh (by omega)))) rfl ?_; clear hF a; intro a hF
     refine sv hF (v_xorN rfl rfl (fits_u64 hq) (fits_u64 (by rw [Nat.shiftLeft_eq]; exact hsh))) rfl ?_; clear hF a; intro a hF
     refine sv hF (v_assign rfl) rfl ?_; clear hF a; intro a hF
     refine WL_nil (hK _ _ ?_)
     clear hK K
     replace hF := hF.sub _ (c_ 0 rfl (c_ 1 rfl (c_ 5 rfl (c_ 6 rfl (n_)))))
     refine W_reg rfl (fun K hK => ?_)
     refine sv hF (v_move rfl) rfl ?_; clear hF a; intro a hF
     refine sv hF (v_subI rfl rfl (by omega)) rfl ?_; clear hF a; intro a hF
     refine sv hF (v_assign rfl) rfl ?_; clear hF a; intro a hF
     refine WL_nil (hK _ _ ?_)
     clear hK K
     rw [← deg_pos hp0] at hF
     exact ⟨_, by omega, _, _, hF.sub _ (c_ 0 rfl (c_ 1 rfl (c_ 5 rfl (c_ 6 rfl n_)))), hS, rfl, by omega, .inr hst⟩
    ·
     skip
     try simp only [dcl] at hc3
     replace hc3 := bit_F .u64 (show j ≤ 64 by omega) hc3
     rw [red_nobit hc3] at hst
     refine W_skip ?_
     refine W_reg rfl (fun K hK => ?_)
     refine sv hF (v_move rfl) rfl ?_; clear hF a; intro a hF
     refine sv hF (v_subI rfl rfl (by omega)) rfl ?_; clear hF a; intro a hF
     refine sv hF (v_assign rfl) rfl ?_; clear hF a; intro a hF
     refine WL_nil (hK _ _ ?_)
     clear hK K
     replace hF := hF.sub _ (c_ 6 rfl (c_ 18 rfl (c_ 17 rfl (c_ 0 rfl (c_ 1 rfl (c_ 5 rfl (n_)))))))
     rw [← deg_pos hp0] at hF
     exact ⟨_, by omega, _, _, hF.sub _ (c_ 0 rfl (c_ 1 rfl (c_ 5 rfl (c_ 6 rfl n_)))), hS, rfl, by omega, .inr hst⟩
   ·
    skip
    try simp only [dcl] at hc2
    have hfin : q = Px.mod A p := by
     rcases hm with ⟨h1, h2, h3⟩ | h1
     ·
      rw [h3]; exact (mod_low hp0 (by rw [← deg_pos hp0]; exact h1)).symm
     ·
      exact modAt_end h1 (by rw [← deg_pos hp0]; omega)
    have hlt := mod_lt32 A hp
    rw [← hfin] at hlt
    refine W_exit rfl ?_
    refine W_sr rfl (fun K hK => ?_)
    refine sv hF (v_move rfl) rfl ?_; clear hF a; intro a hF
    refine sv hF (v_cv Try.underlying78 Try.underlying34 rfl (wrap_u32 _ (by omega))) rfl ?_; clear hF a; intro a hF
    refine sv hF (v_assign rfl) rfl ?_; clear hF a; intro a hF
    refine WL_nil (hK _ _ ?_)
    clear hK K
    replace hF := hF.sub _ (c_ 4 rfl (c_ 33 rfl (c_ 32 rfl (c_ 0 rfl (c_ 1 rfl (c_ 5 rfl (c_ 6 rfl (n_))))))))
    refine W_ret ?_
    refine ⟨_, _, hF, rfl, ?_⟩
    exact ⟨by rw [hfin], hS⟩

set_option maxRecDepth 100000 in
set_option maxHeartbeats 1000000 in
theorem MulMod_ok (B x y p : Nat) (w : World) (hI : Inv FDx B w) (hx : x < 4294967296) (hy : y < 4294967296) (hp : p < 4294967296) : Ret Try.prog 40 [.int .u32 (x : Int), .int .u32 (y : Int), .int .u32 (p : Int)] w fun v w' => v = .int .u32 (Px.mulMod x y p : Int) ∧ St FDx B w w'  := by
 refine enter 12 [(0, .int .u32 (x : Int)), (1, .int .u32 (y : Int)), (2, .int .u32 (p : Int))] 6 Try.func40 rfl rfl rfl rfl rfl ?_; intro a hF
 have hS := St.refl hI
 refine W_sr rfl (fun K hK => ?_)
 refine sv hF (v_assign rfl) rfl ?_; clear hF a; intro a hF
 refine WL_nil (hK _ _ ?_)
 clear hK K
 refine W_sr rfl (fun K hK => ?_)
 refine sv2 hF (v_move rfl) (v_move rfl) rfl rfl ?_; clear hF a; intro a hF
 refine sc hF rfl rfl rfl en52 rfl (Mul_ok B x y _ hS.inv hx hy) ?_; clear hF a; intro v w' a hv hF
 obtain ⟨rfl, hS'⟩ := hv
 replace hS := hS.trans hS'
 clear hS'
 refine sv hF (v_move rfl) rfl ?_; clear hF a; intro a hF
 refine sc hF rfl rfl rfl en49 rfl (Mod_ok B (Px.mul x y) p _ hS.inv (mul_lt64 hx hy) hp) ?_; clear hF a; intro v w' a hv hF
 obtain ⟨rfl, hS'⟩ := hv
 replace hS := hS.trans hS'
 clear hS'
 refine sv hF (v_assign rfl) rfl ?_; clear hF a; intro a hF
 refine WL_nil (hK _ _ ?_)
 clear hK K
 replace hF := hF.sub _ (c_ 6 rfl (n_))
 refine W_ret ?_
 refine ⟨_, _, hF, rfl, ?_⟩
 exact ⟨rfl, hS⟩

set_option maxRecDepth 100000 in
set_option maxHeartbeats 1000000 in
theorem gcd_ok (B X Y : Nat) (w : World) (hI : Inv FDx B w) (hX : X < 4294967296) (hY : Y < 4294967296) : Ret Try.prog 66 [.int .u32 (X : Int), .int .u32 (Y : Int)] w fun v w' => v = .int .u32 (Gam.gcd X Y : Int) ∧ St FDx B w w'  := by
 refine enter 13 [(0, .int .u32 (X : Int)), (1, .int .u32 (Y : Int))] 4 Try.func66 rfl rfl rfl rfl rfl ?_; intro a hF
 have hS := St.refl hI
 refine W_sr rfl (fun K hK => ?_)
 refine sv hF (v_assign rfl) rfl ?_; clear hF a; intro a hF
 refine WL_nil (hK _ _ ?_)
 clear hK K
 refine W_seq ?_
 refine W_block ?_
 refine W_loop (fun m a w1 => ∃ x y : Nat, Fr 13 [(0, .int .u32 (x : Int)), (1, .int .u32 (y : Int))] a ∧ St FDx B w w1 ∧ Gam.gcd x y = Gam.gcd X Y ∧ x < 4294967296 ∧ y < 4294967296 ∧ m = y) (Y) ?_ ?_
 ·
  skip
  exact ⟨_, _, hF.sub _ (c_ 0 rfl (c_ 1 rfl n_)), hS, rfl, hX, hY, rfl⟩
 ·
  skip
  clear hF
  clear hS
  rintro m a w1 ⟨x, y, hF, hS, hg, hx, hy, rfl⟩
  refine W_seq ?_
  refine W_sr rfl (fun K hK => ?_)
  refine sv hF (v_move rfl) rfl ?_; clear hF a; intro a hF
  refine sv hF (v_neq rfl rfl) rfl ?_; clear hF a; intro a hF
  refine WL_nil (hK _ _ ?_)
  clear hK K
  replace hF := hF.sub _ (c_ 6 rfl (c_ 0 rfl (c_ 1 rfl (n_))))
  refine W_if hF rfl (fun hc1 => ?_) (fun hc1 => ?_)
  ·
   skip
   try simp only [dcl] at hc1
   have hy0 : m ≠ 0 := by omega
   rw [gcd_step x hy0] at hg
   have hml := mod_lt_self x hy0
   refine W_skip ?_
   refine W_block ?_
   refine W_reg rfl (fun K hK => ?_)
   refine sv2 hF (v_move rfl) (v_move rfl) rfl rfl ?_; clear hF a; intro a hF
   refine sv hF (v_cv Try.underlying34 Try.underlying78 rfl (wrap_u64 _ (by omega))) rfl ?_; clear hF a; intro a hF
   refine sv hF (v_move rfl) rfl ?_; clear hF a; intro a hF
   refine sc hF rfl rfl rfl en49 rfl (Mod_ok B x m _ hS.inv (by omega) hy) ?_; clear hF a; intro v w' a hv hF
   obtain ⟨rfl, hS'⟩ := hv
   replace hS := hS.trans hS'
   clear hS'
   refine sv2 hF (v_assign rfl) (v_assign rfl) rfl rfl ?_; clear hF a; intro a hF
   refine WL_nil (hK _ _ ?_)
   clear hK K
   replace hF := hF.sub _ (c_ 1 rfl (c_ 0 rfl (n_)))
   exact ⟨_, hml, _, _, hF.sub _ (c_ 0 rfl (c_ 1 rfl n_)), hS, hg, hy, by omega, rfl⟩
  ·
   skip
   try simp only [dcl] at hc1
   obtain rfl : m = 0 := by omega
   rw [gcd_zero] at hg
   refine W_exit rfl ?_
   refine W_sr rfl (fun K hK => ?_)
   refine sv2 hF (v_move rfl) (v_assign rfl) rfl rfl ?_; clear hF a; intro a hF
   refine WL_nil (hK _ _ ?_)
   clear hK K
   replace hF := hF.sub _ (c_ 4 rfl (c_ 12 rfl (c_ 0 rfl (c_ 1 rfl (n_)))))
   refine W_ret ?_
   refine ⟨_, _, hF, rfl, ?_⟩
   exact ⟨by rw [hg], hS⟩

set_option maxRecDepth 100000 in
set_option maxHeartbeats 1000000 in
theorem power_ok (B X n p : Nat) (w : World) (hI : Inv FDx B w) (hX : X < 4294967296) (hn : n < 9223372036854775808) (hp : p < 4294967296) : Ret Try.prog 51 [.int .u32 (X : Int), .int .i64 (n : Int), .int .u32 (p : Int)] w fun v w' => v = .int .u32 (powB X p (Px.mod 1 p) n : Int) ∧ St FDx B w w'  := by
 refine enter 26 [(0, .int .u32 (X : Int)), (1, .int .i64 (n : Int)), (2, .int .u32 (p : Int))] 6 Try.func51 rfl rfl rfl rfl rfl ?_; intro a hF
 have hS := St.refl hI
 refine W_sr rfl (fun K hK => ?_)
 refine sv hF (v_assign rfl) rfl ?_; clear hF a; intro a hF
 refine WL_nil (hK _ _ ?_)
 clear hK K
 refine W_sr rfl (fun K hK => ?_)
 refine sv hF (v_move rfl) rfl ?_; clear hF a; intro a hF
 refine sc hF rfl rfl rfl en49 rfl (Mod_ok B 1 p _ hS.inv (by decide) hp) ?_; clear hF a; intro v w' a hv hF
 obtain ⟨rfl, hS'⟩ := hv
 replace hS := hS.trans hS'
 clear hS'
 refine sv hF (v_assign rfl) rfl ?_; clear hF a; intro a hF
 refine WL_nil (hK _ _ ?_)
 clear hK K
 replace hF := hF.sub _ (c_ 7 rfl (c_ 6 rfl (c_ 0 rfl (c_ 1 rfl (c_ 2 rfl (n_))))))
 refine W_seq ?_
 refine W_block ?_
 refine W_loop (fun m a w1 => ∃ x o : Nat, Fr 26 [(0, .int .u32 (x : Int)), (1, .int .i64 (m : Int)), (2, .int .u32 (p : Int)), (7, .int .u32 (o : Int))] a ∧ St FDx B w w1 ∧ powB x p o m = powB X p (Px.mod 1 p) n ∧ x < 4294967296 ∧ o < 4294967296 ∧ m < 9223372036854775808) (n) ?_ ?_
 ·
  skip
  exact ⟨_, _, hF.sub _ (c_ 0 rfl (c_ 1 rfl (c_ 2 rfl (c_ 7 rfl n_)))), hS, rfl, hX, mod_lt32 1 hp, hn⟩
 ·
  skip
  clear hF
  clear hS
  rintro m a w1 ⟨x, o, hF, hS, hg, hx, ho, hm⟩
  refine W_seq ?_
  refine W_sr rfl (fun K hK => ?_)
  refine sv hF (v_move rfl) rfl ?_; clear hF a; intro a hF
  refine sv hF (v_gtr rfl rfl) rfl ?_; clear hF a; intro a hF
  refine WL_nil (hK _ _ ?_)
  clear hK K
  replace hF := hF.sub _ (c_ 11 rfl (c_ 0 rfl (c_ 1 rfl (c_ 2 rfl (c_ 7 rfl (n_))))))
  refine W_if hF rfl (fun hc1 => ?_) (fun hc1 => ?_)
  ·
   skip
   try simp only [dcl] at hc1
   refine W_skip ?_
   refine W_seq ?_
   refine W_block ?_
   refine W_seq ?_
   refine W_sr rfl (fun K hK => ?_)
   refine sv hF (v_move rfl) rfl ?_; clear hF a; intro a hF
   refine sv hF (v_andN (n := 1) rfl rfl (fits_i64 hm) (fits_i64 (by decide))) rfl ?_; clear hF a; intro a hF
   refine sv hF (v_eql rfl rfl) rfl ?_; clear hF a; intro a hF
   refine WL_nil (hK _ _ ?_)
   clear hK K
   replace hF := hF.sub _ (c_ 16 rfl (c_ 0 rfl (c_ 1 rfl (c_ 2 rfl (c_ 7 rfl (n_))))))
   refine W_if hF rfl (fun hc2 => ?_) (fun hc2 => ?_)
   ·
    skip
    try simp only [dcl] at hc2
    rw [Nat.and_one_is_mod] at hc2
    rw [powB_odd x p o (by omega)] at hg
    refine W_reg rfl (fun K hK => ?_)
    refine sv3 hF (v_move rfl) (v_move rfl) (v_move rfl) rfl rfl rfl ?_; clear hF a; intro a hF
    refine sc hF rfl rfl rfl en40 rfl (MulMod_ok B o x p _ hS.inv ho hx hp) ?_; clear hF a; intro v w' a hv hF
    obtain ⟨rfl, hS'⟩ := hv
    replace hS := hS.trans hS'
    clear hS'
    refine sv hF (v_assign rfl) rfl ?_; clear hF a; intro a hF
    refine WL_nil (hK _ _ ?_)
    clear hK K
    replace hF := hF.sub _ (c_ 7 rfl (c_ 0 rfl (c_ 1 rfl (c_ 2 rfl (n_)))))
    refine W_reg rfl (fun K hK => ?_)
    refine sv3 hF (v_move rfl) (v_move rfl) (v_move rfl) rfl rfl rfl ?_; clear hF a; intro a hF
    refine sc hF rfl rfl rfl en40 rfl (MulMod_ok B x x p _ hS.inv hx hx hp) ?_; clear hF a; intro v w' a hv hF
    obtain ⟨rfl, hS'⟩ := hv
    replace hS := hS.trans hS'
    clear hS'
    refine sv hF (v_assign rfl) rfl ?_; clear hF a; intro a hF
    refine WL_nil (hK _ _ ?_)
    clear hK K
    replace hF := hF.sub _ (c_ 0 rfl (c_ 7 rfl (c_ 1 rfl (c_ 2 rfl (n_)))))
    refine W_reg rfl (fun K hK => ?_)
    refine sv hF (v_move rfl) rfl ?_; clear hF a; intro a hF
    refine sv hF (v_shrN (m := m) rfl rfl (by decide)) rfl ?_; clear hF a; intro a hF
    refine sv hF (v_assign rfl) rfl ?_; clear hF a; intro a hF
    refine WL_nil (hK _ _ ?_)
    clear hK K
    exact ⟨m / 2, by omega, _, _, hF.sub _ (c_ 0 rfl (c_ 1 rfl (c_ 2 rfl (c_ 7 rfl n_)))), hS, hg, mod_lt32 _ hp, by first | exact mod_lt32 _ hp | exact ho, by omega⟩
   ·
    skip
    try simp only [dcl] at hc2
    rw [Nat.and_one_is_mod] at hc2
    rw [powB_even x p o (by omega) (by omega)] at hg
    refine W_skip ?_
    refine W_reg rfl (fun K hK => ?_)
    refine sv3 hF (v_move rfl) (v_move rfl) (v_move rfl) rfl rfl rfl ?_; clear hF a; intro a hF
    refine sc hF rfl rfl rfl en40 rfl (MulMod_ok B x x p _ hS.inv hx hx hp) ?_; clear hF a; intro v w' a hv hF
    obtain ⟨rfl, hS'⟩ := hv
    replace hS := hS.trans hS'
    clear hS'
    refine sv hF (v_assign rfl) rfl ?_; clear hF a; intro a hF
    refine WL_nil (hK _ _ ?_)
    clear hK K
    replace hF := hF.sub _ (c_ 0 rfl (c_ 1 rfl (c_ 2 rfl (c_ 7 rfl (n_)))))
    refine W_reg rfl (fun K hK => ?_)
    refine sv hF (v_move rfl) rfl ?_; clear hF a; intro a hF
    refine sv hF (v_shrN (m := m) rfl rfl (by decide)) rfl ?_; clear hF a; intro a hF
    refine sv hF (v_assign rfl) rfl ?_; clear hF a; intro a hF
    refine WL_nil (hK _ _ ?_)
    clear hK K
    exact ⟨m / 2, by omega, _, _, hF.sub _ (c_ 0 rfl (c_ 1 rfl (c_ 2 rfl (c_ 7 rfl n_)))), hS, hg, mod_lt32 _ hp, by first | exact mod_lt32 _ hp | exact ho, by omega⟩
  ·
   skip
   try simp only [dcl] at hc1
   obtain rfl : m = 0 := by omega
   rw [powB_zero] at hg
   refine W_exit rfl ?_
   refine W_sr rfl (fun K hK => ?_)
   refine sv2 hF (v_move rfl) (v_assign rfl) rfl rfl ?_; clear hF a; intro a hF
   refine WL_nil (hK _ _ ?_)
   clear hK K
   replace hF := hF.sub _ (c_ 6 rfl (c_ 25 rfl (c_ 0 rfl (c_ 1 rfl (c_ 2 rfl (c_ 7 rfl (n_)))))))
   refine W_ret ?_
   refine ⟨_, _, hF, rfl, ?_⟩
   exact ⟨by rw [hg], hS⟩

set_option maxRecDepth 100000 in
set_option maxHeartbeats 1000000 in
theorem frob_ok (B n p : Nat) (w : World) (hI : Inv FDx B w) (hn : n < 1000) (hp : p < 4294967296) : Ret Try.prog 65 [.int .i64 (n : Int), .int .u32 (p : Int)] w fun v w' => v = .int .u32 (frob p n (Px.mod 2 p) : Int) ∧ St FDx B w w'  := by
 refine enter 17 [(0, .int .i64 (n : Int)), (1, .int .u32 (p : Int))] 4 Try.func65 rfl rfl rfl rfl rfl ?_; intro a hF
 have hS := St.refl hI
 refine W_sr rfl (fun K hK => ?_)
 refine sv hF (v_assign rfl) rfl ?_; clear hF a; intro a hF
 refine WL_nil (hK _ _ ?_)
 clear hK K
 refine W_sr rfl (fun K hK => ?_)
 refine sv hF (v_move rfl) rfl ?_; clear hF a; intro a hF
 refine sc hF rfl rfl rfl en49 rfl (Mod_ok B 2 p _ hS.inv (by decide) hp) ?_; clear hF a; intro v w' a hv hF
 obtain ⟨rfl, hS'⟩ := hv
 replace hS := hS.trans hS'
 clear hS'
 refine sv hF (v_assign rfl) rfl ?_; clear hF a; intro a hF
 refine WL_nil (hK _ _ ?_)
 clear hK K
 replace hF := hF.sub _ (c_ 5 rfl (c_ 4 rfl (c_ 0 rfl (c_ 1 rfl (n_)))))
 refine W_seq ?_
 refine W_sr rfl (fun K hK => ?_)
 refine sv2 hF (v_move rfl) (v_move rfl) rfl rfl ?_; clear hF a; intro a hF
 refine WL_nil (hK _ _ ?_)
 clear hK K
 replace hF := hF.sub _ (c_ 9 rfl (c_ 8 rfl (c_ 5 rfl (c_ 4 rfl (c_ 1 rfl (n_))))))
 refine W_block ?_
 refine W_loop (fun m a w1 => ∃ j : Nat, Fr 17 [(1, .int .u32 (p : Int)), (5, .int .u32 (frob p j (Px.mod 2 p) : Int)), (8, .int .i64 (n : Int)), (9, .int .i64 (j : Int))] a ∧ St FDx B w w1 ∧ j ≤ n ∧ m = n - j) (n) ?_ ?_
 ·
  skip
  exact ⟨0, hF.sub _ (c_ 1 rfl (c_ 5 rfl (c_ 8 rfl (c_ 9 rfl n_)))), hS, by omega, rfl⟩
 ·
  skip
  clear hF
  clear hS
  rintro m a w1 ⟨j, hF, hS, hj, rfl⟩
  refine W_sr rfl (fun K hK => ?_)
  refine sv hF (v_lss rfl rfl) rfl ?_; clear hF a; intro a hF
  refine WL_nil (hK _ _ ?_)
  clear hK K
  refine W_seq ?_
  refine W_if hF rfl (fun hc1 => ?_) (fun hc1 => ?_)
  ·
   skip
   try simp only [dcl] at hc1
   refine W_skip ?_
   refine W_seq ?_
   refine W_block ?_
   refine W_reg rfl (fun K hK => ?_)
   refine sv3 hF (v_move rfl) (v_move rfl) (v_move rfl) rfl rfl rfl ?_; clear hF a; intro a hF
   refine sc hF rfl rfl rfl en40 rfl (MulMod_ok B _ _ p _ hS.inv (frob_lt32 j hp) (frob_lt32 j hp) hp) ?_; clear hF a; intro v w' a hv hF
   obtain ⟨rfl, hS'⟩ := hv
   replace hS := hS.trans hS'
   clear hS'
   refine sv hF (v_assign rfl) rfl ?_; clear hF a; intro a hF
   refine WL_nil (hK _ _ ?_)
   clear hK K
   replace hF := hF.sub _ (c_ 5 rfl (c_ 1 rfl (c_ 8 rfl (c_ 9 rfl (n_)))))
   refine W_reg rfl (fun K hK => ?_)
   refine sv hF (v_addI rfl rfl (by omega)) rfl ?_; clear hF a; intro a hF
   refine sv hF (v_move rfl) rfl ?_; clear hF a; intro a hF
   refine WL_nil (hK _ _ ?_)
   clear hK K
   rw [← frob_succ] at hF
   exact ⟨n - (j + 1), by omega, j + 1, hF.sub _ (c_ 1 rfl (c_ 5 rfl (c_ 8 rfl (c_ 9 rfl n_)))), hS, by omega, rfl⟩
  ·
   skip
   try simp only [dcl] at hc1
   obtain rfl : j = n := by omega
   refine W_exit rfl ?_
   refine W_sr rfl (fun K hK => ?_)
   refine sv2 hF (v_move rfl) (v_assign rfl) rfl rfl ?_; clear hF a; intro a hF
   refine WL_nil (hK _ _ ?_)
   clear hK K
   replace hF := hF.sub _ (c_ 4 rfl (c_ 16 rfl (c_ 1 rfl (c_ 5 rfl (c_ 8 rfl (c_ 9 rfl (n_)))))))
   refine W_ret ?_
   refine ⟨_, _, hF, rfl, ?_⟩
   exact ⟨rfl, hS⟩

set_option maxRecDepth 100000 in
set_option maxHeartbeats 1000000 in
theorem irr_ok (B p : Nat) (w : World) (hI : Inv FDx B w) (hp : p < 4294967296) : Ret Try.prog 48 [.int .u32 (p : Int)] w fun v w' => v = .bool (irr p) ∧ St FDx B w w'  := by
 refine enter 35 [(0, .int .u32 (p : Int))] 2 Try.func48 rfl rfl rfl rfl rfl ?_; intro a hF
 have hS := St.refl hI
 refine W_sr rfl (fun K hK => ?_)
 refine sv hF (v_assign rfl) rfl ?_; clear hF a; intro a hF
 refine WL_nil (hK _ _ ?_)
 clear hK K
 refine W_sr rfl (fun K hK => ?_)
 refine sv hF (v_move rfl) rfl ?_; clear hF a; intro a hF
 refine sv hF (v_cv Try.underlying34 Try.underlying78 rfl (wrap_u64 _ (by omega))) rfl ?_; clear hF a; intro a hF
 refine sc hF rfl rfl rfl en35 rfl (Deg_ok B p _ hS.inv (by omega)) ?_; clear hF a; intro v w' a hv hF
 obtain ⟨rfl, hS'⟩ := hv
 replace hS := hS.trans hS'
 clear hS'
 refine sv hF (v_assign rfl) rfl ?_; clear hF a; intro a hF
 refine WL_nil (hK _ _ ?_)
 clear hK K
 replace hF := hF.sub _ (c_ 3 rfl (c_ 2 rfl (c_ 0 rfl (n_))))
 refine W_seq ?_
 refine W_sr rfl (fun K hK => ?_)
 refine sv hF (v_move rfl) rfl ?_; clear hF a; intro a hF
 refine sb hF (v_lss rfl rfl) rfl ?_ ?_
 ·
  clear hF a; intro hc1 a hF
  try simp only [dcl] at hc1
  refine sv hF (v_move rfl) rfl ?_; clear hF a; intro a hF
  refine svn hF rfl rfl rfl ?_; clear hF a; intro a hF
  refine svn hF rfl rfl rfl ?_; clear hF a; intro a hF
  refine sv2 hF (v_pickT rfl rfl) (v_move rfl) rfl rfl ?_; clear hF a; intro a hF
  refine svn hF rfl rfl rfl ?_; clear hF a; intro a hF
  refine svn hF rfl rfl rfl ?_; clear hF a; intro a hF
  refine svn hF rfl rfl rfl ?_; clear hF a; intro a hF
  refine svn hF rfl rfl rfl ?_; clear hF a; intro a hF
  refine svn hF rfl rfl rfl ?_; clear hF a; intro a hF
  refine svn hF rfl rfl rfl ?_; clear hF a; intro a hF
  refine sv hF (v_pickT rfl rfl) rfl ?_; clear hF a; intro a hF
  refine WL_nil (hK _ _ ?_)
  clear hK K
  replace hF := hF.sub _ (c_ 21 rfl (c_ 3 rfl (c_ 2 rfl (c_ 0 rfl (n_)))))
  refine W_ifT hF rfl ?_
  refine W_sr rfl (fun K hK => ?_)
  refine sv hF (v_assign rfl) rfl ?_; clear hF a; intro a hF
  refine WL_nil (hK _ _ ?_)
  clear hK K
  replace hF := hF.sub _ (c_ 2 rfl (c_ 3 rfl (c_ 0 rfl (n_))))
  refine W_ret ?_
  refine ⟨_, _, hF, rfl, ?_⟩
  first
  | exact ⟨congrArg _ (irr_out (by rw [← deg_range]; omega)).symm, hS⟩
  | exact ⟨congrArg _ (irr_f2 (by assumption)).symm, hS⟩
  | exact ⟨congrArg _ hbad.symm, hS⟩
  | exact ⟨congrArg _ (irr_t hr hfr (fun j hj => hall j (by omega))).symm, hS⟩
 ·
  clear hF a; intro hc1 a hF
  try simp only [dcl] at hc1
  refine sv hF (v_move rfl) rfl ?_; clear hF a; intro a hF
  refine svg hF rfl ?_
  refine sv hF (v_move rfl) rfl ?_; clear hF a; intro a hF
  refine svg hF rfl ?_
  refine sb hF (v_gtr rfl rfl) rfl ?_ ?_
  ·
   clear hF a; intro hc2 a hF
   try simp only [dcl] at hc2
   refine sv2 hF (v_pickF rfl rfl) (v_move rfl) rfl rfl ?_; clear hF a; intro a hF
   refine svn hF rfl rfl rfl ?_; clear hF a; intro a hF
   refine svn hF rfl rfl rfl ?_; clear hF a; intro a hF
   refine svn hF rfl rfl rfl ?_; clear hF a; intro a hF
   refine svn hF rfl rfl rfl ?_; clear hF a; intro a hF
   refine svn hF rfl rfl rfl ?_; clear hF a; intro a hF
   refine svn hF rfl rfl rfl ?_; clear hF a; intro a hF
   refine sv hF (v_pickT rfl rfl) rfl ?_; clear hF a; intro a hF
   refine WL_nil (hK _ _ ?_)
   clear hK K
   replace hF := hF.sub _ (c_ 21 rfl (c_ 3 rfl (c_ 2 rfl (c_ 0 rfl (n_)))))
   refine W_ifT hF rfl ?_
   refine W_sr rfl (fun K hK => ?_)
   refine sv hF (v_assign rfl) rfl ?_; clear hF a; intro a hF
   refine WL_nil (hK _ _ ?_)
   clear hK K
   replace hF := hF.sub _ (c_ 2 rfl (c_ 3 rfl (c_ 0 rfl (n_))))
   refine W_ret ?_
   refine ⟨_, _, hF, rfl, ?_⟩
   first
   | exact ⟨congrArg _ (irr_out (by rw [← deg_range]; omega)).symm, hS⟩
   | exact ⟨congrArg _ (irr_f2 (by assumption)).symm, hS⟩
   | exact ⟨congrArg _ hbad.symm, hS⟩
   | exact ⟨congrArg _ (irr_t hr hfr (fun j hj => hall j (by omega))).symm, hS⟩
  ·
   clear hF a; intro hc2 a hF
   try simp only [dcl] at hc2
   refine sv2 hF (v_pickF rfl rfl) (v_move rfl) rfl rfl ?_; clear hF a; intro a hF
   refine svg hF rfl ?_
   have hr : 2 ≤ p ∧ p < 131072 := deg_range.1 ⟨by assumption, by assumption⟩
   have hp0 : p ≠ 0 := by omega
   have hl := log2_lt hp0 (k := 17) (by omega)
   rw [deg_pos hp0] at hF
   refine sv hF (v_move rfl) rfl ?_; clear hF a; intro a hF
   refine svg hF rfl ?_
   refine sv hF (v_move rfl) rfl ?_; clear hF a; intro a hF
   refine svg hF rfl ?_
   refine sc hF rfl rfl rfl en65 rfl (frob_ok B (Nat.log2 p) p _ hS.inv (by omega) hp) ?_; clear hF a; intro v w' a hv hF
   obtain ⟨rfl, hS'⟩ := hv
   replace hS := hS.trans hS'
   clear hS'
   refine svg hF rfl ?_
   refine sv hF (v_move rfl) rfl ?_; clear hF a; intro a hF
   refine svg hF rfl ?_
   refine sc hF rfl rfl rfl en49 rfl (Mod_ok B 2 p _ hS.inv (by decide) hp) ?_; clear hF a; intro v w' a hv hF
   obtain ⟨rfl, hS'⟩ := hv
   replace hS := hS.trans hS'
   clear hS'
   refine svg hF rfl ?_
   refine sv hF (v_neq rfl rfl) rfl ?_; clear hF a; intro a hF
   refine sv hF (v_pickF rfl rfl) rfl ?_; clear hF a; intro a hF
   refine WL_nil (hK _ _ ?_)
   clear hK K
   replace hF := hF.sub _ (c_ 21 rfl (c_ 3 rfl (c_ 2 rfl (c_ 0 rfl (n_)))))
   refine W_if hF rfl (fun hc3 => ?_) (fun hc3 => ?_)
   ·
    skip
    try simp only [dcl] at hc3
    refine W_sr rfl (fun K hK => ?_)
    refine sv hF (v_assign rfl) rfl ?_; clear hF a; intro a hF
    refine WL_nil (hK _ _ ?_)
    clear hK K
    replace hF := hF.sub _ (c_ 2 rfl (c_ 3 rfl (c_ 0 rfl (n_))))
    refine W_ret ?_
    refine ⟨_, _, hF, rfl, ?_⟩
    first
    | exact ⟨congrArg _ (irr_out (by rw [← deg_range]; omega)).symm, hS⟩
    | exact ⟨congrArg _ (irr_f2 (by assumption)).symm, hS⟩
    | exact ⟨congrArg _ hbad.symm, hS⟩
    | exact ⟨congrArg _ (irr_t hr hfr (fun j hj => hall j (by omega))).symm, hS⟩
   ·
    skip
    try simp only [dcl] at hc3
    refine W_skip ?_
    refine W_seq ?_
    have hfr : frob p (Nat.log2 p) (Px.mod 2 p) = Px.mod 2 p := by omega
    refine W_sr rfl (fun K hK => ?_)
    refine sv hF (v_assign rfl) rfl ?_; clear hF a; intro a hF
    refine WL_nil (hK _ _ ?_)
    clear hK K
    replace hF := hF.sub _ (c_ 4 rfl (c_ 3 rfl (c_ 2 rfl (c_ 0 rfl (n_)))))
    refine W_block ?_
    refine W_loop (fun m a w1 => ∃ i : Nat, Fr 35 [(0, .int .u32 (p : Int)), (3, .int .i64 (Nat.log2 p : Int)), (4, .int .i64 (i : Int))] a ∧ St FDx B w w1 ∧ 1 ≤ i ∧ i ≤ Nat.log2 p + 1 ∧ (∀ j, j + 1 < i → Gam.gcd p (frob p (j + 1) (Px.mod 2 p) ^^^ 2) = 1) ∧ m = Nat.log2 p + 1 - i) (Nat.log2 p) ?_ ?_
    ·
     skip
     exact ⟨1, hF.sub _ (c_ 0 rfl (c_ 3 rfl (c_ 4 rfl n_))), hS, by omega, by omega, fun j hj => by omega, by omega⟩
    ·
     skip
     clear hF
     clear hS
     rintro m a w1 ⟨i, hF, hS, hi1, hi2, hall, rfl⟩
     refine W_seq ?_
     refine W_sr rfl (fun K hK => ?_)
     refine sv2 hF (v_move rfl) (v_move rfl) rfl rfl ?_; clear hF a; intro a hF
     refine sv hF (v_quoI rfl rfl (by omega) (by omega) (by omega)) rfl ?_; clear hF a; intro a hF
     refine sv hF (v_leq rfl rfl) rfl ?_; clear hF a; intro a hF
     refine WL_nil (hK _ _ ?_)
     clear hK K
     replace hF := hF.sub _ (c_ 25 rfl (c_ 0 rfl (c_ 3 rfl (c_ 4 rfl (n_)))))
     refine W_if hF rfl (fun hc4 => ?_) (fun hc4 => ?_)
     ·
      skip
      try simp only [dcl] at hc4
      refine W_skip ?_
      refine W_seq ?_
      refine W_block ?_
      refine W_sr rfl (fun K hK => ?_)
      refine sv3 hF (v_move rfl) (v_move rfl) (v_move rfl) rfl rfl rfl ?_; clear hF a; intro a hF
      refine sc hF rfl rfl rfl en65 rfl (frob_ok B i p _ hS.inv (by omega) hp) ?_; clear hF a; intro v w' a hv hF
      obtain ⟨rfl, hS'⟩ := hv
      replace hS := hS.trans hS'
      clear hS'
      refine sv hF (v_xorN (n := 2) rfl rfl (fits_u32 (frob_lt32 i hp)) (fits_u32 (by decide))) rfl ?_; clear hF a; intro a hF
      refine sc hF rfl rfl rfl en66 rfl (gcd_ok B p _ _ hS.inv hp (Px.xor_lt (k := 32) (frob_lt32 i hp) (by decide))) ?_; clear hF a; intro v w' a hv hF
      obtain ⟨rfl, hS'⟩ := hv
      replace hS := hS.trans hS'
      clear hS'
      refine sv hF (v_neq rfl rfl) rfl ?_; clear hF a; intro a hF
      refine WL_nil (hK _ _ ?_)
      clear hK K
      replace hF := hF.sub _ (c_ 34 rfl (c_ 0 rfl (c_ 3 rfl (c_ 4 rfl (n_)))))
      refine W_if hF rfl (fun hc5 => ?_) (fun hc5 => ?_)
      ·
       skip
       try simp only [dcl] at hc5
       obtain ⟨i, rfl⟩ : ∃ k, i = k + 1 := ⟨i - 1, by omega⟩
       have hbad := irr_f3 i (by omega) (show Gam.gcd p (frob p (i + 1) (Px.mod 2 p) ^^^ 2) ≠ 1 by omega)
       refine W_sr rfl (fun K hK => ?_)
       refine sv hF (v_assign rfl) rfl ?_; clear hF a; intro a hF
       refine WL_nil (hK _ _ ?_)
       clear hK K
       replace hF := hF.sub _ (c_ 2 rfl (c_ 0 rfl (c_ 3 rfl (c_ 4 rfl (n_)))))
       refine W_ret ?_
       refine ⟨_, _, hF, rfl, ?_⟩
       first
       | exact ⟨congrArg _ (irr_out (by rw [← deg_range]; omega)).symm, hS⟩
       | exact ⟨congrArg _ (irr_f2 (by assumption)).symm, hS⟩
       | exact ⟨congrArg _ hbad.symm, hS⟩
       | exact ⟨congrArg _ (irr_t hr hfr (fun j hj => hall j (by omega))).symm, hS⟩
      ·
       skip
       try simp only [dcl] at hc5
       have hall2 : ∀ j, j + 1 < i + 1 → Gam.gcd p (frob p (j + 1) (Px.mod 2 p) ^^^ 2) = 1 := fun j hj => by
        by_cases h9 : j + 1 < i
        ·
         exact hall j h9
        ·
         obtain rfl : j + 1 = i := by omega
         omega
       refine W_skip ?_
       refine W_reg rfl (fun K hK => ?_)
       refine sv hF (v_move rfl) rfl ?_; clear hF a; intro a hF
       refine sv hF (v_addI rfl rfl (by omega)) rfl ?_; clear hF a; intro a hF
       refine sv hF (v_assign rfl) rfl ?_; clear hF a; intro a hF
       refine WL_nil (hK _ _ ?_)
       clear hK K
       replace hF := hF.sub _ (c_ 4 rfl (c_ 27 rfl (c_ 26 rfl (c_ 0 rfl (c_ 3 rfl (n_))))))
       exact ⟨Nat.log2 p + 1 - (i + 1), by omega, i + 1, hF.sub _ (c_ 0 rfl (c_ 3 rfl (c_ 4 rfl n_))), hS, by omega, by omega, hall2, rfl⟩
     ·
      skip
      try simp only [dcl] at hc4
      refine W_exit rfl ?_
      refine W_sr rfl (fun K hK => ?_)
      refine sv hF (v_assign rfl) rfl ?_; clear hF a; intro a hF
      refine WL_nil (hK _ _ ?_)
      clear hK K
      replace hF := hF.sub _ (c_ 2 rfl (c_ 0 rfl (c_ 3 rfl (c_ 4 rfl (n_)))))
      refine W_ret ?_
      refine ⟨_, _, hF, rfl, ?_⟩
      first
      | exact ⟨congrArg _ (irr_out (by rw [← deg_range]; omega)).symm, hS⟩
      | exact ⟨congrArg _ (irr_f2 (by assumption)).symm, hS⟩
      | exact ⟨congrArg _ hbad.symm, hS⟩
      | exact ⟨congrArg _ (irr_t hr hfr (fun j hj => hall j (by omega))).symm, hS⟩

set_option maxRecDepth 100000 in
set_option maxHeartbeats 1000000 in
theorem divs_ok (B M : Nat) (w : World) (hI : Inv FDx B w) (hM : 1 ≤ M) (hM2 : M < 65536) : Ret Try.prog 50 [.int .i64 (M : Int)] w fun v w' => ∃ l, Row FDx B w'.heap.size w' v (ints l) ∧ ((∀ r ∈ l, 2 ≤ r ∧ r ∣ M) ∧ (∀ m, 2 ≤ m → m ∣ M → ∃ r ∈ l, r ∣ m) ∧ (∀ r ∈ l, r < 65536) ∧ l.length ≤ 65536) ∧ St FDx B w w'  := by
 refine enter 25 [(0, .int .i64 (M : Int))] 2 Try.func50 rfl rfl rfl rfl rfl ?_; intro a hF
 have hS := St.refl hI
 refine W_sr rfl (fun K hK => ?_)
 refine sv hF (v_assign rfl) rfl ?_; clear hF a; intro a hF
 refine WL_nil (hK _ _ ?_)
 clear hK K
 refine W_sr rfl (fun K hK => ?_)
 refine sv hF (v_assign rfl) rfl ?_; clear hF a; intro a hF
 refine WL_nil (hK _ _ ?_)
 clear hK K
 refine W_seq ?_
 refine W_sr rfl (fun K hK => ?_)
 refine sv hF (v_assign rfl) rfl ?_; clear hF a; intro a hF
 refine WL_nil (hK _ _ ?_)
 clear hK K
 refine W_block ?_
 refine W_loop (fun m a w1 => ∃ n q l v b, Fr 25 [(0, .int .i64 ((n : Nat) : Int)), (3, v), (4, .int .i64 ((q : Nat) : Int))] a ∧ St FDx B w w1 ∧ Gam.Own FDx B w.heap.size w1 3 v b (ints l) ∧ DivAt M n q l ∧ q ≤ M + 2 ∧ m = M + 1 - q + n) (M + 1 - 2 + M) ?_ ?_
 ·
  skip
  exact ⟨_, 2, [], _, _, hF.sub _ (c_ 0 rfl (c_ 3 rfl (c_ 4 rfl n_))), hS, Gam.Own.nil _ _ _ _ _, divAt_start hM, by omega, rfl⟩
 ·
  skip
  clear hF
  clear hS
  rintro m a w1 ⟨n, q, l, v, b, hF, hS, ho, hd, hqM, rfl⟩
  have hq2 := hd.two
  have hnM := hd.le
  have hn1 := hd.pos
  refine W_seq ?_
  refine W_sr rfl (fun K hK => ?_)
  refine sv hF (v_move rfl) rfl ?_; clear hF a; intro a hF
  refine sv hF (v_gtr rfl rfl) rfl ?_; clear hF a; intro a hF
  refine WL_nil (hK _ _ ?_)
  clear hK K
  replace hF := hF.sub _ (c_ 6 rfl (c_ 0 rfl (c_ 3 rfl (c_ 4 rfl (n_)))))
  refine W_if hF rfl (fun hc1 => ?_) (fun hc1 => ?_)
  ·
   skip
   try simp only [dcl] at hc1
   have hqn := divAt_le hd (by omega)
   have hlen := hd.len
   refine W_skip ?_
   refine W_seq ?_
   refine W_block ?_
   refine W_cut (fun a w2 => ∃ l2 v b, Fr 25 [(0, .int .i64 (n : Int)), (3, v), (4, .int .i64 (q : Int))] a ∧ St FDx B w w2 ∧ Gam.Own FDx B w.heap.size w2 3 v b (ints l2) ∧ DivOut M n q l2) ?_ ?_
   ·
    skip
    refine W_sr rfl (fun K hK => ?_)
    refine sv2 hF (v_move rfl) (v_move rfl) rfl rfl ?_; clear hF a; intro a hF
    refine sv hF (v_remI rfl rfl (by omega) (by omega)) rfl ?_; clear hF a; intro a hF
    refine sv hF (v_eql rfl rfl) rfl ?_; clear hF a; intro a hF
    refine WL_nil (hK _ _ ?_)
    clear hK K
    replace hF := hF.sub _ (c_ 12 rfl (c_ 0 rfl (c_ 3 rfl (c_ 4 rfl (n_)))))
    refine W_if hF rfl (fun hc2 => ?_) (fun hc2 => ?_)
    ·
     skip
     try simp only [dcl] at hc2
     refine W_reg rfl (fun K hK => ?_)
     refine sv2 hF (v_move rfl) (v_move rfl) rfl rfl ?_; clear hF a; intro a hF
     refine s_bs (D := FDx) (B := B) hF sl23 rfl rfl (by decide) (by simp [Value.cells]) (by decide) hS.inv rfl ?_; clear hF a; intro w' a hm hI' hb hF
     replace ho := ho.mb hm (fun _ _ => by simp)
     replace hS := hS.mb0 hm
     clear hm hI'
     refine s_app (D := FDx) (B := B) hF rfl sl23 rfl rfl ho (hb.row (by decide)) (by simp [Value.oneCell']) (by simp; omega) (by simp [maxLen]; omega) (hS.ext.size) (by decide) hS.inv rfl ?_; clear hF a; intro v' b' w' a ho' hm hI' hb' hF
     replace hS := hS.mb hm (fun k h => Nat.le_trans (Nat.le_refl _) (ho.lt k h).1)
     replace ho := ho'
     clear hm hI' ho' hb
     refine sv hF (v_assign rfl) rfl ?_; clear hF a; intro a hF
     refine WL_nil (hK _ _ ?_)
     clear hK K
     replace hF := hF.sub _ (c_ 3 rfl (c_ 0 rfl (c_ 4 rfl (n_))))
     exact ⟨_, _, _, hF.sub _ (c_ 0 rfl (c_ 3 rfl (c_ 4 rfl n_))), hS, by rw [ints_snoc]; exact ho, divAt_found hd (mod_dvd hc2)⟩
    ·
     skip
     try simp only [dcl] at hc2
     refine W_skip ?_
     exact ⟨_, _, _, hF.sub _ (c_ 0 rfl (c_ 3 rfl (c_ 4 rfl n_))), hS, ho, divAt_none hd (mod_ndvd hc2)⟩
   ·
    skip
    clear hF
    clear hS ho
    rintro a w2 ⟨l2, v, b, hF, hS, ho, hd2⟩
    refine W_block ?_
    refine W_loop (fun m a w3 => Fr 25 [(0, .int .i64 (m : Int)), (3, v), (4, .int .i64 (q : Int))] a ∧ w2 = w3 ∧ m ≤ n ∧ DivOut M m q l2) (n) ?_ ?_
    ·
     skip
     exact ⟨hF, rfl, Nat.le_refl _, hd2⟩
    ·
     skip
     clear hF
     rintro m a _ ⟨hF, rfl, hmn, hd2⟩
     refine W_seq ?_
     refine W_sr rfl (fun K hK => ?_)
     refine sv2 hF (v_move rfl) (v_move rfl) rfl rfl ?_; clear hF a; intro a hF
     refine sv hF (v_remI rfl rfl (by omega) (by omega)) rfl ?_; clear hF a; intro a hF
     refine sv hF (v_eql rfl rfl) rfl ?_; clear hF a; intro a hF
     refine WL_nil (hK _ _ ?_)
     clear hK K
     replace hF := hF.sub _ (c_ 20 rfl (c_ 0 rfl (c_ 3 rfl (c_ 4 rfl (n_)))))
     refine W_if hF rfl (fun hc3 => ?_) (fun hc3 => ?_)
     ·
      skip
      try simp only [dcl] at hc3
      have hst := divOut_step hd2 (mod_dvd hc3)
      refine W_skip ?_
      refine W_block ?_
      refine W_reg rfl (fun K hK => ?_)
      refine sv2 hF (v_move rfl) (v_move rfl) rfl rfl ?_; clear hF a; intro a hF
      refine sv hF (v_quoN (m := m) (n := q) rfl rfl (by omega) (fits_i64 (by omega))) rfl ?_; clear hF a; intro a hF
      refine sv hF (v_assign rfl) rfl ?_; clear hF a; intro a hF
      refine WL_nil (hK _ _ ?_)
      clear hK K
      replace hF := hF.sub _ (c_ 0 rfl (c_ 3 rfl (c_ 4 rfl (n_))))
      exact ⟨_, hst.2, hF.sub _ (c_ 0 rfl (c_ 3 rfl (c_ 4 rfl n_))), rfl, by omega, hst.1⟩
     ·
      skip
      try simp only [dcl] at hc3
      have hd3 := divOut_end hd2 (mod_ndvd hc3)
      refine W_exit rfl ?_
      refine W_reg rfl (fun K hK => ?_)
      refine sv hF (v_move rfl) rfl ?_; clear hF a; intro a hF
      refine sv hF (v_addI rfl rfl (by omega)) rfl ?_; clear hF a; intro a hF
      refine sv hF (v_assign rfl) rfl ?_; clear hF a; intro a hF
      refine WL_nil (hK _ _ ?_)
      clear hK K
      replace hF := hF.sub _ (c_ 4 rfl (c_ 8 rfl (c_ 7 rfl (c_ 0 rfl (c_ 3 rfl (n_))))))
      exact ⟨_, by omega, m, q + 1, _, _, _, hF.sub _ (c_ 0 rfl (c_ 3 rfl (c_ 4 rfl n_))), hS, ho, hd3, by omega, rfl⟩
  ·
   skip
   try simp only [dcl] at hc1
   refine W_exit rfl ?_
   refine W_sr rfl (fun K hK => ?_)
   refine sv2 hF (v_move rfl) (v_assign rfl) rfl rfl ?_; clear hF a; intro a hF
   refine WL_nil (hK _ _ ?_)
   clear hK K
   replace hF := hF.sub _ (c_ 2 rfl (c_ 24 rfl (c_ 0 rfl (c_ 3 rfl (c_ 4 rfl (n_))))))
   refine W_ret ?_
   refine ⟨_, _, hF, rfl, ?_⟩
   exact ⟨l, ho.row (by decide), ⟨hd.mem, divAt_end hd (by omega), fun r hr => Nat.lt_of_le_of_lt (Nat.le_of_dvd (by omega) (hd.mem r hr).2) hM2, by have := hd.len; omega⟩, hS⟩

set_option maxRecDepth 100000 in
set_option maxHeartbeats 1000000 in
theorem prim_ok (B p : Nat) (w : World) (hI : Inv FDx B w) (hp : p < 4294967296) : Ret Try.prog 36 [.int .u32 (p : Int)] w fun v w' => v = .bool (prim p) ∧ St FDx B w w'  := by
 refine enter 33 [(0, .int .u32 (p : Int))] 2 Try.func36 rfl rfl rfl rfl rfl ?_; intro a hF
 have hS := St.refl hI
 refine W_sr rfl (fun K hK => ?_)
 refine sv hF (v_assign rfl) rfl ?_; clear hF a; intro a hF
 refine WL_nil (hK _ _ ?_)
 clear hK K
 refine W_seq ?_
 refine W_sr rfl (fun K hK => ?_)
 refine sv hF (v_move rfl) rfl ?_; clear hF a; intro a hF
 refine sc hF rfl rfl rfl en48 rfl (irr_ok B p _ hS.inv hp) ?_; clear hF a; intro v w' a hv hF
 obtain ⟨rfl, hS'⟩ := hv
 replace hS := hS.trans hS'
 clear hS'
 refine sb hF (v_not rfl) rfl ?_ ?_
 ·
  clear hF a; intro hc1 a hF
  try simp only [dcl] at hc1
  refine sv hF (v_move rfl) rfl ?_; clear hF a; intro a hF
  refine svn hF rfl rfl rfl ?_; clear hF a; intro a hF
  refine svn hF rfl rfl rfl ?_; clear hF a; intro a hF
  refine svn hF rfl rfl rfl ?_; clear hF a; intro a hF
  refine sv hF (v_pickT rfl rfl) rfl ?_; clear hF a; intro a hF
  refine WL_nil (hK _ _ ?_)
  clear hK K
  replace hF := hF.sub _ (c_ 13 rfl (c_ 2 rfl (c_ 0 rfl (n_))))
  refine W_ifT hF rfl ?_
  refine W_sr rfl (fun K hK => ?_)
  refine sv hF (v_assign rfl) rfl ?_; clear hF a; intro a hF
  refine WL_nil (hK _ _ ?_)
  clear hK K
  replace hF := hF.sub _ (c_ 2 rfl (c_ 0 rfl (n_)))
  refine W_ret ?_
  refine ⟨_, _, hF, rfl, ?_⟩
  first
  | exact ⟨congrArg _ (prim_f1 (by assumption)).symm, hS⟩
  | exact ⟨congrArg _ (prim_f2 (p := p) (by omega)).symm, hS⟩
  | exact ⟨congrArg _ hbad.symm, hS⟩
  | exact ⟨congrArg _ hgood.symm, hS⟩
 ·
  clear hF a; intro hc1 a hF
  try simp only [dcl] at hc1
  refine sv hF (v_move rfl) rfl ?_; clear hF a; intro a hF
  refine svg hF rfl ?_
  refine sv hF (v_move rfl) rfl ?_; clear hF a; intro a hF
  refine svg hF rfl ?_
  refine sc hF rfl rfl rfl en49 rfl (Mod_ok B 2 p _ hS.inv (by decide) hp) ?_; clear hF a; intro v w' a hv hF
  obtain ⟨rfl, hS'⟩ := hv
  replace hS := hS.trans hS'
  clear hS'
  refine svg hF rfl ?_
  refine sv hF (v_eql rfl rfl) rfl ?_; clear hF a; intro a hF
  refine sv hF (v_pickF rfl rfl) rfl ?_; clear hF a; intro a hF
  refine WL_nil (hK _ _ ?_)
  clear hK K
  replace hF := hF.sub _ (c_ 13 rfl (c_ 2 rfl (c_ 0 rfl (n_))))
  refine W_if hF rfl (fun hc2 => ?_) (fun hc2 => ?_)
  ·
   skip
   try simp only [dcl] at hc2
   refine W_sr rfl (fun K hK => ?_)
   refine sv hF (v_assign rfl) rfl ?_; clear hF a; intro a hF
   refine WL_nil (hK _ _ ?_)
   clear hK K
   replace hF := hF.sub _ (c_ 2 rfl (c_ 0 rfl (n_)))
   refine W_ret ?_
   refine ⟨_, _, hF, rfl, ?_⟩
   first
   | exact ⟨congrArg _ (prim_f1 (by assumption)).symm, hS⟩
   | exact ⟨congrArg _ (prim_f2 (p := p) (by omega)).symm, hS⟩
   | exact ⟨congrArg _ hbad.symm, hS⟩
   | exact ⟨congrArg _ hgood.symm, hS⟩
  ·
   skip
   try simp only [dcl] at hc2
   refine W_skip ?_
   have hr := irr_range hc1
   have hp0 : p ≠ 0 := by omega
   have hl := log2_lt hp0 (k := 17) (by omega)
   have hl1 := log2_pos hr.1
   have hpw : 2 ^ Nat.log2 p ≤ 65536 := Nat.pow_le_pow_right (n := 2) (by decide) (show Nat.log2 p ≤ 16 by omega)
   have hpw1 : 2 ≤ 2 ^ Nat.log2 p := Nat.pow_le_pow_right (n := 2) (by decide) hl1
   refine W_sr rfl (fun K hK => ?_)
   refine sv hF (v_move rfl) rfl ?_; clear hF a; intro a hF
   refine sv hF (v_cv Try.underlying34 Try.underlying78 rfl (wrap_u64 _ (by omega))) rfl ?_; clear hF a; intro a hF
   refine sc hF rfl rfl rfl en35 rfl (Deg_ok B p _ hS.inv (by omega)) ?_; clear hF a; intro v w' a hv hF
   obtain ⟨rfl, hS'⟩ := hv
   replace hS := hS.trans hS'
   clear hS'
   rw [deg_pos hp0] at hF
   refine sv hF ((v_shl rfl rfl (by omega)).as (congrArg _ (shl_one (by omega)))) rfl ?_; clear hF a; intro a hF
   refine sv hF (v_subN (n := 1) rfl rfl (by omega) (by omega)) rfl ?_; clear hF a; intro a hF
   refine sv hF (v_assign rfl) rfl ?_; clear hF a; intro a hF
   refine WL_nil (hK _ _ ?_)
   clear hK K
   replace hF := hF.sub _ (c_ 3 rfl (c_ 2 rfl (c_ 0 rfl (n_))))
   generalize hN : 2 ^ Nat.log2 p - 1 = N at *
   have hN1 : 1 ≤ N := by omega
   have hN2 : N < 65536 := by omega
   refine W_seq ?_
   refine W_sr rfl (fun K hK => ?_)
   refine sv hF (v_move rfl) rfl ?_; clear hF a; intro a hF
   refine sc hF rfl rfl rfl en50 rfl (divs_ok B N _ hS.inv hN1 hN2) ?_; clear hF a; intro v w' a hv hF
   obtain ⟨l, hrow, ⟨hl1, hl2, hl3, hl4⟩, hS'⟩ := hv
   obtain ⟨sa, cp, rfl⟩ := hrow.sl
   replace hS := hS.trans hS'
   clear hS'
   refine sv hF (v_lenS rfl sl23 rfl) rfl ?_; clear hF a; intro a hF
   refine sv hF (v_move rfl) rfl ?_; clear hF a; intro a hF
   refine WL_nil (hK _ _ ?_)
   clear hK K
   replace hF := hF.sub _ (c_ 22 rfl (c_ 21 rfl (c_ 20 rfl (c_ 3 rfl (c_ 2 rfl (c_ 0 rfl (n_)))))))
   generalize w'.heap.size = M0 at hrow
   rw [ints_length] at hF hrow
   subst hN
   refine W_block ?_
   refine W_loop (fun m a w1 => ∃ i : Nat, Fr 33 [(0, .int .u32 (p : Int)), (3, .int .i64 ((2 ^ Nat.log2 p - 1 : Nat) : Int)), (20, .slice sa l.length cp), (21, .int .i64 (l.length : Int)), (22, .int .i64 (i : Int))] a ∧ St FDx B w w1 ∧ Row FDx B M0 w1 (.slice sa l.length cp) (ints l) ∧ i ≤ l.length ∧ (∀ j q, j < i → l[j]? = some q → Px.pow 2 p ((2 ^ Nat.log2 p - 1) / q) ≠ 1) ∧ m = l.length - i) (l.length) ?_ ?_
   ·
    skip
    exact ⟨0, hF.sub _ (c_ 0 rfl (c_ 3 rfl (c_ 20 rfl (c_ 21 rfl (c_ 22 rfl n_))))), hS, hrow, by omega, fun j q hj => by omega, by omega⟩
   ·
    skip
    clear hF
    clear hS hrow
    rintro m a w1 ⟨i, hF, hS, hrow, hi, hall, rfl⟩
    refine W_sr rfl (fun K hK => ?_)
    refine sv hF (v_lss rfl rfl) rfl ?_; clear hF a; intro a hF
    refine WL_nil (hK _ _ ?_)
    clear hK K
    refine W_seq ?_
    refine W_if hF rfl (fun hc3 => ?_) (fun hc3 => ?_)
    ·
     skip
     try simp only [dcl] at hc3
     obtain ⟨q, hq⟩ : ∃ q, l[i]? = some q := ⟨_, List.getElem?_eq_getElem (by omega)⟩
     obtain ⟨-, g, o, rfl, hcell⟩ := hrow.at (Gam.ints_at hq)
     have hqm := List.mem_of_getElem? hq
     have hq2 := hl1 q hqm
     refine W_skip ?_
     refine W_seq ?_
     refine W_block ?_
     refine W_sr rfl (fun K hK => ?_)
     refine sv hF (v_ixS sl23 rfl rfl (by omega) (by omega)) rfl ?_; clear hF a; intro a hF
     refine sv hF (v_load sc3 rfl (by first | assumption | (rw [toNat_c]; assumption) | exact KC.c (by assumption) | (rw [toNat_c]; exact KC.c (by assumption)) | exact Box.at (by assumption))) rfl ?_; clear hF a; intro a hF
     refine sv hF (v_assign rfl) rfl ?_; clear hF a; intro a hF
     refine WL_nil (hK _ _ ?_)
     clear hK K
     replace hF := hF.sub _ (c_ 5 rfl (c_ 0 rfl (c_ 3 rfl (c_ 20 rfl (c_ 21 rfl (c_ 22 rfl (n_)))))))
     refine W_sr rfl (fun K hK => ?_)
     refine sv2 hF (v_move rfl) (v_move rfl) rfl rfl ?_; clear hF a; intro a hF
     refine sv hF (v_quoN (m := 2 ^ Nat.log2 p - 1) (n := q) rfl rfl (by omega) (fits_i64 (by omega))) rfl ?_; clear hF a; intro a hF
     refine sv hF (v_move rfl) rfl ?_; clear hF a; intro a hF
     refine sc hF rfl rfl rfl en51 rfl (power_ok B 2 ((2 ^ Nat.log2 p - 1) / q) p _ hS.inv (by decide) (by have := Nat.div_le_self (2 ^ Nat.log2 p - 1) q; omega) hp) ?_; clear hF a; intro v w' a hv hF
     obtain ⟨rfl, hS'⟩ := hv
     have hS1 := hS'
     replace hS := hS.trans hS'
     clear hS'
     rw [powB_one] at hF
     replace hrow := hrow.st hS1
     refine sv hF (v_eql rfl rfl) rfl ?_; clear hF a; intro a hF
     refine WL_nil (hK _ _ ?_)
     clear hK K
     replace hF := hF.sub _ (c_ 31 rfl (c_ 0 rfl (c_ 3 rfl (c_ 20 rfl (c_ 21 rfl (c_ 22 rfl (n_)))))))
     refine W_if hF rfl (fun hc4 => ?_) (fun hc4 => ?_)
     ·
      skip
      try simp only [dcl] at hc4
      have hbad := prim_f3 hq2.1 hq2.2 (by omega)
      refine W_sr rfl (fun K hK => ?_)
      refine sv hF (v_assign rfl) rfl ?_; clear hF a; intro a hF
      refine WL_nil (hK _ _ ?_)
      clear hK K
      replace hF := hF.sub _ (c_ 2 rfl (c_ 0 rfl (c_ 3 rfl (c_ 20 rfl (c_ 21 rfl (c_ 22 rfl (n_)))))))
      refine W_ret ?_
      refine ⟨_, _, hF, rfl, ?_⟩
      first
      | exact ⟨congrArg _ (prim_f1 (by assumption)).symm, hS⟩
      | exact ⟨congrArg _ (prim_f2 (p := p) (by omega)).symm, hS⟩
      | exact ⟨congrArg _ hbad.symm, hS⟩
      | exact ⟨congrArg _ hgood.symm, hS⟩
     ·
      skip
      try simp only [dcl] at hc4
      have hall2 : ∀ j r, j < i + 1 → l[j]? = some r → Px.pow 2 p ((2 ^ Nat.log2 p - 1) / r) ≠ 1 := fun j r hj hr => by
       by_cases h9 : j < i
       ·
        exact hall j r h9 hr
       ·
        obtain rfl : j = i := by omega
        rw [hq] at hr
        obtain rfl := Option.some.inj hr
        omega
      refine W_skip ?_
      refine W_reg rfl (fun K hK => ?_)
      refine sv hF (v_addI rfl rfl (by omega)) rfl ?_; clear hF a; intro a hF
      refine sv hF (v_move rfl) rfl ?_; clear hF a; intro a hF
      refine WL_nil (hK _ _ ?_)
      clear hK K
      replace hF := hF.sub _ (c_ 22 rfl (c_ 32 rfl (c_ 0 rfl (c_ 3 rfl (c_ 20 rfl (c_ 21 rfl (n_)))))))
      exact ⟨l.length - (i + 1), by omega, i + 1, hF.sub _ (c_ 0 rfl (c_ 3 rfl (c_ 20 rfl (c_ 21 rfl (c_ 22 rfl n_))))), hS, hrow, by omega, hall2, rfl⟩
    ·
     skip
     try simp only [dcl] at hc3
     have hgood := prim_list hc1 (by omega) hl1 hl2 (fun q hq => by
      obtain ⟨j, hj, e⟩ := List.getElem_of_mem hq
      exact hall j q (by omega) (by rw [List.getElem?_eq_getElem hj, e]))
     refine W_exit rfl ?_
     refine W_sr rfl (fun K hK => ?_)
     refine sv hF (v_assign rfl) rfl ?_; clear hF a; intro a hF
     refine WL_nil (hK _ _ ?_)
     clear hK K
     replace hF := hF.sub _ (c_ 2 rfl (c_ 0 rfl (c_ 3 rfl (c_ 20 rfl (c_ 21 rfl (c_ 22 rfl (n_)))))))
     refine W_ret ?_
     refine ⟨_, _, hF, rfl, ?_⟩
     first
     | exact ⟨congrArg _ (prim_f1 (by assumption)).symm, hS⟩
     | exact ⟨congrArg _ (prim_f2 (p := p) (by omega)).symm, hS⟩
     | exact ⟨congrArg _ hbad.symm, hS⟩
     | exact ⟨congrArg _ hgood.symm, hS⟩

end Go.Proofs.Ytkoiolamnnmokaa

/- The lock and sync.Once, in the run of one goroutine: each function once. -/
set_option linter.unusedVariables false
set_option linter.unusedSimpArgs false
namespace Go.Proofs.Ytkoiolamnnmokaa
open Go

theorem disable (w : World) : (callFunc 89 #[]).run Try.prog w = .ok (.value (.tuple #[])) w := run_call_mark0 Try.func89 (by kernel_rfl) (by kernel_rfl) (by kernel_rfl) .disable (by kernel_rfl) w
theorem enable (w : World) : (callFunc 91 #[]).run Try.prog w = .ok (.value (.tuple #[])) w := run_call_mark0 Try.func91 (by kernel_rfl) (by kernel_rfl) (by kernel_rfl) .enable (by kernel_rfl) w
theorem acquire (a : Addr) (w : World) : (callFunc 92 #[.pointer (some a)]).run Try.prog w = .ok (.value (.tuple #[])) w := run_call_marked Try.func92 (by kernel_rfl) (by kernel_rfl) (by kernel_rfl) .acquire (by kernel_rfl) a w
theorem releaseMerge (a : Addr) (w : World) : (callFunc 94 #[.pointer (some a)]).run Try.prog w = .ok (.value (.tuple #[])) w := run_call_marked Try.func94 (by kernel_rfl) (by kernel_rfl) (by kernel_rfl) .releaseMerge (by kernel_rfl) a w

set_option maxRecDepth 100000 in
/-- The inner lock, free: taken. -/
theorem ilock_free (a : Addr) (w : World) (hc : w.cell? a = some (.int .i32 0)) (hz : w.frozen? a = false) :
    Calls Try.prog 85 #[.pointer (some a)] w fun e w' => e = .returned (.tuple #[]) ∧ w' = w.setCell a (.int .i32 1) := by
  have hd := disable
  have he := enable
  have ha := acquire
  have hcas := run_call_cas_hit (P := Try.prog) Try.func90 (by kernel_rfl) (by kernel_rfl) (by kernel_rfl) .i32 (by kernel_rfl) (y := 1) hc hz
  have hc' : (w.setCell a (.int .i32 1)).cell? a = some (.int .i32 1) := World.cell?_setCell_same w a _ hc
  have hcv := run_convert_to_unsafe (P := Try.prog) (src := 122) (dst := 126) Try.underlying122 Try.underlying126 (by kernel_rfl) hc'
  go_enter Try.func85, Try.ntmps85
  go_wp2
  first | go_end0 | (simp only [Exit.inBlock, Exit.then]; refine bodyPost_ret (results_none rfl _ _ _) rfl ?_) | refine bodyPost_ret (results_none rfl _ _ _) rfl ?_
  exact ⟨rfl, rfl⟩

/-- The lock, free: taken. -/
theorem lock_free (b off : Nat) (w : World) (hc : w.cell? ⟨b, off, none⟩ = some (.int .i32 0)) (hz : w.frozen? ⟨b, off, none⟩ = false) :
    Calls Try.prog 81 #[.pointer (some ⟨b, off, none⟩)] w fun e w' => e = .returned (.tuple #[]) ∧ w' = w.setCell ⟨b, off, none⟩ (.int .i32 1) := by
  go_enter Try.func81, Try.ntmps81
  go_wp2_with (go_at_call 85; refine (ilock_free ⟨b, off, none⟩ _ hc hz).mono ?_; rintro e w' ⟨rfl, rfl⟩)
  go_end0
  exact ⟨rfl, rfl⟩

set_option maxRecDepth 100000 in
/-- The inner lock, let go. -/
theorem iunlock_held (a : Addr) (w : World) (hc : w.cell? a = some (.int .i32 1)) (hz : w.frozen? a = false) :
    Calls Try.prog 86 #[.pointer (some a)] w fun e w' => e = .returned (.tuple #[]) ∧ w' = w.setCell a (.int .i32 0) := by
  have hd := disable
  have he := enable
  have hr := releaseMerge
  have hadd := run_call_add (P := Try.prog) Try.func95 (by kernel_rfl) (by kernel_rfl) (by kernel_rfl) .i32 (by kernel_rfl) (y := -1) (s := 0) hc hz (by simp [go_sem]; rfl)
  have hcv := run_convert_to_unsafe (P := Try.prog) (src := 122) (dst := 126) Try.underlying122 Try.underlying126 (by kernel_rfl) hc
  go_enter Try.func86, Try.ntmps86
  go_wp2
  go_end0
  exact ⟨rfl, rfl⟩

/-- The lock, let go, as a deferred call. -/
theorem unlock_deferred (b off : Nat) (u : FrameMode) (w : World) (hc : w.cell? ⟨b, off, none⟩ = some (.int .i32 1)) (hz : w.frozen? ⟨b, off, none⟩ = false) :
    CallsD Try.prog 82 #[.pointer (some ⟨b, off, none⟩)] u w fun e u' w' => u' = u ∧ (e = .returned (.tuple #[]) ∧ w' = w.setCell ⟨b, off, none⟩ (.int .i32 0)) := by
  go_enter_d Try.func82, Try.ntmps82
  go_wp2_with (go_at_call 86; refine (iunlock_held ⟨b, off, none⟩ _ hc hz).mono ?_; rintro e w' ⟨rfl, rfl⟩)
  go_end0
  exact ⟨rfl, rfl⟩

/-- 'Store(true)' as a deferred call: the cell holds 1. -/
theorem store_deferred (b off : Nat) (x : Value) (u : FrameMode) (w : World) (hc : w.cell? ⟨b, off, none⟩ = some x) (hz : w.frozen? ⟨b, off, none⟩ = false) :
    CallsD Try.prog 83 #[.pointer (some ⟨b, off, none⟩), .bool true] u w fun e u' w' => u' = u ∧ (e = .returned (.tuple #[]) ∧ w' = w.drew.setCell ⟨b, off, none⟩ (.int .u32 1)) := by
  have hc' : w.drew.cell? ⟨b, off, none⟩ = some x := by go_simp
  have hz' : w.drew.frozen? ⟨b, off, none⟩ = false := by go_simp
  have hst := run_call_store (P := Try.prog) Try.func87 (by kernel_rfl) (by kernel_rfl) (by kernel_rfl) (by kernel_rfl) (k := .u32) (y := 1) hc' hz'
  go_enter_d Try.func83, Try.ntmps83
  go_wp2
  go_region_calls
  all_goals (go_end0; exact ⟨rfl, rfl⟩)

/-- 'Load'. -/
theorem load_ok (b off : Nat) (x : Int) (w : World) (hc : w.cell? ⟨b, off, none⟩ = some (.int .u32 x)) :
    Calls Try.prog 69 #[.pointer (some ⟨b, off, none⟩)] w fun e w' => e = .returned (.bool (x != 0)) ∧ w' = w := by
  have hl := run_call_load (P := Try.prog) Try.func80 (by kernel_rfl) (by kernel_rfl) (by kernel_rfl) .u32 (by kernel_rfl) hc
  go_enter Try.func69, Try.ntmps69
  go_wp2
  go_ret
  exact ⟨rfl, rfl⟩

set_option maxRecDepth 100000 in
set_option maxHeartbeats 1600000 in
/-- 'doSlow', not yet done, the lock free: the lock is taken, the function is called, 'done' is stored, the lock is let go. -/
theorem slow_ok (b off : Nat) (pl : Addr) (w : World) (Q : World → Prop)
    (h0 : w.cell? ⟨b, off, none⟩ = some (.int .u32 0)) (h1 : w.cell? ⟨b, off + 1, none⟩ = some (.int .i32 0)) (f1 : w.frozen? ⟨b, off + 1, none⟩ = false)
    (hfn : Calls Try.prog 54 #[.pointer (some pl)] (w.setCell ⟨b, off + 1, none⟩ (.int .i32 1)) fun e w' => e = .returned (.tuple #[]) ∧ Q w')
    (hQ : ∀ w', Q w' → w'.cell? ⟨b, off, none⟩ = some (.int .u32 0) ∧ w'.cell? ⟨b, off + 1, none⟩ = some (.int .i32 1) ∧ w'.frozen? ⟨b, off, none⟩ = false ∧ w'.frozen? ⟨b, off + 1, none⟩ = false) :
    Calls Try.prog 70 #[.pointer (some ⟨b, off, none⟩), .func (.func 54) #[] #[.pointer (some pl)]] w fun e w' => e = .returned (.tuple #[]) ∧
      ∃ w2, Q w2 ∧ w' = (w2.drew.setCell ⟨b, off, none⟩ (.int .u32 1)).setCell ⟨b, off + 1, none⟩ (.int .i32 0) := by
  have hl := load_ok b off 0 (w.setCell ⟨b, off + 1, none⟩ (.int .i32 1)) ((World.cell?_setCell_other _ ⟨b, off + 1, none⟩ ⟨b, off, none⟩ _ (by simp)).trans h0)
  have hnot : ∀ (x : Bool) (w : World), (Op.unary .not (.bool x)).run Try.prog w = .ok (.bool (!x)) w := fun _ _ => rfl
  go_enter_defers Try.func70, Try.ntmps70
  go_wp2_with (first
    | (go_at_call 81; refine (lock_free b (off + 1) _ h1 f1).mono ?_; rintro e w' ⟨rfl, rfl⟩)
    | (go_at_call 69; refine hl.mono ?_; rintro e w' ⟨rfl, rfl⟩)
    | (go_at_call 54; refine hfn.mono ?_; rintro e w2 ⟨rfl, hq⟩))
  obtain ⟨q0, q1, q2, q3⟩ := hQ _ hq
  refine leaves_cons (f := 83) (args := #[.pointer (some ⟨b, off, none⟩), .bool true]) (by simp) (by simp [go_sem]) ?_
  refine (store_deferred b off (.int .u32 0) .returning _ q0 q2).mono ?_
  rintro e u' w'' ⟨rfl, rfl, rfl⟩
  refine leaves_cons (f := 82) (args := #[.pointer (some ⟨b, off + 1, none⟩)]) (by simp [settle]) (by simp [go_sem]) ?_
  refine (unlock_deferred b (off + 1) _ _ ?_ (by simp [q3])).mono ?_
  · refine (World.cell?_setCell_other _ ⟨b, off, none⟩ ⟨b, off + 1, none⟩ _ (by simp)).trans ?_
    rw [World.cell?_drew]
    exact q1
  rintro e u' w'' ⟨rfl, rfl, rfl⟩
  simp [Leaves, settle, results, Try.results70]
  exact ⟨w2, hq, rfl⟩

set_option maxRecDepth 100000 in
set_option maxHeartbeats 1600000 in
/-- 'Do', not yet done. -/
theorem do_first (b off : Nat) (pl : Addr) (w : World) (Q : World → Prop)
    (h0 : w.cell? ⟨b, off, none⟩ = some (.int .u32 0)) (h1 : w.cell? ⟨b, off + 1, none⟩ = some (.int .i32 0)) (f1 : w.frozen? ⟨b, off + 1, none⟩ = false)
    (hfn : Calls Try.prog 54 #[.pointer (some pl)] (w.setCell ⟨b, off + 1, none⟩ (.int .i32 1)) fun e w' => e = .returned (.tuple #[]) ∧ Q w')
    (hQ : ∀ w', Q w' → w'.cell? ⟨b, off, none⟩ = some (.int .u32 0) ∧ w'.cell? ⟨b, off + 1, none⟩ = some (.int .i32 1) ∧ w'.frozen? ⟨b, off, none⟩ = false ∧ w'.frozen? ⟨b, off + 1, none⟩ = false) :
    Calls Try.prog 53 #[.pointer (some ⟨b, off, none⟩), .func (.func 54) #[] #[.pointer (some pl)]] w fun e w' => e = .returned (.tuple #[]) ∧
      ∃ w2, Q w2 ∧ w' = (w2.drew.setCell ⟨b, off, none⟩ (.int .u32 1)).setCell ⟨b, off + 1, none⟩ (.int .i32 0) := by
  have hl := load_ok b off 0 w h0
  have hnot : ∀ (x : Bool) (w : World), (Op.unary .not (.bool x)).run Try.prog w = .ok (.bool (!x)) w := fun _ _ => rfl
  go_enter Try.func53, Try.ntmps53
  go_wp2_with (first
    | (go_at_call 70; refine (slow_ok b off pl _ Q h0 h1 f1 hfn hQ).mono ?_; rintro e w' ⟨rfl, w2, hq, rfl⟩)
    | (go_at_call 69; refine hl.mono ?_; rintro e w' ⟨rfl, rfl⟩))
  go_end0
  exact ⟨rfl, w2, hq, rfl⟩

/-- 'Do', done already: the function is not called. -/
theorem do_done (b off : Nat) (fv : Value) (w : World) (h0 : w.cell? ⟨b, off, none⟩ = some (.int .u32 1)) :
    Calls Try.prog 53 #[.pointer (some ⟨b, off, none⟩), fv] w fun e w' => e = .returned (.tuple #[]) ∧ w' = w := by
  have hl := load_ok b off 1 w h0
  have hnot : ∀ (x : Bool) (w : World), (Op.unary .not (.bool x)).run Try.prog w = .ok (.bool (!x)) w := fun _ _ => rfl
  go_enter Try.func53, Try.ntmps53
  go_wp2_with (go_at_call 69; refine hl.mono ?_; rintro e w' ⟨rfl, rfl⟩)
  go_end0
  exact ⟨rfl, rfl⟩

end Go.Proofs.Ytkoiolamnnmokaa
