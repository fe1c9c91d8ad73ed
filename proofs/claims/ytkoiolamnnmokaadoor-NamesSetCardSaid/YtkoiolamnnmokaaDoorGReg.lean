/- Bytes as numbers of a field: stores into rows of the walk's own; what the functions of regions tell. No program in sight. -/
import Derived.Test.YtkoiolamnnmokaaDoorGTab
import Derived.Test.YtkoiolamnnmokaaDoorGGg
set_option linter.unusedVariables false
set_option linter.unusedSimpArgs false
namespace Go.Gam
open Px

section
variable {P : Program} {ops : Array Oper} {K : Kont} {rest : List Oper} {n : NN} {F : Fs} {T : TypeId} {pp : String} {af : Array Edge} {v : Value} {d : Nat} {a : Act} {w : World} {x y : Operand} {D : FD} {B : Nat}

theorem Own.ptr {N E : Nat} {b : Option Nat} {xs : List Value} (h : Own D B N w E v b xs) (h0 : 0 < xs.length) : ∃ g cap, v = .slice (some ⟨g, 0, none⟩) xs.length cap ∧ b = some g := by
  rcases h with ⟨_, _, rfl⟩ | ⟨g, cap, cur, rfl, rfl, _⟩
  · simp at h0
  · exact ⟨g, cap, rfl, rfl⟩

/-- A store into a row of the walk's own. -/
theorem s_set {t N E g o : Nat} {u : Value} {xs : List Value} (hF : Fr n F a) (ht : One P t) (hx : ev F x = some (.pointer (some ⟨g, o, none⟩))) (ho : o < xs.length) (hy : ev F y = some u) (hu : u.oneCell' = true)
    (hO : Own D B N w E v (some g) xs) (hE : E ≠ D.T) (hI : Inv D B w) (k : ∀ w', Mb D B (some g) w w' → Inv D B w' → Own D B N w' E v (some g) (xs.set o u) → WL P ops K rest a w') :
    WL P ops K (⟨none, .store t x y, T, pp, af, none⟩ :: rest) a w := by
  rcases hO with ⟨_, hb, _⟩ | ⟨g', cap, cur, rfl, hb, h1, hB, h2, h3, h4, h5, h6, h7⟩
  · cases hb
  · obtain rfl := Option.some.inj hb
    have hc : u.cells = #[u] := by cases u <;> first | rfl | simp [Value.oneCell'] at hu
    have hst := run_storeCells_at P g o E [u] 0 cur w h2 (by simp; omega) (by simpa using hu)
    have hset : (cur.toList.take (o + 0) ++ [u] ++ cur.toList.drop (o + 0 + [u].length)).toArray = cur.setIfInBounds o u := by
      apply Array.toList_inj.1
      rw [Array.toList_setIfInBounds, List.set_eq_take_append_cons_drop, if_pos (by simp; omega)]
      simp
    rw [hset] at hst
    have hrun : (execOp a.eval ⟨none, .store t x y, T, pp, af, none⟩).run P w = .ok .skip (w.setRow g (cur.setIfInBounds o u)) := by
      simp only [execOp, hF.reads x _ hx, hF.reads y _ hy, Instr.storeAt, Instr.sureAddr, storeVar, hc]
      simp [run_size1 ht, hst]
    have hm : Mb D B (some g) w (w.setRow g (cur.setIfInBounds o u)) := Mb.setRow h2 hE hB h7
    unfold WL wpList
    rw [if_pos (by simp [Region.wanted])]
    refine .inl ?_
    unfold Oper.wp
    rw [hrun]
    refine k _ hm (hm.inv hI) (.inr ⟨g, cap, cur.setIfInBounds o u, by simp, rfl, h1, hB, setRow_heap w g cur _ E _ h2, by simpa using h3, h4, by simpa using h5, ?_, hm.priv h7⟩)
    rw [List.length_set, Array.toList_setIfInBounds, List.take_set, h6]
end

theorem Own.cast {D : FD} {B N E : Nat} {w : World} {v : Value} {b : Option Nat} {xs ys : List Value} (h : Own D B N w E v b xs) (e : xs = ys) : Own D B N w E v b ys := e ▸ h

/-- Bytes as values. -/
def byt (l : List Nat) : List Value := l.map fun (n : Nat) => Value.int .u8 (n : Int)
@[simp] theorem byt_length (l : List Nat) : (byt l).length = l.length := by simp [byt]
theorem byt_at {l : List Nat} {i n : Nat} (h : l[i]? = some n) : (byt l)[i]? = some (.int .u8 (n : Int)) := by simp [byt, h]
theorem byt_snoc (l : List Nat) (n : Nat) : byt (l ++ [n]) = byt l ++ [.int .u8 (n : Int)] := by simp [byt]
def zints (l : List Int) : List Value := l.map (Value.int .i64)
@[simp] theorem zints_length (l : List Int) : (zints l).length = l.length := by simp [zints]
theorem zints_at {l : List Int} {i : Nat} {z : Int} (h : l[i]? = some z) : (zints l)[i]? = some (.int .i64 z) := by simp [zints, h]
theorem ints_zints (l : List Nat) : ints l = zints (l.map fun (n : Nat) => (n : Int)) := by simp [ints, zints]

/-- n bytes to a number (n = 1 or 2), number by number, byte by byte. -/
def wrun (n : Nat) (bs : List Nat) : Nat → List Nat
  | 0 => List.replicate (bs.length / n) 0
  | i + 1 => (wrun n bs i).set (i / n) (if i % n = 0 then bs.getD i 0 else (wrun n bs i).getD (i / n) 0 + 256 * bs.getD i 0)
theorem wrun_len (n : Nat) (bs : List Nat) : ∀ i, (wrun n bs i).length = bs.length / n
  | 0 => by simp [wrun]
  | i + 1 => by rw [wrun, List.length_set, wrun_len n bs i]

def wordsN (n : Nat) (bs : List Nat) : List Nat := (List.range (bs.length / n)).map fun j => if n = 2 then bs.getD (2 * j) 0 + 256 * bs.getD (2 * j + 1) 0 else bs.getD j 0
def bytesN (n : Nat) (l : List Nat) : List Nat := l.flatMap fun a => if n = 2 then [a % 256, a / 256] else [a % 256]

theorem wrun1 (bs : List Nat) : ∀ i, i ≤ bs.length → ∀ j, j < bs.length → (wrun 1 bs i).getD j 0 = if j < i then bs.getD j 0 else 0
  | 0, _, j, hj => by simp [wrun, hj]
  | i + 1, hi, j, hj => by
    have ih := wrun1 bs i (by omega) j hj
    have hl := wrun_len 1 bs i
    simp only [Nat.div_one] at hl
    rw [wrun, Nat.mod_one, if_pos rfl, Nat.div_one]
    simp only [List.getD_eq_getElem?_getD, List.getElem?_set] at ih ⊢
    by_cases e : i = j
    · subst e; simp [hl, hj]
    · rw [if_neg e, ih]
      by_cases h1 : j < i
      · rw [if_pos h1, if_pos (by omega)]
      · rw [if_neg h1, if_neg (by omega)]
theorem wrun2 (bs : List Nat) : ∀ i, i ≤ bs.length → ∀ j, j < bs.length / 2 → (wrun 2 bs i).getD j 0 = (if 2 * j < i then bs.getD (2 * j) 0 else 0) + (if 2 * j + 1 < i then 256 * bs.getD (2 * j + 1) 0 else 0)
  | 0, _, j, hj => by simp [wrun, hj]
  | i + 1, hi, j, hj => by
    have ih := wrun2 bs i (by omega) j hj
    have hl := wrun_len 2 bs i
    rw [wrun]
    generalize wrun 2 bs i = ys at *
    have key : (ys.set (i / 2) (if i % 2 = 0 then bs.getD i 0 else ys.getD (i / 2) 0 + 256 * bs.getD i 0)).getD j 0 = if i / 2 = j then (if i % 2 = 0 then bs.getD i 0 else ys.getD j 0 + 256 * bs.getD i 0) else ys.getD j 0 := by
      simp only [List.getD_eq_getElem?_getD, List.getElem?_set]
      by_cases e : i / 2 = j
      · subst e; simp [hl, hj]
      · simp [e]
    rw [key, ih]
    by_cases e : i / 2 = j
    · rw [if_pos e]
      by_cases h2 : i % 2 = 0
      · have : i = 2 * j := by omega
        subst this
        rw [if_pos h2, if_pos (by omega), if_neg (by omega)]; rfl
      · have : i = 2 * j + 1 := by omega
        subst this
        rw [if_neg h2, if_pos (by omega), if_neg (by omega), if_pos (by omega), if_pos (by omega)]; rfl
    · rw [if_neg e]
      by_cases h1 : 2 * j < i
      · rw [if_pos h1, if_pos (by omega), if_pos (by omega), if_pos (by omega)]
      · rw [if_neg h1, if_neg (by omega), if_neg (by omega), if_neg (by omega)]

theorem wrun_all {n : Nat} (hn : n = 1 ∨ n = 2) (bs : List Nat) : wrun n bs bs.length = wordsN n bs ∨ bs.length % n ≠ 0 := by
  by_cases hm : bs.length % n = 0
  · left
    apply List.ext_getElem
    · simp [wrun_len, wordsN]
    · intro j h1 h2
      rw [wrun_len] at h1
      have e1 : (wrun n bs bs.length)[j] = (wrun n bs bs.length).getD j 0 := by rw [List.getD_eq_getElem?_getD, List.getElem?_eq_getElem]; rfl
      rw [e1]
      rcases hn with rfl | rfl
      · rw [Nat.div_one] at h1
        rw [wrun1 bs _ (Nat.le_refl _) j h1, if_pos h1]
        simp [wordsN]
      · rw [wrun2 bs _ (Nat.le_refl _) j h1, if_pos (by omega), if_pos (by omega)]
        simp [wordsN]
  · exact .inr hm

theorem getD_lt {bs : List Nat} (h : ∀ x ∈ bs, x < 256) (i : Nat) : bs.getD i 0 < 256 := by
  rw [List.getD_eq_getElem?_getD]
  cases e : bs[i]? with
  | none => simp
  | some x => exact h x (List.mem_of_getElem? e)
theorem wrun_lt {n : Nat} (hn : n = 1 ∨ n = 2) {bs : List Nat} (h : ∀ x ∈ bs, x < 256) {i : Nat} (hi : i ≤ bs.length) (j : Nat) : (wrun n bs i).getD j 0 < 65536 := by
  by_cases hj : j < bs.length / n
  · have a := getD_lt h
    rcases hn with rfl | rfl
    · rw [wrun1 bs i hi j (by simpa using hj)]; split <;> have := a j <;> omega
    · rw [wrun2 bs i hi j hj]
      have h1 := a (2 * j)
      have h2 := a (2 * j + 1)
      split <;> split <;> omega
  · rw [List.getD_eq_getElem?_getD, List.getElem?_eq_none (by rw [wrun_len]; omega)]; simp
theorem div_lt_n {n i len : Nat} (hn : n = 1 ∨ n = 2) (hm : len % n = 0) (hi : i < len) : i / n < len / n := by rcases hn with rfl | rfl <;> omega

def errV {α : Type} (s : Option α) : Int := if s.isSome then 0 else 1
def rwords : Fq → List Nat → Option (List Nat)
  | none, _ => none
  | some q, bs => if bs.length % (q.1 / 8) = 0 then some (wordsN (q.1 / 8) bs) else none
def rbytes : Fq → List Int → Option (List Nat)
  | none, _ => none
  | some q, zs => if zs.all (inF (some q)) = true then some (bytesN (q.1 / 8) (zs.map Int.toNat)) else none
def rmul (o : Fq) (c : Int) (bs : List Nat) : Option (List Nat) := (rwords o bs).bind fun l => if inF o c = true then rbytes o (l.map fun (a : Nat) => gmul o c (a : Int)) else none
theorem rwords_t {wb p nn : Nat} {bs : List Nat} (hn : nn = wb / 8) (h : bs.length % nn = 0) : rwords (some (wb, p)) bs = some (wordsN nn bs) := by subst hn; exact if_pos h
theorem rwords_f {wb p nn : Nat} {bs : List Nat} (hn : nn = wb / 8) (h : bs.length % nn ≠ 0) : rwords (some (wb, p)) bs = none := by subst hn; exact if_neg h

theorem errV_ne {α : Type} {s : Option α} (h : errV s ≠ 0) : s = none := by cases s with | none => rfl | some x => exact absurd rfl h
theorem errV_eq {α : Type} {s : Option α} (h : errV s = 0) : ∃ x, s = some x := by cases s with | none => exact absurd (show (1 : Int) = 0 from h) (by decide) | some x => exact ⟨x, rfl⟩

theorem bytesN_len (n : Nat) (l : List Nat) : (bytesN n l).length ≤ 2 * l.length := by
  induction l with
  | nil => simp [bytesN]
  | cons a l ih =>
    have e : bytesN n (a :: l) = (if n = 2 then [a % 256, a / 256] else [a % 256]) ++ bytesN n l := rfl
    rw [e, List.length_append, List.length_cons]
    split <;> simp <;> omega
theorem bytes_step (n : Nat) {zs : List Int} {i x : Nat} (hz : zs[i]? = some (x : Int)) :
    bytesN n ((zs.take (i + 1)).map Int.toNat) = bytesN n ((zs.take i).map Int.toNat) ++ (if n = 2 then [x % 256, x / 256] else [x % 256]) := by
  rw [List.take_add_one, hz]
  simp [bytesN]
theorem rbytes_t {wb p nn : Nat} {zs : List Int} (hn : nn = wb / 8) (h : zs.all (inF (some (wb, p))) = true) : rbytes (some (wb, p)) zs = some (bytesN nn (zs.map Int.toNat)) := by subst hn; exact if_pos h
theorem rbytes_f {wb p : Nat} {zs : List Int} (h : zs.all (inF (some (wb, p))) = false) : rbytes (some (wb, p)) zs = none := if_neg (by rw [h]; simp)

/-- The numbers multiplied so far. -/
def mrun (o : Fq) (c : Int) (ws : List Nat) (i : Nat) : List Int := ((ws.take i).map fun (a : Nat) => gmul o c (a : Int)) ++ (ws.drop i).map fun (a : Nat) => (a : Int)
theorem mrun_len (o : Fq) (c : Int) (ws : List Nat) (i : Nat) : (mrun o c ws i).length = ws.length := by simp [mrun]; omega
theorem mrun_at {o : Fq} {c : Int} {ws : List Nat} {i a : Nat} (h : ws[i]? = some a) : (mrun o c ws i)[i]? = some (a : Int) := by
  have hl := (List.getElem?_eq_some_iff.1 h).1
  unfold mrun
  rw [List.getElem?_append_right (by simp; omega), List.getElem?_map, List.getElem?_drop]
  simp [Nat.min_eq_left (Nat.le_of_lt hl), h]
theorem mrun_step {o : Fq} {c : Int} {ws : List Nat} {i a : Nat} (h : ws[i]? = some a) : (mrun o c ws i).set i (gmul o c (a : Int)) = mrun o c ws (i + 1) := by
  obtain ⟨hl, ha⟩ := List.getElem?_eq_some_iff.1 h
  have e1 : ((ws.drop i).map fun (a : Nat) => (a : Int)) = (a : Int) :: (ws.drop (i + 1)).map fun (a : Nat) => (a : Int) := by rw [List.drop_eq_getElem_cons hl, ha]; rfl
  have e2 : ((ws.take (i + 1)).map fun (a : Nat) => gmul o c (a : Int)) = ((ws.take i).map fun (a : Nat) => gmul o c (a : Int)) ++ [gmul o c (a : Int)] := by rw [List.take_add_one, h]; simp
  unfold mrun
  rw [e1, e2, List.set_append_right _ _ (by simp; omega)]
  have : i - ((ws.take i).map fun (a : Nat) => gmul o c (a : Int)).length = 0 := by simp; omega
  rw [this, List.set_cons_zero, List.append_assoc]; rfl
theorem mrun_all (o : Fq) (c : Int) (ws : List Nat) : mrun o c ws ws.length = ws.map fun (a : Nat) => gmul o c (a : Int) := by simp [mrun]
theorem mrun_zero (o : Fq) (c : Int) (ws : List Nat) : zints (mrun o c ws 0) = ints ws := by rw [ints_zints]; simp [mrun]
theorem zints_set (l : List Int) (i : Nat) (z : Int) : (zints l).set i (.int .i64 z) = zints (l.set i z) := by simp [zints, List.map_set]
theorem wordsN_len (n : Nat) (bs : List Nat) : (wordsN n bs).length = bs.length / n := by simp [wordsN]
theorem rwords_len {o : Fq} {bs ws : List Nat} (h : rwords o bs = some ws) : ws.length ≤ bs.length := by
  cases o with
  | none => cases h
  | some q =>
    simp only [rwords] at h
    split at h
    · obtain rfl := Option.some.inj h; rw [wordsN_len]; exact Nat.div_le_self _ _
    · cases h
theorem rmul_none {o : Fq} {c : Int} {bs : List Nat} (h : rwords o bs = none ∨ inF o c = false) : rmul o c bs = none := by
  unfold rmul
  rcases h with h | h
  · rw [h]; rfl
  · cases rwords o bs with | none => rfl | some x => simp [h]
theorem rmul_some {o : Fq} {c : Int} {bs ws : List Nat} (h : rwords o bs = some ws) (hc : inF o c = true) : rmul o c bs = rbytes o (ws.map fun (a : Nat) => gmul o c (a : Int)) := by
  unfold rmul; rw [h]; simp [hc]

/-! ### rows of rows -/
def Rows2 (D : FD) (B M : Nat) (w : World) (vals : List Value) (bss : List (List Nat)) : Prop := vals.length = bss.length ∧ ∀ (j : Nat) (v : Value) (bs : List Nat), vals[j]? = some v → bss[j]? = some bs → Row D B M w v (byt bs)
theorem Rows2.st {D : FD} {B M : Nat} {w w' : World} {vals : List Value} {bss : List (List Nat)} (h : Rows2 D B M w vals bss) (hs : St D B w w') : Rows2 D B M w' vals bss := ⟨h.1, fun j v bs a b => (h.2 j v bs a b).st hs⟩
theorem Rows2.mb {D : FD} {B M : Nat} {b : Option Nat} {w w' : World} {vals : List Value} {bss : List (List Nat)} (h : Rows2 D B M w vals bss) (hm : Mb D B b w w') (hb : ∀ k, b = some k → M ≤ k) : Rows2 D B M w' vals bss := ⟨h.1, fun j v bs x y => (h.2 j v bs x y).mb hm hb⟩
theorem Rows2.mono {D : FD} {B M M' : Nat} {w : World} {vals : List Value} {bss : List (List Nat)} (h : Rows2 D B M w vals bss) (hM : M ≤ M') : Rows2 D B M' w vals bss := ⟨h.1, fun j v bs x y => (h.2 j v bs x y).mono hM⟩

def xorB (a b : List Nat) : List Nat := List.zipWith (· ^^^ ·) a b
def rsum : List (List Nat) → Option (List Nat)
  | [] => none
  | b0 :: r => if (b0 :: r).all (fun b => b.length == b0.length) = true then some ((b0 :: r).foldl xorB (List.replicate b0.length 0)) else none
theorem rsum_t {bss : List (List Nat)} {b0 : List Nat} (h0 : bss[0]? = some b0) (h : ∀ b ∈ bss, b.length = b0.length) : rsum bss = some (bss.foldl xorB (List.replicate b0.length 0)) := by
  cases bss with
  | nil => simp at h0
  | cons c r =>
    obtain rfl : c = b0 := by simpa using h0
    exact if_pos (by rw [List.all_eq_true]; intro b hb; simpa using h b hb)
theorem rsum_f {bss : List (List Nat)} {b0 b : List Nat} (h0 : bss[0]? = some b0) (hb : b ∈ bss) (h : b.length ≠ b0.length) : rsum bss = none := by
  cases bss with
  | nil => simp at h0
  | cons c r =>
    obtain rfl : c = b0 := by simpa using h0
    exact if_neg (by rw [List.all_eq_true]; intro hh; exact h (by simpa using hh b hb))
def xpart (a b : List Nat) (i : Nat) : List Nat := xorB (a.take i) (b.take i) ++ a.drop i
theorem xpart_zero (a b : List Nat) : xpart a b 0 = a := by simp [xpart, xorB]
theorem xorB_len {a b : List Nat} (h : a.length = b.length) : (xorB a b).length = a.length := by simp [xorB]; omega
theorem xpart_len {a b : List Nat} {i : Nat} (h : a.length = b.length) : (xpart a b i).length = a.length := by simp [xpart, xorB]; omega
theorem xpart_all {a b : List Nat} (h : a.length = b.length) : xpart a b a.length = xorB a b := by
  unfold xpart
  rw [List.take_length, h, List.take_length, ← h, List.drop_length, List.append_nil]
theorem xpart_at {a b : List Nat} {i x : Nat} (h : a.length = b.length) (hx : a[i]? = some x) : (xpart a b i)[i]? = some x := by
  have hl := (List.getElem?_eq_some_iff.1 hx).1
  unfold xpart
  rw [List.getElem?_append_right (by simp [xorB]; omega), List.getElem?_drop]
  have : i + (i - (xorB (a.take i) (b.take i)).length) = i := by simp [xorB]; omega
  rw [this]; exact hx
theorem xpart_step {a b : List Nat} {i x y : Nat} (h : a.length = b.length) (hx : a[i]? = some x) (hy : b[i]? = some y) : (xpart a b i).set i (x ^^^ y) = xpart a b (i + 1) := by
  obtain ⟨hl, ha⟩ := List.getElem?_eq_some_iff.1 hx
  have e : xorB (a.take (i + 1)) (b.take (i + 1)) = xorB (a.take i) (b.take i) ++ [x ^^^ y] := by
    unfold xorB
    rw [List.take_add_one, List.take_add_one, hx, hy, List.zipWith_append (by simp; omega)]
    rfl
  unfold xpart
  rw [e, List.set_append_right _ _ (by simp [xorB]; omega), List.drop_eq_getElem_cons hl]
  have : i - (xorB (a.take i) (b.take i)).length = 0 := by simp [xorB]; omega
  rw [this, List.set_cons_zero, List.append_assoc]; rfl
theorem xorB_lt {a b : List Nat} (ha : ∀ x ∈ a, x < 256) (hb : ∀ x ∈ b, x < 256) : ∀ x ∈ xorB a b, x < 256 := by
  intro x hx
  obtain ⟨i, hi⟩ := List.getElem?_of_mem hx
  unfold xorB at hi
  rw [List.getElem?_zipWith] at hi
  cases h1 : a[i]? with
  | none => rw [h1] at hi; cases hi
  | some u =>
    cases h2 : b[i]? with
    | none => rw [h1, h2] at hi; cases hi
    | some v =>
      rw [h1, h2] at hi
      obtain rfl := Option.some.inj hi
      exact Px.xor_lt (k := 8) (ha u (List.mem_of_getElem? h1)) (hb v (List.mem_of_getElem? h2))
theorem byt_set (l : List Nat) (i n : Nat) : (byt l).set i (.int .u8 (n : Int)) = byt (l.set i n) := by simp [byt, List.map_set]

/-! ### rows of the walk's own -/
def Owns2 (D : FD) (B N : Nat) (w : World) (E : TypeId) (vals : List Value) (bss : List (List Nat)) : Prop := vals.length = bss.length ∧ ∀ (j : Nat) (v : Value) (bs : List Nat), vals[j]? = some v → bss[j]? = some bs → ∃ b, Own D B N w E v b (byt bs)
theorem Owns2.st {D : FD} {B N : Nat} {w w' : World} {E : TypeId} {vals : List Value} {bss : List (List Nat)} (h : Owns2 D B N w E vals bss) (hE : E ≠ D.T) (hs : St D B w w') : Owns2 D B N w' E vals bss :=
  ⟨h.1, fun j v bs a b => let ⟨c, hc⟩ := h.2 j v bs a b; ⟨c, hc.st hE hs⟩⟩
theorem Owns2.mb0 {D : FD} {B N : Nat} {w w' : World} {E : TypeId} {vals : List Value} {bss : List (List Nat)} (h : Owns2 D B N w E vals bss) (hm : Mb D B none w w') : Owns2 D B N w' E vals bss :=
  ⟨h.1, fun j v bs a b => let ⟨c, hc⟩ := h.2 j v bs a b; ⟨c, hc.mb hm (fun _ _ => by simp)⟩⟩
theorem Owns2.mb {D : FD} {B N N' : Nat} {w w' : World} {E E' : TypeId} {vals : List Value} {bss : List (List Nat)} {v' : Value} {b' : Option Nat} {xs' : List Value} (h : Owns2 D B N w E vals bss) (ho : Own D B N' w E' v' b' xs') (hE : E ≠ E') (hm : Mb D B b' w w') : Owns2 D B N w' E vals bss :=
  ⟨h.1, fun j v bs a b => let ⟨c, hc⟩ := h.2 j v bs a b; ⟨c, hc.mb hm (hc.ne_type ho hE)⟩⟩
theorem Owns2.snoc {D : FD} {B N : Nat} {w : World} {E : TypeId} {vals : List Value} {bss : List (List Nat)} {v : Value} {b : Option Nat} {bs : List Nat} (h : Owns2 D B N w E vals bss) (ho : Own D B N w E v b (byt bs)) : Owns2 D B N w E (vals ++ [v]) (bss ++ [bs]) := by
  refine ⟨by simp [h.1], fun j u cs hu hc => ?_⟩
  by_cases hj : j < vals.length
  · rw [List.getElem?_append_left hj] at hu
    rw [List.getElem?_append_left (by rw [← h.1]; exact hj)] at hc
    exact h.2 j u cs hu hc
  · have e : j = vals.length := by
      have := (List.getElem?_eq_some_iff.1 hu).1
      simp at this; omega
    subst e
    simp at hu
    rw [h.1] at hc
    simp at hc
    subst hu; subst hc
    exact ⟨b, ho⟩
theorem Owns2.nil (D : FD) (B N : Nat) (w : World) (E : TypeId) : Owns2 D B N w E [] [] := ⟨rfl, fun j v bs a => by simp at a⟩
theorem Owns2.rows {D : FD} {B N : Nat} {w : World} {E : TypeId} {vals : List Value} {bss : List (List Nat)} (h : Owns2 D B N w E vals bss) (hE : E ≠ D.T) : Rows2 D B w.heap.size w vals bss :=
  ⟨h.1, fun j v bs a b => let ⟨_, hc⟩ := h.2 j v bs a b; hc.row hE⟩
theorem Owns2.le {D : FD} {B N N' : Nat} {w : World} {E : TypeId} {vals : List Value} {bss : List (List Nat)} (h : Owns2 D B N w E vals bss) (hN : N' ≤ N) : Owns2 D B N' w E vals bss :=
  ⟨h.1, fun j v bs a b => let ⟨c, hc⟩ := h.2 j v bs a b; ⟨c, hc.le hN⟩⟩

/-! ### each row times its number -/
def rmuls (o : Fq) : List Int → List (List Nat) → Option (List (List Nat))
  | c :: cs, b :: bs => (rmul o c b).bind fun x => (rmuls o cs bs).map fun xs => x :: xs
  | _, _ => some []
def rdot (o : Fq) (cs : List Int) (bss : List (List Nat)) : Option (List Nat) := if cs.length = bss.length ∧ cs.length ≠ 0 then (rmuls o cs bss).bind rsum else none
theorem rmuls_snoc {o : Fq} {c : Int} {b : List Nat} : ∀ {cs : List Int} {bss xs : List (List Nat)}, cs.length = bss.length → rmuls o cs bss = some xs → rmuls o (cs ++ [c]) (bss ++ [b]) = (rmul o c b).map fun x => xs ++ [x]
  | [], [], xs, _, h => by
    obtain rfl : [] = xs := Option.some.inj h
    simp only [List.nil_append, rmuls]
    cases rmul o c b <;> rfl
  | c' :: cs, b' :: bs, xs, hl, h => by
    simp only [rmuls] at h
    cases h1 : rmul o c' b' with
    | none => rw [h1] at h; cases h
    | some x =>
      rw [h1] at h
      cases h2 : rmuls o cs bs with
      | none => rw [h2] at h; cases h
      | some ys =>
        rw [h2] at h
        obtain rfl : x :: ys = xs := Option.some.inj h
        simp only [List.cons_append, rmuls, h1]
        rw [Option.bind_some, rmuls_snoc (by simpa using hl) h2]
        cases rmul o c b <;> rfl
  | [], _ :: _, _, hl, _ => by simp at hl
  | _ :: _, [], _, hl, _ => by simp at hl
theorem rmuls_none {o : Fq} {c : Int} {b : List Nat} : ∀ {cs : List Int} {bss : List (List Nat)} {r : Nat}, cs[r]? = some c → bss[r]? = some b → rmul o c b = none → rmuls o cs bss = none
  | [], _, _, h, _, _ => by simp at h
  | _ :: _, [], _, _, h, _ => by simp at h
  | c' :: cs, b' :: bs, 0, h1, h2, h => by
    simp at h1 h2; subst h1; subst h2
    simp [rmuls, h]
  | c' :: cs, b' :: bs, r + 1, h1, h2, h => by
    simp at h1 h2
    simp only [rmuls, rmuls_none h1 h2 h]
    cases rmul o c' b' <;> rfl
theorem rmuls_step {o : Fq} {cs : List Int} {bss xs : List (List Nat)} {r : Nat} {b x : List Nat} {ci : Int} (hl : cs.length = bss.length) (h : rmuls o (cs.take r) (bss.take r) = some xs) (hc : cs[r]? = some ci) (hb : bss[r]? = some b) (hx : rmul o ci b = some x) :
    rmuls o (cs.take (r + 1)) (bss.take (r + 1)) = some (xs ++ [x]) := by
  rw [List.take_add_one, List.take_add_one, hc, hb]
  show rmuls o (cs.take r ++ [ci]) (bss.take r ++ [b]) = _
  rw [rmuls_snoc (by simp; omega) h, hx]; rfl
theorem rbytes_props {o : Fq} {zs : List Int} {xs : List Nat} (hs : fsz o ≤ 65536) (h : rbytes o zs = some xs) : (∀ x ∈ xs, x < 256) ∧ xs.length ≤ 2 * zs.length := by
  cases o with
  | none => cases h
  | some q =>
    simp only [rbytes] at h
    split at h
    · rename_i hall
      obtain rfl := Option.some.inj h
      refine ⟨fun x hx => ?_, by have := bytesN_len (q.1 / 8) (zs.map Int.toNat); simpa using this⟩
      obtain ⟨a, ha, hxa⟩ := List.mem_flatMap.1 hx
      obtain ⟨z, hz, rfl⟩ := List.mem_map.1 ha
      have hin := List.all_eq_true.1 hall z hz
      have hr : 0 ≤ z ∧ z < ((fsz (some q) : Nat) : Int) := of_decide_eq_true hin
      split at hxa
      · simp at hxa; rcases hxa with rfl | rfl <;> omega
      · simp at hxa; omega
    · cases h
theorem rmul_props {o : Fq} {c : Int} {bs xs : List Nat} (hs : fsz o ≤ 65536) (h : rmul o c bs = some xs) : (∀ x ∈ xs, x < 256) ∧ xs.length ≤ 2 * bs.length := by
  unfold rmul at h
  cases hw : rwords o bs with
  | none => rw [hw] at h; cases h
  | some ws =>
    rw [hw] at h
    simp only [Option.bind_some] at h
    split at h
    · have := rbytes_props hs h
      have hl := rwords_len hw
      exact ⟨this.1, by have := this.2; simp at this; omega⟩
    · cases h
theorem rdot_none1 {o : Fq} {cs : List Int} {bss : List (List Nat)} (h : cs.length ≠ bss.length ∨ cs.length = 0) : rdot o cs bss = none := if_neg (by rintro ⟨h1, h2⟩; rcases h with h | h; exact h h1; exact h2 h)
theorem rdot_none2 {o : Fq} {cs : List Int} {bss : List (List Nat)} (h : rmuls o cs bss = none) : rdot o cs bss = none := by unfold rdot; rw [h]; split <;> rfl
theorem rdot_some {o : Fq} {cs : List Int} {bss xs : List (List Nat)} (hl : cs.length = bss.length) (h0 : cs.length ≠ 0) (h : rmuls o cs bss = some xs) : rdot o cs bss = rsum xs := by unfold rdot; rw [if_pos ⟨hl, h0⟩, h]; rfl

/-- The number at place j. -/
def wv (n : Nat) (bs : List Nat) (j : Nat) : Nat := if n = 2 then bs.getD (2 * j) 0 + 256 * bs.getD (2 * j + 1) 0 else bs.getD j 0
theorem wordsN_eq (n : Nat) (bs : List Nat) : wordsN n bs = (List.range (bs.length / n)).map (wv n bs) := rfl
theorem wv_snoc (n : Nat) (bs : List Nat) (j : Nat) : (List.range (j + 1)).map (wv n bs) = (List.range j).map (wv n bs) ++ [wv n bs j] := by rw [List.range_succ, List.map_append]; rfl
theorem wstep_lt {n i j len : Nat} (hn : n = 1 ∨ n = 2) (hi : i = n * j) (h : i + n ≤ len) : j < len / n ∧ i + n = n * (j + 1) := by
  rcases hn with rfl | rfl <;> omega
theorem wstep_end {n i j len : Nat} (hn : n = 1 ∨ n = 2) (hi : i = n * j) (h : ¬ i + n ≤ len) (hj : j ≤ len / n) : j = len / n := by
  rcases hn with rfl | rfl <;> omega
theorem wv_one {n : Nat} {bs : List Nat} {i j c : Nat} (hn : n = 1) (hi : i = n * j) (hc : bs[i]? = some c) : wv n bs j = c := by
  subst hn
  unfold wv
  rw [if_neg (by decide), List.getD_eq_getElem?_getD, show j = i by omega, hc]; rfl
theorem wv_two {n : Nat} {bs : List Nat} {i j c d : Nat} (hn : n = 2) (hi : i = n * j) (hc : bs[i]? = some c) (hd : bs[i + 1]? = some d) : wv n bs j = c + 256 * d := by
  subst hn
  unfold wv
  rw [if_pos rfl, List.getD_eq_getElem?_getD, List.getD_eq_getElem?_getD, show 2 * j = i by omega, hc, hd]; rfl

theorem gmuls_snoc {o : Fq} {c : Int} {ws : List Nat} {i a : Nat} (h : ws[i]? = some a) : ((ws.take (i + 1)).map fun (a : Nat) => gmul o c (a : Int)) = ((ws.take i).map fun (a : Nat) => gmul o c (a : Int)) ++ [gmul o c (a : Int)] := by rw [List.take_add_one, h]; simp
theorem zints_snoc (l : List Int) (z : Int) : zints (l ++ [z]) = zints l ++ [.int .i64 z] := by simp [zints]
theorem wordsN_rw {wb p : Nat} {bs : List Nat} (h : decide (bs.length % (wb / 8) = 0) = true) : rwords (some (wb, p)) bs = some (wordsN (wb / 8) bs) := rwords_t rfl (of_decide_eq_true h)
theorem wordsN_no {wb p : Nat} {bs : List Nat} (h : decide (bs.length % (wb / 8) = 0) = false) : rwords (some (wb, p)) bs = none := rwords_f rfl (of_decide_eq_false h)
theorem mk_M {D : FD} {B : Nat} {w0 w1 : World} {v : Value} {xs : List Value} (hL : Row D B w1.heap.size w1 v xs) (hs : w0.heap.size ≤ w1.heap.size) : ∃ M2, Row D B M2 w1 v xs ∧ w0.heap.size ≤ M2 ∧ M2 ≤ w1.heap.size := ⟨_, hL, hs, Nat.le_refl _⟩
theorem xorB_snoc {a b : List Nat} {i x y : Nat} (hx : a[i]? = some x) (hy : b[i]? = some y) : xorB (a.take (i + 1)) (b.take (i + 1)) = xorB (a.take i) (b.take i) ++ [x ^^^ y] := by
  have h1 := (List.getElem?_eq_some_iff.1 hx).1
  have h2 := (List.getElem?_eq_some_iff.1 hy).1
  unfold xorB
  rw [List.take_add_one, List.take_add_one, hx, hy, List.zipWith_append (by simp; omega)]
  rfl

/-! ### the sum, one row behind the other -/
theorem bytesN_len1 (l : List Nat) : (bytesN 1 l).length = l.length := by
  induction l with
  | nil => rfl
  | cons a l ih =>
    have e : bytesN 1 (a :: l) = [a % 256] ++ bytesN 1 l := rfl
    rw [e, List.length_append, ih]; simp; omega
theorem bytesN_len2 (l : List Nat) : (bytesN 2 l).length = 2 * l.length := by
  induction l with
  | nil => rfl
  | cons a l ih =>
    have e : bytesN 2 (a :: l) = [a % 256, a / 256] ++ bytesN 2 l := rfl
    rw [e, List.length_append, ih]; simp; omega
theorem rmul_len {wb p : Nat} (hw : wb = 8 ∨ wb = 16) {c : Int} {bs xs : List Nat} (h : rmul (some (wb, p)) c bs = some xs) : xs.length = bs.length := by
  unfold rmul at h
  simp only [rwords] at h
  split at h
  · rename_i hd
    simp only [Option.bind_some] at h
    split at h
    · simp only [rbytes] at h
      split at h
      · obtain rfl := Option.some.inj h
        rcases hw with rfl | rfl
        · rw [show 8 / 8 = 1 from rfl, bytesN_len1]; simp [wordsN_len]
        · rw [show 16 / 8 = 2 from rfl, bytesN_len2]
          simp only [List.length_map, wordsN_len] at hd ⊢
          omega
      · cases h
    · cases h
  · cases h
theorem xorB_zero (x : List Nat) : xorB (List.replicate x.length 0) x = x := by
  induction x with
  | nil => rfl
  | cons a x ih =>
    show (0 ^^^ a) :: xorB (List.replicate x.length 0) x = a :: x
    rw [ih, Nat.zero_xor]
theorem foldl_len {L : Nat} : ∀ (xs : List (List Nat)) (a : List Nat), a.length = L → (∀ x ∈ xs, x.length = L) → (xs.foldl xorB a).length = L
  | [], a, ha, _ => ha
  | x :: xs, a, ha, h => foldl_len xs _ (by rw [xorB_len (by rw [ha, h x (by simp)])]; exact ha) (fun y hy => h y (by simp [hy]))
theorem foldl_lt : ∀ (xs : List (List Nat)) (a : List Nat), (∀ u ∈ a, u < 256) → (∀ x ∈ xs, ∀ u ∈ x, u < 256) → ∀ u ∈ xs.foldl xorB a, u < 256
  | [], a, ha, _ => ha
  | x :: xs, a, ha, h => foldl_lt xs _ (xorB_lt ha (h x (by simp))) (fun y hy => h y (by simp [hy]))
theorem rmuls_mem {o : Fq} : ∀ {cs : List Int} {bss xs : List (List Nat)}, rmuls o cs bss = some xs → ∀ (j : Nat) (b : List Nat) (c : Int), bss[j]? = some b → cs[j]? = some c → ∃ x, rmul o c b = some x ∧ x ∈ xs
  | [], _, _, _, j, _, _, _, hc => by simp at hc
  | _ :: _, [], _, _, j, _, _, hb, _ => by simp at hb
  | c' :: cs, b' :: bs, xs, h, j, b, c, hb, hc => by
    simp only [rmuls] at h
    cases h1 : rmul o c' b' with
    | none => rw [h1] at h; cases h
    | some x =>
      rw [h1] at h
      cases h2 : rmuls o cs bs with
      | none => rw [h2] at h; cases h
      | some ys =>
        rw [h2] at h
        obtain rfl : x :: ys = xs := Option.some.inj h
        cases j with
        | zero =>
          simp at hb hc; subst hb; subst hc
          exact ⟨x, h1, by simp⟩
        | succ j =>
          simp at hb hc
          obtain ⟨z, h3, h4⟩ := rmuls_mem h2 j b c hb hc
          exact ⟨z, h3, by simp [h4]⟩
theorem rmuls_head {o : Fq} {cs : List Int} {bss xs : List (List Nat)} (h : rmuls o cs bss = some xs) {b : List Nat} {c : Int} (hb : bss[0]? = some b) (hc : cs[0]? = some c) : ∃ x, rmul o c b = some x ∧ xs[0]? = some x := by
  match cs, bss, hb, hc with
  | c' :: cs, b' :: bs, hb, hc =>
    simp at hb hc; subst hb; subst hc
    simp only [rmuls] at h
    cases h1 : rmul o c' b' with
    | none => rw [h1] at h; cases h
    | some x =>
      rw [h1] at h
      cases h2 : rmuls o cs bs with
      | none => rw [h2] at h; cases h
      | some ys =>
        rw [h2] at h
        obtain rfl : x :: ys = xs := Option.some.inj h
        exact ⟨x, rfl, rfl⟩
/-- Rows of unlike lengths have no sum. -/
theorem rdot_unlike {wb p : Nat} (hw : wb = 8 ∨ wb = 16) {cs : List Int} {bss : List (List Nat)} {b0 b : List Nat} {c0 c : Int} {j : Nat} (h0 : bss[0]? = some b0) (hc0 : cs[0]? = some c0) (hb : bss[j]? = some b) (hc : cs[j]? = some c) (hne : b.length ≠ b0.length) : rdot (some (wb, p)) cs bss = none := by
  cases h : rmuls (some (wb, p)) cs bss with
  | none => exact rdot_none2 h
  | some xs =>
    obtain ⟨x0, h1, h2⟩ := rmuls_head h h0 hc0
    obtain ⟨x, h3, h4⟩ := rmuls_mem h j b c hb hc
    unfold rdot
    split
    · rw [h]
      exact rsum_f h2 h4 (by rw [rmul_len hw h3, rmul_len hw h1]; exact hne)
    · rfl
def u16s (l : List Nat) : List Value := l.map fun (n : Nat) => Value.int .u16 (n : Int)
@[simp] theorem u16s_length (l : List Nat) : (u16s l).length = l.length := by simp [u16s]
theorem u16s_at {l : List Nat} {i n : Nat} (h : l[i]? = some n) : (u16s l)[i]? = some (.int .u16 (n : Int)) := by simp [u16s, h]
def fq (b : Bool) : Nat × Nat := bif b then (16, 69643) else (8, 285)
end Go.Gam
