/- Plain functions on numbers: polynomials over two elements as numbers, products without carries, what is left, powers. No program in sight. -/
namespace Go.Gam.Px

/-- The degree; -1 of 0. -/
def deg (p : Nat) : Int := if p = 0 then -1 else (Nat.log2 p : Int)

/-- The product without carries. -/
def mul (a b : Nat) : Nat := if h : b = 0 then 0 else (if b % 2 = 1 then a else 0) ^^^ (2 * mul a (b / 2))
termination_by b
decreasing_by omega

/-- One step of what is left: the bit at i taken away. -/
def red (p d : Nat) (a : Nat) (i : Nat) : Nat := if a.testBit i then a ^^^ (p <<< (i - d)) else a

/-- From bit (d + k - 1) down to bit d. -/
def modN (p d : Nat) : Nat → Nat → Nat
  | 0, a => a
  | k + 1, a => modN p d k (red p d a (d + k))

/-- What is left of a by p. -/
def mod (a p : Nat) : Nat := if p = 0 then 0 else modN p (Nat.log2 p) (Nat.log2 a + 1 - Nat.log2 p) a

def mulMod (a b p : Nat) : Nat := mod (mul a b) p

/-- a to the power of n, modulo p, one factor behind the other. -/
def pow (a p : Nat) : Nat → Nat
  | 0 => mod 1 p
  | n + 1 => mulMod (pow a p n) a p

/-- The tables of a field: the powers of x, and which one a number is. -/
def pw (p : Nat) : Nat → Nat
  | 0 => 1
  | n + 1 => mulMod (pw p n) 2 p

def expL (w p : Nat) (k : Nat) : List Nat := (List.range k).map (pw p) ++ List.replicate (2 ^ w - k) 0

def logL (w p : Nat) : Nat → List Nat
  | 0 => List.replicate (2 ^ w) 0
  | k + 1 => (logL w p k).set (pw p k) k

end Go.Gam.Px
