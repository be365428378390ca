/- What the functions of layer 9 compute, as plain Lean. -/
import Derived.Test.YtjhknbpiaikblaaMore
namespace Go.Proofs.Ytjhknbpiaikblaa
open Go Go.RowKit

structure Raster where
  x0 : Int
  y0 : Int
  step : Int
  nx : Int
  ny : Int
structure Cell where
  void : Bool
  lo : Int
  hi : Int
structure XY where
  x : Int
  y : Int

instance : Inhabited Cell := ⟨⟨false, 0, 0⟩⟩

def eI (x : Int) : List Value := [.int .i64 x]
def eB (x : Bool) : List Value := [.bool x]
def eC (c : Cell) : List Value := [.bool c.void, .int .i64 c.lo, .int .i64 c.hi]

def coordB (x : Int) : Bool := decide (-268435456 ≤ x) && decide (x ≤ 268435456)
def withinB (lo x hi : Int) : Bool := decide (lo ≤ x) && decide (x ≤ hi)
def rasterB (f : Raster) : Bool :=
  withinB 1 f.step 1000000 && withinB 1 f.nx 64 && withinB 1 f.ny 64 && coordB f.x0 && coordB f.y0 &&
    coordB (f.x0 + (f.nx - 1) * f.step) && coordB (f.y0 + (f.ny - 1) * f.step)

def nodeOk (f : Raster) (i : Int) : Bool := rasterB f && (decide (0 ≤ i) && decide (i ≤ f.nx * f.ny - 1))
def nodeX (f : Raster) (i : Int) : Int := if nodeOk f i = true then f.x0 + i % f.nx * f.step else 0
def nodeY (f : Raster) (i : Int) : Int := if nodeOk f i = true then f.y0 + i / f.nx * f.step else 0
def nodeE (f : Raster) (i : Int) : Int := if rasterB f = true then (if nodeOk f i = true then 0 else 92) else 90
def cellB (c : Cell) : Bool := if c.void = true then c.lo == 0 && (c.hi == 0 && true) else (decide (c.lo ≤ c.hi) && coordB c.lo && coordB c.hi)
def validB (f : Raster) (l : List Cell) : Bool := rasterB f && decide ((l.length : Int) = f.nx * f.ny) && l.all cellB
def rasEq (f g : Raster) : Bool := (f.x0 == g.x0) && ((f.y0 == g.y0) && ((f.step == g.step) && ((f.nx == g.nx) && ((f.ny == g.ny) && true))))
def pairE (f : Raster) (l : List Cell) (g : Raster) (r : List Cell) : Int := if (validB f l && validB g r) = true then (if rasEq f g = true then 0 else 91) else 90
def stateI (a b : Cell) : Int := if (a.void || b.void) = true then 2 else if a.hi < b.lo then 1 else if b.hi < a.lo then -1 else 0

def sumF (g : Int → Int) : List Int → Int
  | [] => 0
  | x :: r => g x + sumF g r
theorem sumF_take (g : Int → Int) : ∀ (l : List Int) (k : Nat) (h : k < l.length), sumF g (l.take (k + 1)) = sumF g (l.take k) + g l[k]
  | [], _, h => by simp at h
  | x :: r, 0, _ => by simp [sumF]
  | x :: r, k + 1, h => by
    have := sumF_take g r k (by simpa using h)
    simp only [List.take_succ_cons, sumF, List.getElem_cons_succ] at this ⊢
    rw [this]; omega
theorem sumF_bd (g : Int → Int) (B : Nat) : ∀ (l : List Int), (∀ x ∈ l, -(B : Int) ≤ g x ∧ g x ≤ B) → -((B * l.length : Nat) : Int) ≤ sumF g l ∧ sumF g l ≤ ((B * l.length : Nat) : Int)
  | [], _ => by simp [sumF]
  | x :: r, h => by
    have h1 := h x List.mem_cons_self
    have h2 := sumF_bd g B r (fun y hy => h y (List.mem_cons_of_mem _ hy))
    simp only [sumF, List.length_cons, Nat.mul_succ]
    omega
def loF (l r : List Cell) (i : Int) : Int := (r.getD i.toNat default).lo - (l.getD i.toNat default).hi
def hiF (l r : List Cell) (i : Int) : Int := (r.getD i.toNat default).hi - (l.getD i.toNat default).lo
def inB (n : Nat) (i : Int) : Bool := decide (0 ≤ i) && decide (i ≤ (n : Int) - 1)
def freeB (l r : List Cell) : List Bool → List Int → Bool
  | _, [] => true
  | seen, i :: t => !((seen.getD i.toNat false) || (l.getD i.toNat default).void || (r.getD i.toNat default).void) && freeB l r (seen.set i.toNat true) t
def amtE (f : Raster) (l : List Cell) (g : Raster) (r : List Cell) (nodes : List Int) : Int :=
  if pairE f l g r = 0 then (if nodes.all (inB l.length) = true then (if freeB l r (List.replicate l.length false) nodes = true then 0 else 2) else 92) else pairE f l g r

def amtLo (f : Raster) (l : List Cell) (g : Raster) (r : List Cell) (nodes : List Int) : Int := if amtE f l g r nodes = 0 then f.step * f.step * sumF (loF l r) nodes else 0
def amtHi (f : Raster) (l : List Cell) (g : Raster) (r : List Cell) (nodes : List Int) : Int := if amtE f l g r nodes = 0 then f.step * f.step * sumF (hiF l r) nodes else 0

def heavyB (f : Raster) (n : Nat) : Bool := decide (5000 < (n : Int)) || (rasterB f && decide (150 < f.nx * f.ny))
def commonC (a b : Cell) : Cell := if a.void = true then b else if b.void = true then a else if stateI a b = 0 then ⟨false, max a.lo b.lo, min a.hi b.hi⟩ else ⟨true, 0, 0⟩

def outR (f : Raster) (e : Int) : Raster := if e = 0 then f else ⟨0, 0, 0, 0, 0⟩
def chgB (z : Int) : Bool := decide (z = 1) || decide (z = -1)
end Go.Proofs.Ytjhknbpiaikblaa
