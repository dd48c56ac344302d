/- Blocks of whole numbers that are read and written at an index that is a letter. -/
import Derived.Test.YtfimgecceneagaaWWords
namespace Go.Proofs.Ytfimgecceneagaa.Arr
open Go.RowKit Go.Proofs.YtfimgecceneagaaW.PrintWords

/-- One of four numbers. -/
def rd4 (a b c d j : Int) : Int := if j = 0 then a else if j = 1 then b else if j = 2 then c else d
/-- A number at place i, changed to x if i is j. -/
def up (i j a x : Int) : Int := if j = i then x else a
theorem idx4 {j : Int} (h0 : 0 ≤ j) (h1 : j < 4) : j = 0 ∨ j = 1 ∨ j = 2 ∨ j = 3 := by omega
theorem cell4_at {w : World} {g : Nat} {t : TypeId} {a b c d : Int} (h : w.heap[g]? = some (.cells #[.int .i64 a, .int .i64 b, .int .i64 c, .int .i64 d] t (0, 0))) (j : Int) (h0 : 0 ≤ j) (h1 : j < 4) :
    w.cell? ⟨g, j.toNat, none⟩ = some (.int .i64 (rd4 a b c d j)) := by
  rw [blk_cell h]
  rcases idx4 h0 h1 with rfl | rfl | rfl | rfl <;> rfl
theorem put4_at (a b c d x : Int) (j : Int) (h0 : 0 ≤ j) (h1 : j < 4) :
    (#[Value.int .i64 a, .int .i64 b, .int .i64 c, .int .i64 d]).setIfInBounds j.toNat (.int .i64 x) = #[.int .i64 (up 0 j a x), .int .i64 (up 1 j b x), .int .i64 (up 2 j c x), .int .i64 (up 3 j d x)] := by
  rcases idx4 h0 h1 with rfl | rfl | rfl | rfl <;> rfl

/-- n whole numbers, as a block's cells. -/
def arrN (n : Nat) (v : Nat → Int) : Array Value := Array.ofFn (n := n) fun i => .int .i64 (v i)
/-- v with x at k. -/
def upd (v : Nat → Int) (k : Nat) (x : Int) : Nat → Int := fun i => if i = k then x else v i
theorem arrN_get (n : Nat) (v : Nat → Int) (k : Nat) (h : k < n) : (arrN n v)[k]? = some (.int .i64 (v k)) := by
  simp [arrN, h]
theorem arrN_set (n : Nat) (v : Nat → Int) (k : Nat) (x : Int) : (arrN n v).setIfInBounds k (.int .i64 x) = arrN n (upd v k x) := by
  apply Array.ext_getElem?
  intro i
  rw [Array.getElem?_setIfInBounds]
  by_cases e : k = i
  · subst e
    by_cases h : k < n <;> simp [arrN, upd, h]
  · by_cases h : i < n <;> simp [arrN, upd, h, e, Ne.symm e]
theorem arrN_cell {w : World} {g : Nat} {t : TypeId} {n : Nat} {v : Nat → Int} (h : w.heap[g]? = some (.cells (arrN n v) t (0, 0))) (k : Nat) (hk : k < n) : w.cell? ⟨g, k, none⟩ = some (.int .i64 (v k)) := by
  rw [blk_cell h, arrN_get n v k hk]
theorem arrN_put {w : World} {g : Nat} {t : TypeId} {n : Nat} {v : Nat → Int} (h : w.heap[g]? = some (.cells (arrN n v) t (0, 0))) (k : Nat) (x : Int) : (w.setCell ⟨g, k, none⟩ (.int .i64 x)).heap[g]? = some (.cells (arrN n (upd v k x)) t (0, 0)) :=
  blk_put h k _ (arrN_set n v k x)
/-- The greater of two whole numbers, as the built-in reckons it. -/
def gr (a b : Int) : Int := if a < b then b else a
theorem maxTwo (ats : Array TypeId) (ty : TypeId) (k k' : IntKind) (x y : Int) : Builtin.max_ ats ty #[.int k x, .int k' y] = pure (.int k (gr x y)) := by
  simp [Builtin.max_, Builtin.max2, gr]
end Go.Proofs.Ytfimgecceneagaa.Arr
