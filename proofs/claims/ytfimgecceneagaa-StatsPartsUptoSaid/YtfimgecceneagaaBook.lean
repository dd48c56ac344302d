/- What the rows of the package stats are after some events and intervals, as numbers by place. Plain. -/
import Derived.Test.YtfimgecceneagaaPAllf33
import Derived.Test.YtfimgecceneagaaPAllf32
import Derived.Test.YtfimgecceneagaaMeterO
namespace Go.Proofs.Ytfimgecceneagaa.PAll
open Go.RowKit Go.Proofs.YtfimgecceneagaaW.PrintWords Go.Proofs.YtfimgecceneagaaW.PrintLast Go.Proofs.Ytfimgecceneagaa.Arr Go.Proofs.Ytfimgecceneagaa.Wp

def evE (v : Nat → Int) (e : S63) : Nat → Int := if 0 ≤ e.f1 ∧ e.f1 < 6 then evt v e.f0 e.f1.toNat e.f2 e.f3 else v
/-- Of an interval: the cycles. -/
def runC (v : Nat → Int) (i : S28) : Nat → Int := upd v (i.f4.toNat * 6 + 3) (wrap64 (v (i.f4.toNat * 6 + 3) + i.f5))
def runI (ls : List S66) (ss : List S69) (idle swE : Int) (v : Nat → Int) (i : S28) : Nat → Int :=
  if i.f0 = 1 ∧ 0 ≤ i.f4 ∧ i.f4 < 6 then upd (runC v i) (i.f4.toNat * 6 + 4) (wrap64 (runC v i (i.f4.toNat * 6 + 4) + ofW ls ss idle swE i.f0 i.f2 i.f3 i.f5)) else v
def zeroB : Nat → Int := fun _ => 0
def booked (es : List S63) (n : Nat) : Nat → Int := (es.take n).foldl evE zeroB
def runs (ls : List S66) (ss : List S69) (idle swE : Int) (v : Nat → Int) (l : List S28) (n : Nat) : Nat → Int := (l.take n).foldl (runI ls ss idle swE) v
theorem booked_zero (es : List S63) : booked es 0 = zeroB := rfl
theorem booked_succ (es : List S63) (i : Int) (h0 : 0 ≤ i) (h1 : i < es.length) : booked es (i + 1).toNat = evE (booked es i.toNat) (rd_T63 es i) := by
  have h : i.toNat < es.length := by omega
  rw [show (i + 1).toNat = i.toNat + 1 by omega]
  unfold booked rd_T63
  rw [List.take_add_one, List.foldl_append, List.getElem?_eq_getElem h]
  simp [List.getD_eq_getElem?_getD, List.getElem?_eq_getElem h]
theorem runs_zero (ls : List S66) (ss : List S69) (idle swE : Int) (v : Nat → Int) (l : List S28) : runs ls ss idle swE v l 0 = v := rfl
theorem runs_succ (ls : List S66) (ss : List S69) (idle swE : Int) (v : Nat → Int) (l : List S28) (i : Int) (h0 : 0 ≤ i) (h1 : i < l.length) : runs ls ss idle swE v l (i + 1).toNat = runI ls ss idle swE (runs ls ss idle swE v l i.toNat) (rd_T28 l i) := by
  have h : i.toNat < l.length := by omega
  rw [show (i + 1).toNat = i.toNat + 1 by omega]
  unfold runs rd_T28
  rw [List.take_add_one, List.foldl_append, List.getElem?_eq_getElem h]
  simp [List.getD_eq_getElem?_getD, List.getElem?_eq_getElem h]
/-- All rows, after all events and intervals. -/
def tasksV (ls : List S66) (ss : List S69) (idle swE : Int) (l : List S28) (es : List S63) : Nat → Int := l.foldl (runI ls ss idle swE) (es.foldl evE zeroB)
theorem booked_all (es : List S63) (i : Int) (h : ¬ i < es.length) : booked es i.toNat = es.foldl evE zeroB := by
  unfold booked; rw [List.take_of_length_le (by omega)]
theorem runs_all (ls : List S66) (ss : List S69) (idle swE : Int) (v : Nat → Int) (l : List S28) (i : Int) (h : ¬ i < l.length) : runs ls ss idle swE v l i.toNat = l.foldl (runI ls ss idle swE) v := by
  unfold runs; rw [List.take_of_length_le (by omega)]
theorem zeros60 : (#[Value.int .i64 0, .int .i64 0, .int .i64 0, .int .i64 0, .int .i64 0, .int .i64 0, .int .i64 0, .int .i64 0, .int .i64 0, .int .i64 0, .int .i64 0, .int .i64 0, .int .i64 0, .int .i64 0, .int .i64 0, .int .i64 0, .int .i64 0, .int .i64 0, .int .i64 0, .int .i64 0, .int .i64 0, .int .i64 0, .int .i64 0, .int .i64 0, .int .i64 0, .int .i64 0, .int .i64 0, .int .i64 0, .int .i64 0, .int .i64 0, .int .i64 0, .int .i64 0, .int .i64 0, .int .i64 0, .int .i64 0, .int .i64 0, .int .i64 0, .int .i64 0, .int .i64 0, .int .i64 0, .int .i64 0, .int .i64 0, .int .i64 0, .int .i64 0, .int .i64 0, .int .i64 0, .int .i64 0, .int .i64 0, .int .i64 0, .int .i64 0, .int .i64 0, .int .i64 0, .int .i64 0, .int .i64 0, .int .i64 0, .int .i64 0, .int .i64 0, .int .i64 0, .int .i64 0, .int .i64 0]) = arrN 60 zeroB := by rfl
theorem zeros36 : (#[Value.int .i64 0, .int .i64 0, .int .i64 0, .int .i64 0, .int .i64 0, .int .i64 0, .int .i64 0, .int .i64 0, .int .i64 0, .int .i64 0, .int .i64 0, .int .i64 0, .int .i64 0, .int .i64 0, .int .i64 0, .int .i64 0, .int .i64 0, .int .i64 0, .int .i64 0, .int .i64 0, .int .i64 0, .int .i64 0, .int .i64 0, .int .i64 0, .int .i64 0, .int .i64 0, .int .i64 0, .int .i64 0, .int .i64 0, .int .i64 0, .int .i64 0, .int .i64 0, .int .i64 0, .int .i64 0, .int .i64 0, .int .i64 0]) = arrN 36 zeroB := by rfl
theorem known_is (n : Int) : stats_known.f n = some (decide (0 ≤ n ∧ n < 6)) := by
  unfold stats_known.f
  by_cases h : n ≥ 0
  · rw [if_pos h]; simp [h]
  · rw [if_neg h, decide_eq_false (by omega)]
end Go.Proofs.Ytfimgecceneagaa.PAll
