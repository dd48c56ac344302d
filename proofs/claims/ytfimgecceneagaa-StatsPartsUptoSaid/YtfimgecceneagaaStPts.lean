/- One interval more and one event more change no other task's row. Plain. -/
import Derived.Test.YtfimgecceneagaaBook
namespace Go.Proofs.Ytfimgecceneagaa.PAll
open Go.RowKit Go.Proofs.YtfimgecceneagaaW.PrintWords Go.Proofs.YtfimgecceneagaaW.PrintLast Go.Proofs.Ytfimgecceneagaa.Arr Go.Proofs.Ytfimgecceneagaa.Wp

theorem upd_aw (v : Nat → Int) (k : Nat) (x : Int) (i : Nat) (h : i ≠ k) : upd v k x i = v i := if_neg h
theorem evt_aw (t u : Nat) (ht : t < 6) (hu : u < 6) (h : t ≠ u) (V : Nat → Int) (kind at_ due : Int) : ∀ j, j < 6 → evt V kind u at_ due (t * 6 + j) = V (t * 6 + j) := by
  unfold evt lng
  intro j hj
  repeat' split
  all_goals (repeat (first | rfl | rw [upd_aw _ _ _ _ (by omega)]))
theorem ev_aw (t : Nat) (ht : t < 6) (V : Nat → Int) (x : S63) (h : (t : Int) ≠ x.f1) : ∀ j, j < 6 → evE V x (t * 6 + j) = V (t * 6 + j) := by
  intro j hj
  unfold evE
  by_cases k : 0 ≤ x.f1 ∧ x.f1 < 6
  · rw [if_pos k]; exact evt_aw t x.f1.toNat ht (by omega) (by omega) V _ _ _ j hj
  · rw [if_neg k]
theorem run_aw (ls : List S66) (ss : List S69) (idle swE : Int) (t : Nat) (_ht : t < 6) (V : Nat → Int) (i : S28) (h : (t : Int) ≠ i.f4) : ∀ j, j < 6 → runI ls ss idle swE V i (t * 6 + j) = V (t * 6 + j) := by
  intro j hj
  unfold runI
  by_cases k : i.f0 = 1 ∧ (0 : Int) ≤ i.f4 ∧ i.f4 < 6
  · rw [if_pos k]
    unfold runC
    rw [upd_aw _ _ _ _ (by omega), upd_aw _ _ _ _ (by omega)]
  · rw [if_neg k]
theorem run_cong (ls : List S66) (ss : List S69) (idle swE : Int) (t : Nat) (ht : t < 6) (V U : Nat → Int) (h : ∀ j, j < 6 → V (t * 6 + j) = U (t * 6 + j)) (i : S28) : ∀ j, j < 6 → runI ls ss idle swE V i (t * 6 + j) = runI ls ss idle swE U i (t * 6 + j) := by
  intro j hj
  by_cases q : (t : Int) = i.f4
  · unfold runI
    by_cases k : i.f0 = 1 ∧ (0 : Int) ≤ i.f4 ∧ i.f4 < 6
    · rw [if_pos k, if_pos k]
      have e0 : i.f4.toNat = t := by omega
      have r3 := h 3 (by omega)
      have r4 := h 4 (by omega)
      have rj := h j hj
      unfold runC upd
      rw [e0]
      simp only [r3, r4, rj]
    · rw [if_neg k, if_neg k]; exact h j hj
  · rw [run_aw ls ss idle swE t ht V i q j hj, run_aw ls ss idle swE t ht U i q j hj]; exact h j hj
theorem runs_cong (ls : List S66) (ss : List S69) (idle swE : Int) (t : Nat) (ht : t < 6) : ∀ (l : List S28) (V U : Nat → Int), (∀ j, j < 6 → V (t * 6 + j) = U (t * 6 + j)) → ∀ j, j < 6 → l.foldl (runI ls ss idle swE) V (t * 6 + j) = l.foldl (runI ls ss idle swE) U (t * 6 + j)
  | [], _, _, h => h
  | i :: l, V, U, h => runs_cong ls ss idle swE t ht l _ _ (run_cong ls ss idle swE t ht V U h i)
/-- What happens to one task changes nothing of another one's row. -/
theorem rows_parts (ls : List S66) (ss : List S69) (idle swE : Int) (l : List S28) (es : List S63) (i : S28) (x : S63) (t : Nat) (ht : t < 6) (hx : (t : Int) ≠ x.f1) (hi : (t : Int) ≠ i.f4) (j : Nat) (hj : j < 6) : tasksV ls ss idle swE (l ++ [i]) (es ++ [x]) (t * 6 + j) = tasksV ls ss idle swE l es (t * 6 + j) := by
  unfold tasksV
  rw [List.foldl_append, List.foldl_append]
  simp only [List.foldl_cons, List.foldl_nil]
  rw [run_aw ls ss idle swE t ht _ i hi j hj]
  exact runs_cong ls ss idle swE t ht l _ _ (ev_aw t ht _ x hx) j hj
end Go.Proofs.Ytfimgecceneagaa.PAll
