/- The rows of the program and the document's rows of one task are the same. Plain. -/
import Derived.Test.YtfimgecceneagaaPAllf24
namespace Go.Proofs.Ytfimgecceneagaa.PAll
open Go.RowKit Go.Proofs.YtfimgecceneagaaW.PrintWords Go.Proofs.YtfimgecceneagaaW.PrintLast Go.Proofs.Ytfimgecceneagaa.Arr Go.Proofs.Ytfimgecceneagaa.Wp

theorem upd_at (v : Nat → Int) (k : Nat) (x : Int) : upd v k x k = x := if_pos rfl
theorem upd_no (v : Nat → Int) (k : Nat) (x : Int) (i : Nat) (h : i ≠ k) : upd v k x i = v i := if_neg h
theorem mxx_gr (a b : Int) : mxx a b = gr a b := by unfold mxx gr; split <;> split <;> omega

/-- What hangs together after c events: of task t, the program's numbers V and the document's state s. -/
structure Tied (t : Nat) (c : Int) (V : Nat → Int) (s : OfS) : Prop where
  rows : ∀ j, j < 6 → V (t * 6 + j) = s.1 j
  rel0 : 0 ≤ s.1 0
  rel1 : s.1 0 ≤ c
  some_ : s.2.2 = true ↔ 0 < s.1 0
  last : s.2.2 = true → V (36 + t * 4 + 2) = s.2.1
  cyc : s.1 3 = 0 ∧ s.1 4 = 0

theorem evt_other (t u : Nat) (ht : t < 6) (hu : u < 6) (h : t ≠ u) (V : Nat → Int) (kind at_ due : Int) : (∀ j, j < 6 → evt V kind u at_ due (t * 6 + j) = V (t * 6 + j)) ∧ (∀ j, j < 4 → evt V kind u at_ due (36 + t * 4 + j) = V (36 + t * 4 + j)) := by
  unfold evt lng
  constructor
  · intro j hj
    repeat' split
    all_goals (repeat (first | rfl | rw [upd_no _ _ _ _ (by omega)]))
  · intro j hj
    repeat' split
    all_goals (repeat (first | rfl | rw [upd_no _ _ _ _ (by omega)]))

theorem tied_step (t : Nat) (ht : t < 6) (c : Int) (hc : c ≤ 4096) (V : Nat → Int) (s : OfS) (h : Tied t c V s) (e : S63) : Tied t (c + 1) (evE V e) (evO (t : Int) s e) := by
  obtain ⟨v, last, sm⟩ := s
  have r : ∀ j, j < 6 → V (t * 6 + j) = v j := h.rows
  have rel0 : 0 ≤ v 0 := h.rel0
  have rel1 : v 0 ≤ c := h.rel1
  have hs : sm = true ↔ 0 < v 0 := h.some_
  have hl : sm = true → V (36 + t * 4 + 2) = last := h.last
  have hcy : v 3 = 0 ∧ v 4 = 0 := h.cyc
  by_cases hk : (0 : Int) ≤ e.f1 ∧ e.f1 < 6
  case neg =>
    have e1 : evE V e = V := by unfold evE; rw [if_neg hk]
    have e2 : evO (t : Int) (v, last, sm) e = (v, last, sm) := by unfold evO; rw [if_neg (by omega)]
    rw [e1, e2]
    exact ⟨r, rel0, by dsimp only; omega, hs, hl, hcy⟩
  by_cases hn : e.f1 = (t : Int)
  case neg =>
    have e1 : evE V e = evt V e.f0 e.f1.toNat e.f2 e.f3 := by unfold evE; rw [if_pos hk]
    have e2 : evO (t : Int) (v, last, sm) e = (v, last, sm) := by unfold evO; rw [if_neg hn]
    have o := evt_other t e.f1.toNat ht (by omega) (by omega) V e.f0 e.f2 e.f3
    rw [e1, e2]
    exact ⟨fun j hj => by rw [o.1 j hj]; exact r j hj, rel0, by dsimp only; omega, hs, fun hh => by rw [o.2 2 (by omega)]; exact hl hh, hcy⟩
  have e0 : e.f1.toNat = t := by omega
  have e1 : evE V e = evt V e.f0 t e.f2 e.f3 := by unfold evE; rw [if_pos hk, e0]
  rw [e1]
  have r0 := r 0 (by omega)
  have r5 := r 5 (by omega)
  rw [Nat.add_zero] at r0
  by_cases k1 : e.f0 = 1
  · have e2 : evO (t : Int) (v, last, sm) e = (upd v 0 (wrap64 (v 0 + 1)), e.f2, true) := by unfold evO; rw [if_pos hn, if_pos k1]
    have e3 : evt V e.f0 t e.f2 e.f3 = upd (upd (upd (upd (upd V (t * 6) (wrap64 (V (t * 6) + 1))) (36 + t * 4) 1) (36 + t * 4 + 1) t) (36 + t * 4 + 2) e.f2) (36 + t * 4 + 3) e.f3 := by unfold evt; rw [if_pos k1]
    have w1 : wrap64 (v 0 + 1) = v 0 + 1 := wrap_id (by omega) (by omega)
    rw [e2, e3, w1]
    refine ⟨fun j hj => ?_, ?_, ?_, ?_, ?_, ?_⟩
    · rw [upd_no _ _ _ _ (by omega), upd_no _ _ _ _ (by omega), upd_no _ _ _ _ (by omega), upd_no _ _ _ _ (by omega)]
      by_cases j0 : j = 0
      · subst j0; rw [Nat.add_zero, upd_at, r0, w1]; exact (upd_at v 0 _).symm
      · rw [upd_no _ _ _ _ (by omega), r j hj]; exact (upd_no v 0 _ j j0).symm
    · show 0 ≤ upd v 0 (v 0 + 1) 0; rw [upd_at]; omega
    · show upd v 0 (v 0 + 1) 0 ≤ c + 1; rw [upd_at]; omega
    · show true = true ↔ 0 < upd v 0 (v 0 + 1) 0; rw [upd_at]; exact ⟨fun _ => by omega, fun _ => rfl⟩
    · intro _; rw [upd_no _ _ _ _ (by omega), upd_at]
    · show upd v 0 (v 0 + 1) 3 = 0 ∧ upd v 0 (v 0 + 1) 4 = 0; rw [upd_no _ _ _ _ (by omega), upd_no _ _ _ _ (by omega)]; exact hcy
  have key : ∀ f, 1 ≤ f → f ≤ 2 → Tied t (c + 1) (lng (upd V (t * 6 + f) (wrap64 (V (t * 6 + f) + 1))) t e.f2) (lngO (upd v f (wrap64 (v f + 1)), last, sm) e.f2) := by
    intro f f1 f2
    have rf := r f (by omega)
    have c0 : upd V (t * 6 + f) (wrap64 (V (t * 6 + f) + 1)) (t * 6) = v 0 := by rw [upd_no _ _ _ _ (by omega), r0]
    have c5 : upd V (t * 6 + f) (wrap64 (V (t * 6 + f) + 1)) (t * 6 + 5) = v 5 := by rw [upd_no _ _ _ _ (by omega), r5]
    have cl : upd V (t * 6 + f) (wrap64 (V (t * 6 + f) + 1)) (36 + t * 4 + 2) = V (36 + t * 4 + 2) := by rw [upd_no _ _ _ _ (by omega)]
    have base : ∀ j, j < 6 → upd V (t * 6 + f) (wrap64 (V (t * 6 + f) + 1)) (t * 6 + j) = upd v f (wrap64 (v f + 1)) j := by
      intro j hj
      by_cases jf : j = f
      · subst jf; rw [upd_at, upd_at, rf]
      · rw [upd_no _ _ _ _ (by omega), upd_no _ _ _ _ jf, r j hj]
    cases sm
    · have np : ¬ 0 < v 0 := fun hh => by have := hs.mpr hh; cases this
      have l1 : lng (upd V (t * 6 + f) (wrap64 (V (t * 6 + f) + 1))) t e.f2 = upd V (t * 6 + f) (wrap64 (V (t * 6 + f) + 1)) := by unfold lng; rw [if_neg (by rw [c0]; omega)]
      have l2 : lngO (upd v f (wrap64 (v f + 1)), last, false) e.f2 = (upd v f (wrap64 (v f + 1)), last, false) := by unfold lngO; rw [if_neg (by simp)]
      rw [l1, l2]
      refine ⟨base, ?_, ?_, ?_, ?_, ?_⟩
      · show 0 ≤ upd v f _ 0; rw [upd_no _ _ _ _ (by omega)]; exact rel0
      · show upd v f _ 0 ≤ c + 1; rw [upd_no _ _ _ _ (by omega)]; omega
      · show false = true ↔ 0 < upd v f _ 0; rw [upd_no _ _ _ _ (by omega)]; exact hs
      · intro hh; cases hh
      · show upd v f _ 3 = 0 ∧ upd v f _ 4 = 0; rw [upd_no _ _ _ _ (by omega), upd_no _ _ _ _ (by omega)]; exact hcy
    · have pp : 0 < v 0 := hs.mp rfl
      have l1 : lng (upd V (t * 6 + f) (wrap64 (V (t * 6 + f) + 1))) t e.f2 = upd (upd V (t * 6 + f) (wrap64 (V (t * 6 + f) + 1))) (t * 6 + 5) (gr (v 5) (wrap64 (e.f2 - last))) := by
        unfold lng; rw [if_pos (by rw [c0]; omega), c5, cl, hl rfl]
      have l2 : lngO (upd v f (wrap64 (v f + 1)), last, true) e.f2 = (upd (upd v f (wrap64 (v f + 1))) 5 (gr (v 5) (wrap64 (e.f2 - last))), last, true) := by
        have c5v : upd v f (wrap64 (v f + 1)) 5 = v 5 := upd_no _ _ _ 5 (by omega)
        unfold lngO; rw [if_pos rfl, mxx_gr]; dsimp only; rw [c5v]
      rw [l1, l2]
      refine ⟨?_, ?_, ?_, ?_, ?_, ?_⟩
      · intro j hj
        dsimp only
        by_cases j5 : j = 5
        · subst j5; rw [upd_at, upd_at]
        · rw [upd_no _ _ _ _ (by omega), upd_no _ _ _ _ j5]; exact base j hj
      · dsimp only; rw [upd_no _ _ _ _ (by omega), upd_no _ _ _ _ (by omega)]; exact rel0
      · dsimp only; rw [upd_no _ _ _ _ (by omega), upd_no _ _ _ _ (by omega)]; omega
      · dsimp only; rw [upd_no _ _ _ _ (by omega), upd_no _ _ _ _ (by omega)]; exact hs
      · intro _; rw [upd_no _ _ _ _ (by omega), cl]; exact hl rfl
      · dsimp only; rw [upd_no _ _ _ _ (by omega), upd_no _ _ _ _ (by omega), upd_no _ _ _ _ (by omega), upd_no _ _ _ _ (by omega)]; exact hcy
  by_cases k2 : e.f0 = 2
  · have e2 : evO (t : Int) (v, last, sm) e = lngO (upd v 1 (wrap64 (v 1 + 1)), last, sm) e.f2 := by unfold evO; rw [if_pos hn, if_neg k1, if_pos k2]
    have e3 : evt V e.f0 t e.f2 e.f3 = lng (upd V (t * 6 + 1) (wrap64 (V (t * 6 + 1) + 1))) t e.f2 := by unfold evt; rw [if_neg k1, if_pos k2]
    rw [e2, e3]; exact key 1 (by omega) (by omega)
  by_cases k3 : e.f0 = 3
  · have e2 : evO (t : Int) (v, last, sm) e = lngO (upd v 2 (wrap64 (v 2 + 1)), last, sm) e.f2 := by unfold evO; rw [if_pos hn, if_neg k1, if_neg k2, if_pos k3]
    have e3 : evt V e.f0 t e.f2 e.f3 = lng (upd V (t * 6 + 2) (wrap64 (V (t * 6 + 2) + 1))) t e.f2 := by unfold evt; rw [if_neg k1, if_neg k2, if_pos k3]
    rw [e2, e3]; exact key 2 (by omega) (by omega)
  have e2 : evO (t : Int) (v, last, sm) e = (v, last, sm) := by unfold evO; rw [if_pos hn, if_neg k1, if_neg k2, if_neg k3]
  have e3 : evt V e.f0 t e.f2 e.f3 = V := by unfold evt; rw [if_neg k1, if_neg k2, if_neg k3]
  rw [e2, e3]
  exact ⟨r, rel0, by dsimp only; omega, hs, hl, hcy⟩

theorem tied_all (t : Nat) (ht : t < 6) : ∀ (es : List S63) (c : Int) (V : Nat → Int) (s : OfS), Tied t c V s → c + es.length ≤ 4096 → Tied t (c + es.length) (es.foldl evE V) (es.foldl (evO (t : Int)) s)
  | [], c, V, s, h, _ => by simpa using h
  | e :: es, c, V, s, h, hc => by
    rw [List.length_cons] at hc ⊢
    have := tied_all t ht es (c + 1) (evE V e) (evO (t : Int) s e) (tied_step t ht c (by omega) V s h e) (by omega)
    rw [show c + 1 + (es.length : Int) = c + ((es.length + 1 : Nat) : Int) by omega] at this
    exact this

theorem run_same (ls : List S66) (ss : List S69) (idle swE : Int) (t : Nat) (ht : t < 6) (V v : Nat → Int) (h : ∀ j, j < 6 → V (t * 6 + j) = v j) (i : S28) : ∀ j, j < 6 → runI ls ss idle swE V i (t * 6 + j) = runO ls ss idle swE (t : Int) v i j := by
  intro j hj
  unfold runI runO
  by_cases k : i.f0 = 1 ∧ (0 : Int) ≤ i.f4 ∧ i.f4 < 6
  · rw [if_pos k]
    by_cases hn : i.f4 = (t : Int)
    · have e0 : i.f4.toNat = t := by omega
      rw [if_pos ⟨k.1, hn⟩]
      unfold runC
      rw [e0]
      have r3 := h 3 (by omega)
      have r4 := h 4 (by omega)
      by_cases j4 : j = 4
      · subst j4; rw [upd_at, upd_at, upd_no _ _ _ _ (by omega), r4]
      · rw [upd_no _ _ _ _ (by omega), upd_no _ _ _ _ j4]
        by_cases j3 : j = 3
        · subst j3; rw [upd_at, upd_at, r3]
        · rw [upd_no _ _ _ _ (by omega), upd_no _ _ _ _ j3]; exact h j hj
    · rw [if_neg (fun q => hn q.2)]
      unfold runC
      rw [upd_no _ _ _ _ (by omega), upd_no _ _ _ _ (by omega)]; exact h j hj
  · rw [if_neg k, if_neg (fun q => k ⟨q.1, by omega, by omega⟩)]; exact h j hj
theorem runs_same (ls : List S66) (ss : List S69) (idle swE : Int) (t : Nat) (ht : t < 6) : ∀ (l : List S28) (V v : Nat → Int), (∀ j, j < 6 → V (t * 6 + j) = v j) → ∀ j, j < 6 → l.foldl (runI ls ss idle swE) V (t * 6 + j) = l.foldl (runO ls ss idle swE (t : Int)) v j
  | [], _, _, h => h
  | i :: l, V, v, h => runs_same ls ss idle swE t ht l _ _ (run_same ls ss idle swE t ht V v h i)
/-- The rows are the same. -/
theorem rows_same (ls : List S66) (ss : List S69) (idle swE : Int) (l : List S28) (es : List S63) (hes : es.length ≤ 4096) (t : Nat) (ht : t < 6) (j : Nat) (hj : j < 6) : tasksV ls ss idle swE l es (t * 6 + j) = ofV ls ss idle swE l es (t : Int) j := by
  have h0 : Tied t 0 zeroB zeroS := ⟨fun _ _ => rfl, Int.le_refl _, Int.le_refl _, ⟨fun h => (by cases h), fun h => absurd h (by decide)⟩, fun h => (by cases h), ⟨rfl, rfl⟩⟩
  have h1 := tied_all t ht es 0 zeroB zeroS h0 (by omega)
  exact runs_same ls ss idle swE t ht l _ _ h1.rows j hj
end Go.Proofs.Ytfimgecceneagaa.PAll
