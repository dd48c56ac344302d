/- All cycles and all energy of the rows, and of the list. Plain. -/
import Derived.Test.YtfimgecceneagaaBook
import Derived.Test.YtfimgecceneagaaPAllf25
import Derived.Test.YtfimgecceneagaaPAllf26
import Derived.Test.YtfimgecceneagaaPAllf27
namespace Go.Proofs.Ytfimgecceneagaa.PAll
open Go.RowKit Go.Proofs.YtfimgecceneagaaW.PrintWords Go.Proofs.YtfimgecceneagaaW.PrintLast Go.Proofs.Ytfimgecceneagaa.Arr Go.Proofs.Ytfimgecceneagaa.Wp

def cycS (a : Int) (i : S28) : Int := if i.f0 = 1 then wrap64 (a + i.f5) else a
def engS (ls : List S66) (ss : List S69) (idle swE : Int) (a : Int) (i : S28) : Int := if i.f0 = 1 then wrap64 (a + ofW ls ss idle swE i.f0 i.f2 i.f3 i.f5) else a
def cycF (l : List S28) : Int := l.foldl cycS 0
def engF (ls : List S66) (ss : List S69) (idle swE : Int) (l : List S28) : Int := l.foldl (engS ls ss idle swE) 0
/-- A field of all six rows together. -/
def six6 (V : Nat → Int) (f : Nat) : Int := wrap64 (V (0 * 6 + f) + V (1 * 6 + f) + V (2 * 6 + f) + V (3 * 6 + f) + V (4 * 6 + f) + V (5 * 6 + f))
theorem tot_six (V : Nat → Int) (f : Nat) : totF V f 6 = six6 V f := by
  simp only [totF, six6, wrap64]; omega
def okI (i : S28) : Prop := i.f0 = 1 → 0 ≤ i.f4 ∧ i.f4 < 6
theorem wrap_add (a b : Int) : wrap64 (wrap64 a + b) = wrap64 (a + b) := by unfold wrap64; omega
theorem put_six (V : Nat → Int) (f t : Nat) (ht : t < 6) (_ : f < 6) (x : Int) : six6 (upd V (t * 6 + f) (wrap64 (V (t * 6 + f) + x))) f = wrap64 (six6 V f + x) := by
  have : t = 0 ∨ t = 1 ∨ t = 2 ∨ t = 3 ∨ t = 4 ∨ t = 5 := by omega
  have n : ∀ u, u ≠ t → upd V (t * 6 + f) (wrap64 (V (t * 6 + f) + x)) (u * 6 + f) = V (u * 6 + f) := fun u hu => if_neg (by omega)
  have y : upd V (t * 6 + f) (wrap64 (V (t * 6 + f) + x)) (t * 6 + f) = wrap64 (V (t * 6 + f) + x) := if_pos rfl
  unfold six6
  rcases this with rfl | rfl | rfl | rfl | rfl | rfl
  · rw [y, n 1 (by omega), n 2 (by omega), n 3 (by omega), n 4 (by omega), n 5 (by omega)]; unfold wrap64; omega
  · rw [y, n 0 (by omega), n 2 (by omega), n 3 (by omega), n 4 (by omega), n 5 (by omega)]; unfold wrap64; omega
  · rw [y, n 0 (by omega), n 1 (by omega), n 3 (by omega), n 4 (by omega), n 5 (by omega)]; unfold wrap64; omega
  · rw [y, n 0 (by omega), n 1 (by omega), n 2 (by omega), n 4 (by omega), n 5 (by omega)]; unfold wrap64; omega
  · rw [y, n 0 (by omega), n 1 (by omega), n 2 (by omega), n 3 (by omega), n 5 (by omega)]; unfold wrap64; omega
  · rw [y, n 0 (by omega), n 1 (by omega), n 2 (by omega), n 3 (by omega), n 4 (by omega)]; unfold wrap64; omega
theorem put_far (V : Nat → Int) (f g t : Nat) (hf : f < 6) (hg : g < 6) (h : f ≠ g) (x : Int) : six6 (upd V (t * 6 + g) x) f = six6 V f := by
  have n : ∀ u, upd V (t * 6 + g) x (u * 6 + f) = V (u * 6 + f) := fun u => if_neg (by omega)
  unfold six6
  rw [n, n, n, n, n, n]
theorem run_six (ls : List S66) (ss : List S69) (idle swE : Int) (V : Nat → Int) (i : S28) (h : okI i) : six6 (runI ls ss idle swE V i) 3 = cycS (six6 V 3) i ∧ six6 (runI ls ss idle swE V i) 4 = engS ls ss idle swE (six6 V 4) i := by
  by_cases k : i.f0 = 1
  · have q := h k
    have e : runI ls ss idle swE V i = upd (runC V i) (i.f4.toNat * 6 + 4) (wrap64 (runC V i (i.f4.toNat * 6 + 4) + ofW ls ss idle swE i.f0 i.f2 i.f3 i.f5)) := by unfold runI; rw [if_pos ⟨k, q.1, q.2⟩]
    rw [e]
    unfold cycS engS
    rw [if_pos k, if_pos k]
    constructor
    · rw [put_far _ 3 4 _ (by omega) (by omega) (by omega)]
      unfold runC
      exact put_six V 3 i.f4.toNat (by omega) (by omega) _
    · rw [put_six _ 4 i.f4.toNat (by omega) (by omega)]
      unfold runC
      rw [put_far _ 4 3 _ (by omega) (by omega) (by omega)]
  · have e : runI ls ss idle swE V i = V := by unfold runI; rw [if_neg (fun q => k q.1)]
    rw [e]
    unfold cycS engS
    rw [if_neg k, if_neg k]
    exact ⟨rfl, rfl⟩
theorem runs_six (ls : List S66) (ss : List S69) (idle swE : Int) : ∀ (l : List S28) (V : Nat → Int), (∀ i ∈ l, okI i) → six6 (l.foldl (runI ls ss idle swE) V) 3 = l.foldl cycS (six6 V 3) ∧ six6 (l.foldl (runI ls ss idle swE) V) 4 = l.foldl (engS ls ss idle swE) (six6 V 4)
  | [], _, _ => ⟨rfl, rfl⟩
  | i :: l, V, h => by
    have s := run_six ls ss idle swE V i (h i (by simp))
    have r := runs_six ls ss idle swE l (runI ls ss idle swE V i) (fun x hx => h x (by simp [hx]))
    rw [s.1, s.2] at r
    exact r
theorem upd_off (v : Nat → Int) (k : Nat) (x : Int) (i : Nat) (h : i ≠ k) : upd v k x i = v i := if_neg h
theorem evt_six (V : Nat → Int) (e : S63) (f : Nat) (hf : f = 3 ∨ f = 4) : ∀ u, u < 6 → evE V e (u * 6 + f) = V (u * 6 + f) := by
  intro u hu
  unfold evE evt lng
  repeat' split
  all_goals (repeat (first | rfl | rw [upd_off _ _ _ _ (by omega)]))
theorem evs_six : ∀ (es : List S63) (V : Nat → Int) (f : Nat), (f = 3 ∨ f = 4) → (∀ u, u < 6 → V (u * 6 + f) = 0) → ∀ u, u < 6 → es.foldl evE V (u * 6 + f) = 0
  | [], _, _, _, h => h
  | e :: es, V, f, hf, h => evs_six es (evE V e) f hf (fun u hu => by rw [evt_six V e f hf u hu]; exact h u hu)
theorem all_six (ls : List S66) (ss : List S69) (idle swE : Int) (l : List S28) (es : List S63) (h : ∀ i ∈ l, okI i) : totF (tasksV ls ss idle swE l es) 3 6 = cycF l ∧ totF (tasksV ls ss idle swE l es) 4 6 = engF ls ss idle swE l := by
  have z : ∀ f, (f = 3 ∨ f = 4) → six6 (es.foldl evE zeroB) f = 0 := by
    intro f hf
    have q := evs_six es zeroB f hf (fun _ _ => rfl)
    unfold six6
    rw [q 0 (by omega), q 1 (by omega), q 2 (by omega), q 3 (by omega), q 4 (by omega), q 5 (by omega)]; unfold wrap64; omega
  have r := runs_six ls ss idle swE l (es.foldl evE zeroB) h
  rw [z 3 (by omega), z 4 (by omega)] at r
  rw [tot_six, tot_six]
  exact r
theorem all_ok (l : List S28) (h : ∀ j : Int, 0 ≤ j → j < l.length → okI (rd_T28 l j)) : ∀ i ∈ l, okI i := by
  intro i hi
  obtain ⟨n, hn, rfl⟩ := List.getElem_of_mem hi
  have := h (n : Int) (by omega) (by omega)
  unfold rd_T28 at this
  rw [Int.toNat_natCast, List.getD_eq_getElem?_getD, List.getElem?_eq_getElem hn] at this
  exact this
theorem fold_succ {α : Type} (f : α → S28 → α) (a : α) (l : List S28) (i : Int) (h0 : 0 ≤ i) (h1 : i < l.length) : (l.take (i + 1).toNat).foldl f a = f ((l.take i.toNat).foldl f a) (rd_T28 l i) := by
  have h : i.toNat < l.length := by omega
  rw [show (i + 1).toNat = i.toNat + 1 by omega]
  unfold rd_T28
  rw [List.take_add_one, List.foldl_append, List.getElem?_eq_getElem h]
  simp [List.getD_eq_getElem?_getD, List.getElem?_eq_getElem h]
theorem cycles26 (l : List S28) (hl : l.length ≤ 9223372036854775000) : Wp (fun k => dormouseref21_Cycles.f k l) (fun r => r = cycF l) := by
  simp only [dormouseref21_Cycles.f]
  have key : ∀ s : Int × Int, (0 ≤ s.2 ∧ s.2 ≤ l.length ∧ s.1 = (l.take s.2.toNat).foldl cycS 0) → Wp (fun k => dormouseref21_Cycles.l0 k l s.1 s.2) (fun r => r = cycF l) := by
    refine Wp.loop (fun k (s : Int × Int) => dormouseref21_Cycles.l0 k l s.1 s.2) _ (fun s => ((l.length : Int) - s.2).toNat) _ ?_
    rintro ⟨a, i⟩ ⟨h0, h1, ha⟩ ih
    dsimp only at h0 h1 ha ih ⊢
    simp only [dormouseref21_Cycles.l0]
    refine Wp.ite (fun hi => Wp.yes h0 (Wp.ite (fun hk => ?_) (fun hk => ?_))) (fun hi => Wp.now ?_)
    · rw [wrap_id (x := i + 1) (by omega) (by omega)]
      refine ih (wrap64 (a + (rd_T28 l i).f5), i + 1) ⟨by dsimp only; omega, by dsimp only; omega, ?_⟩ (by dsimp only; omega)
      dsimp only
      rw [fold_succ cycS 0 l i h0 hi, ← ha]; unfold cycS; rw [if_pos hk]
    · rw [wrap_id (x := i + 1) (by omega) (by omega)]
      refine ih (a, i + 1) ⟨by dsimp only; omega, by dsimp only; omega, ?_⟩ (by dsimp only; omega)
      dsimp only
      rw [fold_succ cycS 0 l i h0 hi, ← ha]; unfold cycS; rw [if_neg hk]
    · rw [ha, List.take_of_length_le (by omega)]; rfl
  exact key (0, 0) ⟨by simp, by simp, by simp⟩
theorem sum26 (ls : List S66) (ss : List S69) (ds : List S72) (idle crit sw swE sems hor : Int) (l : List S28) (hl : l.length ≤ 9223372036854775000) : Wp (fun k => dormouseref21_Sum.f k ls ss ds idle crit sw swE sems hor l) (fun r => r.1 = engF ls ss idle swE l) := by
  simp only [dormouseref21_Sum.f]
  have key : ∀ s : Int × Int × Int × Int × Int, (0 ≤ s.1 ∧ s.1 ≤ l.length ∧ s.2.1 = (l.take s.1.toNat).foldl (engS ls ss idle swE) 0) → Wp (fun k => dormouseref21_Sum.l0 k l s.1 ls ss ds idle crit sw swE sems hor s.2.1 s.2.2.1 s.2.2.2.1 s.2.2.2.2) (fun r => r.1 = engF ls ss idle swE l) := by
    refine Wp.loop (fun k (s : Int × Int × Int × Int × Int) => dormouseref21_Sum.l0 k l s.1 ls ss ds idle crit sw swE sems hor s.2.1 s.2.2.1 s.2.2.2.1 s.2.2.2.2) _ (fun s => ((l.length : Int) - s.1).toNat) _ ?_
    rintro ⟨i, m0, m1, m2, m3⟩ ⟨h0, h1, ha⟩ ih
    dsimp only at h0 h1 ha ih ⊢
    simp only [dormouseref21_Sum.l0]
    refine Wp.ite (fun hi => Wp.yes h0 ?_) (fun hi => Wp.now ?_)
    · refine Wp.bind (energy_is ls ss ds idle crit sw swE sems hor (rd_T28 l i).f0 (rd_T28 l i).f1 (rd_T28 l i).f2 (rd_T28 l i).f3 (rd_T28 l i).f4 (rd_T28 l i).f5) (fun r hr => ?_)
      rw [wrap_id (x := i + 1) (by omega) (by omega)]
      have stay : (rd_T28 l i).f0 ≠ 1 → ∀ a b c, Wp (fun k => dormouseref21_Sum.l0 k l (i + 1) ls ss ds idle crit sw swE sems hor m0 a b c) (fun r => r.1 = engF ls ss idle swE l) := by
        intro hk a b c
        refine ih (i + 1, m0, a, b, c) ⟨by dsimp only; omega, by dsimp only; omega, ?_⟩ (by dsimp only; omega)
        dsimp only
        rw [fold_succ (engS ls ss idle swE) 0 l i h0 hi, ← ha]; unfold engS; rw [if_neg hk]
      refine Wp.ite (fun hk => ?_) (fun hk => Wp.ite (fun _ => stay hk _ _ _) (fun _ => Wp.ite (fun _ => stay hk _ _ _) (fun _ => Wp.ite (fun _ => stay hk _ _ _) (fun _ => Wp.ite (fun _ => stay hk _ _ _) (fun _ => Wp.ite (fun _ => stay hk _ _ _) (fun _ => stay hk _ _ _))))))
      refine ih (i + 1, wrap64 (m0 + r), m1, m2, m3) ⟨by dsimp only; omega, by dsimp only; omega, ?_⟩ (by dsimp only; omega)
      dsimp only
      rw [fold_succ (engS ls ss idle swE) 0 l i h0 hi, ← ha, hr]; unfold engS; rw [if_pos hk]
    · dsimp only
      rw [ha, List.take_of_length_le (by omega)]; rfl
  exact key (0, 0, 0, 0, 0) ⟨by simp, by simp, by simp⟩
end Go.Proofs.Ytfimgecceneagaa.PAll
