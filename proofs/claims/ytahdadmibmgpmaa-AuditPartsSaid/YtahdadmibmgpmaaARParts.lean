/- What the document's function of chapter 22 (audit) answers: whether intervals are all that there is. -/
import Derived.Test.YtahdadmibmgpmaaAParts
import Derived.Test.YtahdadmibmgpmaaPAllf13
namespace Go.Proofs.Ytahdadmibmgpmaa.Wp
open Go.RowKit Go.Proofs.YtahdadmibmgpmaaW.PrintWords Go.Proofs.Ytahdadmibmgpmaa.PAll

theorem one_is (ls : List S45) (ss : List S48) (ds : List S51) (idle crit sw swE sems hor : Int) (x : S33) : Wp (fun k => dormouseref21_one.f k ls ss ds idle crit sw swE sems hor x.f0 x.f1 x.f2 x.f3 x.f4 x.f5) (fun r => r = (decide (0 ≤ x.f2) && longV ls ss sw x)) := by
  simp only [dormouseref21_one.f]
  have key : ∀ b, x.f0 ≠ 2 → b = (decide (x.f3 < 0) || decide (x.f2 < 0)) → Wp (fun k => dormouseref21_one.j0 k b ls ss ds idle crit sw swE sems hor x.f0 x.f1 x.f2 x.f3 x.f4 x.f5) (fun r => r = (decide (0 ≤ x.f2) && longV ls ss sw x)) := by
    intro b h2 hb
    refine Wp.succ ?_
    simp only [dormouseref21_one.j0]
    unfold longV
    refine Wp.ite (fun hbt => Wp.now ?_) (fun hbt => ?_)
    · rw [hbt] at hb
      have hb := hb.symm
      simp only [Bool.or_eq_true, decide_eq_true_eq] at hb
      by_cases g : 0 ≤ x.f2
      · have g3 : ¬ 0 ≤ x.f3 := by omega
        have e : ∀ n, inn n x.f3 = false := fun n => by unfold inn; rw [decide_eq_false g3, Bool.false_and]
        simp only [e, Bool.false_and, if_neg h2]
        simp
      · rw [decide_eq_false g, Bool.false_and]
    have hbt : b = false := by simpa using hbt
    rw [hbt] at hb
    have hb := hb.symm
    simp only [Bool.or_eq_false_iff, decide_eq_false_iff_not] at hb
    have g2 : 0 ≤ x.f2 := by omega
    have g3 : 0 ≤ x.f3 := by omega
    have e : ∀ n : Nat, inn n x.f3 = decide (x.f3 < (n : Int)) := fun n => by unfold inn; rw [decide_eq_true g3, Bool.true_and]
    simp only [e, decide_eq_true g2, Bool.true_and, if_neg h2]
    refine Wp.ite (fun h1 => ?_) (fun h1 => ?_)
    · simp only [if_pos h1]
      refine Wp.ite (fun g => Wp.yes g3 (Wp.now ?_)) (fun g => Wp.now ?_)
      · rw [decide_eq_true g, Bool.true_and]
      · rw [decide_eq_false g, Bool.false_and]
    simp only [if_neg h1]
    refine Wp.ite (fun h3 => ?_) (fun h3 => ?_)
    · simp only [if_pos h3]
      refine Wp.ite (fun g => Wp.now ?_) (fun g => Wp.now ?_)
      · rw [decide_eq_true g, Bool.true_and]
      · rw [decide_eq_false g, Bool.false_and]
    simp only [if_neg h3]
    refine Wp.ite (fun g => Wp.now ?_) (fun g => ?_)
    · have g : ¬ x.f3 < (ss.length : Int) := by omega
      simp only [decide_eq_false g, Bool.false_and]
      simp
    have g : x.f3 < (ss.length : Int) := by omega
    simp only [decide_eq_true g, Bool.true_and]
    refine Wp.ite (fun h5 => Wp.now ?_) (fun h5 => ?_)
    · rw [if_neg (by omega), if_pos h5]
    refine Wp.ite (fun h4 => Wp.inside g3 g (Wp.ite (fun q => Wp.now ?_) (fun q => Wp.no (by omega) (Wp.now ?_)))) (fun h4 => ?_)
    · rw [if_pos h4, q, beq_self_eq_true]
    · rw [if_pos h4]; simpa using q
    refine Wp.ite (fun h6 => Wp.inside g3 g (Wp.now ?_)) (fun h6 => Wp.now ?_)
    · rw [if_neg h4, if_neg h5, if_pos h6]
    · rw [if_neg h4, if_neg h5, if_neg h6]
  refine Wp.ite (fun h2 => Wp.now ?_) (fun h2 => Wp.ite (fun h => key _ h2 ?_) (fun h => key _ h2 ?_))
  · unfold longV; rw [if_neg (by omega), if_pos h2, Bool.and_true]
  · rw [decide_eq_true h, Bool.true_or]
  · rw [decide_eq_false h, Bool.false_or]

theorem rparts_is (ls : List S45) (ss : List S48) (ds : List S51) (idle crit sw swE sems hor : Int) (l : List S33) (en : Int) (hl : l.length ≤ 9223372036854775000) : Wp (fun k => dormouseref21_Parts.f k ls ss ds idle crit sw swE sems hor l en) (fun r => r = partsV ls ss sw l 0 en) := by
  simp only [dormouseref21_Parts.f]
  have key : ∀ s : Int × Int, (0 ≤ s.2 ∧ s.2 ≤ l.length ∧ partsV ls ss sw (l.drop s.2.toNat) s.1 en = partsV ls ss sw l 0 en) → Wp (fun k => dormouseref21_Parts.l0 k l en s.1 s.2 ls ss ds idle crit sw swE sems hor) (fun r => r = partsV ls ss sw l 0 en) := by
    refine Wp.loop (fun k (s : Int × Int) => dormouseref21_Parts.l0 k l en s.1 s.2 ls ss ds idle crit sw swE sems hor) _ (fun s => (l.length - s.2).toNat) _ ?_
    rintro ⟨a, i⟩ ⟨i0, i1, hs⟩ ih
    simp only at i0 i1 hs ih ⊢
    simp only [dormouseref21_Parts.l0]
    refine Wp.ite (fun hi => Wp.yes i0 ?_) (fun hi => Wp.now ?_)
    · have hw : wrap64 (i + 1) = i + 1 := wrap_id (by omega) (by omega)
      rw [drop_rd l i i0 hi, partsV] at hs
      refine Wp.ite (fun g1 => Wp.bind (one_is ls ss ds idle crit sw swE sems hor (rd_T33 l i)) (fun t ht => Wp.ite (fun g3 => ?_) (fun g3 => Wp.now ?_))) (fun g1 => Wp.now ?_)
      · rw [decide_eq_true g1, Bool.true_and, ← ht, g3, Bool.true_and] at hs
        rw [hw]
        exact ih (wrap64 (a + (rd_T33 l i).f2), i + 1) ⟨by simp only; omega, by simp only; omega, hs⟩ (by simp only; omega)
      · simp only [Bool.not_eq_true] at g3
        rw [decide_eq_true g1, Bool.true_and, ← ht, g3, Bool.false_and] at hs
        exact hs
      · rw [decide_eq_false g1, Bool.false_and, Bool.false_and, Bool.false_and] at hs
        exact hs
    · rw [drop_end l i hi, partsV] at hs
      exact hs
  exact key (0, 0) ⟨by simp, by simp, by simp⟩

end Go.Proofs.Ytahdadmibmgpmaa.Wp
