/- What the printed functions of chapter 5 (meter) answer: what an interval costs. -/
import Derived.Test.YtfimgecceneagaaWp
import Derived.Test.YtfimgecceneagaaPAllf14
import Derived.Test.YtfimgecceneagaaPAllf15
namespace Go.Proofs.Ytfimgecceneagaa.Wp
open Go.RowKit Go.Proofs.YtfimgecceneagaaW.PrintWords Go.Proofs.Ytfimgecceneagaa.PAll

theorem wrap_zero : wrap64 0 = 0 := wrap_id (by omega) (by omega)

/-- What an interval costs. -/
def ofW (ls : List S66) (ss : List S69) (idle swE kind len arg cyc : Int) : Int :=
  if kind = 1 then (if 0 ≤ arg ∧ arg < (ls.length : Int) then wrap64 (cyc * (rd_T66 ls arg).f1) else 0)
  else if kind = 2 then wrap64 (len * idle)
  else if kind = 3 then swE
  else if kind = 4 then (if 0 ≤ arg ∧ arg < (ss.length : Int) then (rd_T69 ss arg).f3 else 0)
  else if kind = 5 then (if 0 ≤ arg ∧ arg < (ss.length : Int) then wrap64 (len * (rd_T69 ss arg).f0) else 0)
  else if kind = 6 then (if 0 ≤ arg ∧ arg < (ss.length : Int) then (rd_T69 ss arg).f4 else 0)
  else 0
theorem level_is (ls : List S66) (ss : List S69) (ds : List S72) (idle crit sw swE sems hor n : Int) : meter_level.f ls ss ds idle crit sw swE sems hor n = some (if 0 ≤ n ∧ n < (ls.length : Int) then ((rd_T66 ls n).f0, (rd_T66 ls n).f1) else (0, 0)) := by
  unfold meter_level.f
  by_cases h : n < 0
  · rw [if_pos h, if_neg (by omega)]
  rw [if_neg h]
  by_cases h1 : n ≥ (ls.length : Int)
  · rw [if_pos h1, if_neg (by omega)]
  · rw [if_neg h1, if_pos (by omega), if_pos (by omega), if_pos ⟨by omega, by omega⟩]
theorem sleep_is (ls : List S66) (ss : List S69) (ds : List S72) (idle crit sw swE sems hor n : Int) : meter_sleep.f ls ss ds idle crit sw swE sems hor n = some (if 0 ≤ n ∧ n < (ss.length : Int) then ((rd_T69 ss n).f0, (rd_T69 ss n).f1, (rd_T69 ss n).f2, (rd_T69 ss n).f3, (rd_T69 ss n).f4, (rd_T69 ss n).f5) else (0, 0, 0, 0, 0, 0)) := by
  unfold meter_sleep.f
  by_cases h : n < 0
  · rw [if_pos h, if_neg (by omega)]
  rw [if_neg h]
  by_cases h1 : n ≥ (ss.length : Int)
  · rw [if_pos h1, if_neg (by omega)]
  · rw [if_neg h1, if_pos (by omega), if_pos (by omega), if_pos ⟨by omega, by omega⟩]
theorem of_is (ls : List S66) (ss : List S69) (ds : List S72) (idle crit sw swE sems hor kind from_ len arg task cyc : Int) : meter_Of.f ls ss ds idle crit sw swE sems hor kind from_ len arg task cyc = some (ofW ls ss idle swE kind len arg cyc) := by
  unfold meter_Of.f ofW
  rw [level_is, sleep_is]
  simp only [Option.bind_some]
  by_cases h1 : kind = 1
  · rw [if_pos h1, if_pos h1]
    by_cases g : 0 ≤ arg ∧ arg < (ls.length : Int)
    · rw [if_pos g, if_pos g]
    · rw [if_neg g, if_neg g, Int.mul_zero, wrap_zero]
  rw [if_neg h1, if_neg h1]
  by_cases h2 : kind = 2
  · rw [if_pos h2, if_pos h2]
  rw [if_neg h2, if_neg h2]
  by_cases h3 : kind = 3
  · rw [if_pos h3, if_pos h3]
  rw [if_neg h3, if_neg h3]
  by_cases g : 0 ≤ arg ∧ arg < (ss.length : Int)
  · simp only [if_pos g]
    repeat' split
    all_goals rfl
  · simp only [if_neg g, Int.mul_zero, wrap_zero]
    repeat' split
    all_goals rfl
theorem energy_is (ls : List S66) (ss : List S69) (ds : List S72) (idle crit sw swE sems hor kind from_ len arg task cyc : Int) : Wp (fun k => dormouseref01_Energy.f k ls ss ds idle crit sw swE sems hor kind from_ len arg task cyc) (fun r => r = ofW ls ss idle swE kind len arg cyc) := by
  simp only [dormouseref01_Energy.f]
  have key : ∀ b, b = decide (0 ≤ arg ∧ arg < (ss.length : Int)) → Wp (fun k => dormouseref01_Energy.j0 k b ls ss ds idle crit sw swE sems hor kind from_ len arg task cyc) (fun r => r = ofW ls ss idle swE kind len arg cyc) := by
    intro b hb
    refine Wp.succ ?_
    simp only [dormouseref01_Energy.j0]
    unfold ofW
    refine Wp.ite (fun h1 => ?_) (fun h1 => ?_)
    · refine Wp.ite (fun g => Wp.ite (fun g1 => Wp.yes (by omega) (Wp.now ?_)) (fun g1 => Wp.now ?_)) (fun g => Wp.now ?_)
      · rw [if_pos h1, if_pos ⟨g, g1⟩]
      · rw [if_pos h1, if_neg (by omega)]
      · rw [if_pos h1, if_neg (by omega)]
    refine Wp.ite (fun h2 => Wp.now ?_) (fun h2 => ?_)
    · rw [if_neg h1, if_pos h2]
    refine Wp.ite (fun h3 => Wp.now ?_) (fun h3 => ?_)
    · rw [if_neg h1, if_neg h2, if_pos h3]
    simp only [if_neg h1, if_neg h2, if_neg h3]
    by_cases g : 0 ≤ arg ∧ arg < (ss.length : Int)
    · rw [decide_eq_true g] at hb
      subst hb
      refine Wp.ite (fun h4 => Wp.yes rfl (Wp.inside g.1 g.2 (Wp.now ?_))) (fun h4 => Wp.ite (fun h5 => Wp.yes rfl (Wp.inside g.1 g.2 (Wp.now ?_))) (fun h5 => Wp.ite (fun h6 => Wp.yes rfl (Wp.inside g.1 g.2 (Wp.now ?_))) (fun h6 => Wp.now ?_)))
      · rw [if_pos h4, if_pos g]
      · rw [if_neg h4, if_pos h5, if_pos g]
      · rw [if_neg h4, if_neg h5, if_pos h6, if_pos g]
      · rw [if_neg h4, if_neg h5, if_neg h6]
    · rw [decide_eq_false g] at hb
      subst hb
      refine Wp.ite (fun h4 => Wp.no (by simp) (Wp.now ?_)) (fun h4 => Wp.ite (fun h5 => Wp.no (by simp) (Wp.now ?_)) (fun h5 => Wp.ite (fun h6 => Wp.no (by simp) (Wp.now ?_)) (fun h6 => Wp.now ?_)))
      · rw [if_pos h4, if_neg g]
      · rw [if_neg h4, if_pos h5, if_neg g]
      · rw [if_neg h4, if_neg h5, if_pos h6, if_neg g]
      · rw [if_neg h4, if_neg h5, if_neg h6]
  refine Wp.ite (fun h => key _ ?_) (fun h => key _ ?_)
  · by_cases g : arg < (ss.length : Int)
    · rw [decide_eq_true g, decide_eq_true ⟨by omega, g⟩]
    · rw [decide_eq_false g, decide_eq_false (fun h => g h.2)]
  · rw [decide_eq_false (fun g => h g.1)]
end Go.Proofs.Ytfimgecceneagaa.Wp
