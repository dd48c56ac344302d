/- MeterOf, over the printed functions: at every machine and interval the law answers true. No condition. -/
import Derived.Test.YtfimgecceneagaaQMeterOf
import Derived.Test.YtfimgecceneagaaMeter
import Derived.Test.YtfimgecceneagaaTab
namespace Go.Proofs.Ytfimgecceneagaa.Pure
open Go.RowKit Go.Proofs.YtfimgecceneagaaW.PrintWords Go.Proofs.Ytfimgecceneagaa.PAll Go.Proofs.Ytfimgecceneagaa.Opens Go.Proofs.Ytfimgecceneagaa.Wp

theorem small_is (a b c d e f : Int) : ∃ x, dormouselaw05_small.f a b c d e f = some x ∧ (x = true → 0 ≤ c ∧ c ≤ 1073741824 ∧ 0 ≤ f ∧ f ≤ 1073741824) := by
  unfold dormouselaw05_small.f
  by_cases h : c ≥ 0
  case neg => exact ⟨false, if_neg h, fun g => by cases g⟩
  rw [if_pos h]
  by_cases h1 : c ≤ 1073741824
  case neg => exact ⟨false, if_neg h1, fun g => by cases g⟩
  rw [if_pos h1]
  by_cases h2 : f ≥ 0
  case neg => exact ⟨false, if_neg h2, fun g => by cases g⟩
  rw [if_pos h2]
  exact ⟨_, rfl, fun g => ⟨h, h1, h2, of_decide_eq_true g⟩⟩

theorem MeterOf : QMeterOf.Pure := by
  intro ls ss ds idle crit sw swE sems hor kind from_ len arg task cyc _ _
  refine Wp.rounds ?_
  have key : ∀ b, Wp (fun k => dormouselaw05_MeterOf.j0 k b ls ss ds idle crit sw swE sems hor kind from_ len arg task cyc) (fun x => x = true) := by
    intro b
    refine Wp.succ ?_
    simp only [dormouselaw05_MeterOf.j0]
    refine Wp.ite (fun _ => ans05b) (fun _ => Wp.bindIs ans05 (Wp.yes rfl (Wp.bindIs (of_is ls ss ds idle crit sw swE sems hor kind from_ len arg task cyc) (Wp.bind (energy_is ls ss ds idle crit sw swE sems hor kind from_ len arg task cyc) (fun r hr => Wp.now ?_)))))
    subst hr
    simp
  simp only [dormouselaw05_MeterOf.f]
  obtain ⟨x, hx, _⟩ := small_is kind from_ len arg task cyc
  exact Wp.bind (table_tells ls ss ds idle crit sw swE sems hor) (fun t _ => Wp.ite (fun _ => Wp.bindIs hx (key _)) (fun _ => key _))

end Go.Proofs.Ytfimgecceneagaa.Pure
