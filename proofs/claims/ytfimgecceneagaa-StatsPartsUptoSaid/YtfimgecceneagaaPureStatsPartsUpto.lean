/- StatsParts, over the walk's functions: Table and near answer. The arguments together hold at most 1048576 values. -/
import Derived.Test.YtfimgecceneagaaQStatsPartsUpto
import Derived.Test.YtfimgecceneagaaStPure
import Derived.Test.YtfimgecceneagaaTab
namespace Go.Proofs.Ytfimgecceneagaa.Pure
open Go.RowKit Go.Proofs.YtfimgecceneagaaW.PrintWords Go.Proofs.Ytfimgecceneagaa.PAll Go.Proofs.Ytfimgecceneagaa.Opens Go.Proofs.Ytfimgecceneagaa.Wp

theorem StatsPartsUpto : QStatsPartsUpto.Pure := by
  intro ls ss ds idle crit sw swE sems hor l es x0 x1 x2 x3 i0 i1 i2 i3 i4 i5 _ _ _ _ _ hlen
  refine Wp.rounds ?_
  simp only [dormouselaw26_StatsParts.f]
  refine Wp.yes (by omega) (Wp.yes (by omega) ?_)
  refine Wp.bind (table_tells ls ss ds idle crit sw swE sems hor) (fun t _ => Wp.bind (near26 _ _ (by rw [List.length_append, List.length_singleton]; omega) (by rw [List.length_append, List.length_singleton]; omega)) (fun b hb => Wp.ite (fun g => Wp.yes ?_ (Wp.yes ?_ (Wp.now rfl))) (fun _ => Wp.now rfl)))
  · have := (hb g).1; rw [List.length_append, List.length_singleton] at this; exact this
  · have := (hb g).2; rw [List.length_append, List.length_singleton] at this; exact this
end Go.Proofs.Ytfimgecceneagaa.Pure
