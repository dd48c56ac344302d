/- StatsTasks, over the walk's functions: Table and near answer. No condition. -/
import Derived.Test.YtfimgecceneagaaQStatsTasks
import Derived.Test.YtfimgecceneagaaStPure
import Derived.Test.YtfimgecceneagaaTab
namespace Go.Proofs.Ytfimgecceneagaa.Pure
open Go.RowKit Go.Proofs.YtfimgecceneagaaW.PrintWords Go.Proofs.Ytfimgecceneagaa.PAll Go.Proofs.Ytfimgecceneagaa.Opens Go.Proofs.Ytfimgecceneagaa.Wp

theorem StatsTasks : QStatsTasks.Pure := by
  intro ls ss ds idle crit sw swE sems hor l es _ gl ge
  refine Wp.rounds ?_
  simp only [dormouselaw26_StatsTasks.f]
  refine Wp.bind (table_tells ls ss ds idle crit sw swE sems hor) (fun t _ => Wp.bind (near26 l es (by have := gl.2.1; omega) (by have := ge.2.1; omega)) (fun b hb => Wp.ite (fun g => Wp.yes (hb g).1 (Wp.yes (hb g).2 (Wp.now rfl))) (fun _ => Wp.now rfl)))
end Go.Proofs.Ytfimgecceneagaa.Pure
