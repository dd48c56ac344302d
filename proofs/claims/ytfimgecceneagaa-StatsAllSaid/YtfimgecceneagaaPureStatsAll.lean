/- StatsAll, over the walk's functions: Table, near, Cycles and Sum answer. No condition. -/
import Derived.Test.YtfimgecceneagaaQStatsAll
import Derived.Test.YtfimgecceneagaaStPure
import Derived.Test.YtfimgecceneagaaTab
namespace Go.Proofs.Ytfimgecceneagaa.Pure
open Go.RowKit Go.Proofs.YtfimgecceneagaaW.PrintWords Go.Proofs.Ytfimgecceneagaa.PAll Go.Proofs.Ytfimgecceneagaa.Opens Go.Proofs.Ytfimgecceneagaa.Wp

theorem StatsAll : QStatsAll.Pure := by
  intro ls ss ds idle crit sw swE sems hor l es _ gl ge
  refine Wp.rounds ?_
  simp only [dormouselaw26_StatsAll.f]
  have hl : l.length ≤ 9223372036854775000 := by have := gl.2.1; omega
  refine Wp.bind (table_tells ls ss ds idle crit sw swE sems hor) (fun t _ => Wp.bind (near26 l es hl (by have := ge.2.1; omega)) (fun b hb => Wp.ite (fun g => Wp.yes (hb g).1 (Wp.yes (hb g).2 ?_)) (fun _ => Wp.now rfl)))
  exact Wp.bind (cycles26 l hl) (fun c hc => Wp.bind (sum26 ls ss ds idle crit sw swE sems hor l hl) (fun s hs => Wp.yes hc (Wp.yes hs (Wp.now rfl))))
end Go.Proofs.Ytfimgecceneagaa.Pure
