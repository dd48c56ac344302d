import Derived.Test.YtfimgecceneagaaQStatsTotal
namespace Go.Proofs.Ytfimgecceneagaa.Pure
open Go.RowKit Go.Proofs.YtfimgecceneagaaW.PrintWords Go.Proofs.Ytfimgecceneagaa.PAll Go.Proofs.Ytfimgecceneagaa.Opens

theorem StatsTotal : QStatsTotal.Pure := by
  exact fun _ _ => ⟨0, rfl⟩

end Go.Proofs.Ytfimgecceneagaa.Pure
