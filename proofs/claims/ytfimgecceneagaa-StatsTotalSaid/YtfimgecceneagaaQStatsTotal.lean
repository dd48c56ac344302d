/- The pure statement of the law StatsTotal, over the printed functions, with the bounds that the arguments' reading gives. -/
import Derived.Test.YtfimgecceneagaaPAllf8
import Derived.Test.YtfimgecceneagaaO53
namespace Go.Proofs.Ytfimgecceneagaa.QStatsTotal
open Go.RowKit Go.Proofs.YtfimgecceneagaaW.PrintWords Go.Proofs.Ytfimgecceneagaa.PAll Go.Proofs.Ytfimgecceneagaa.Opens
def Pure : Prop := ∀ (l0 : List (S53)), (l0.length ≤ maxLen ∧ l0.length * 48 ≤ 140737488351232 ∧ ∀ y ∈ l0, G53 y) → ∃ k, dormouselaw26_StatsTotal.f k l0 = some true
end Go.Proofs.Ytfimgecceneagaa.QStatsTotal
