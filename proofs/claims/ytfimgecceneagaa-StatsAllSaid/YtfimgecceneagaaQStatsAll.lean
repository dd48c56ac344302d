/- The pure statement of the law StatsAll, over the printed functions, with the bounds that the arguments' reading gives. -/
import Derived.Test.YtfimgecceneagaaPAllf9
import Derived.Test.YtfimgecceneagaaOAll
namespace Go.Proofs.Ytfimgecceneagaa.QStatsAll
open Go.RowKit Go.Proofs.YtfimgecceneagaaW.PrintWords Go.Proofs.Ytfimgecceneagaa.PAll Go.Proofs.Ytfimgecceneagaa.Opens
def Pure : Prop := ∀ (l0_0 : List (S66)) (l0_1 : List (S69)) (l0_2 : List (S72)) (a0_3 : Int) (a0_4 : Int) (a0_5 : Int) (a0_6 : Int) (a0_7 : Int) (a0_8 : Int) (l1 : List (S28)) (l2 : List (S63)), ((l0_0.length ≤ maxLen ∧ l0_0.length * 16 ≤ 140737488351232 ∧ ∀ y ∈ l0_0, G66 y) ∧ (l0_1.length ≤ maxLen ∧ l0_1.length * 48 ≤ 140737488351232 ∧ ∀ y ∈ l0_1, G69 y) ∧ (l0_2.length ≤ maxLen ∧ l0_2.length * 56 ≤ 140737488351232 ∧ ∀ y ∈ l0_2, G72 y) ∧ ((Lit.int .i64 a0_3).wf = true) ∧ ((Lit.int .i64 a0_4).wf = true) ∧ ((Lit.int .i64 a0_5).wf = true) ∧ ((Lit.int .i64 a0_6).wf = true) ∧ ((Lit.int .i64 a0_7).wf = true) ∧ ((Lit.int .i64 a0_8).wf = true)) → (l1.length ≤ maxLen ∧ l1.length * 48 ≤ 140737488351232 ∧ ∀ y ∈ l1, G28 y) → (l2.length ≤ maxLen ∧ l2.length * 32 ≤ 140737488351232 ∧ ∀ y ∈ l2, G63 y) → ∃ k, dormouselaw26_StatsAll.f k l0_0 l0_1 l0_2 a0_3 a0_4 a0_5 a0_6 a0_7 a0_8 l1 l2 = some true
end Go.Proofs.Ytfimgecceneagaa.QStatsAll
