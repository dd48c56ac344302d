/- The pure statement of the law DevOrder, over the printed functions, with the bounds that the arguments' reading gives. -/
import Derived.Test.YtmalhnmiaccgpaaPAllf9
import Derived.Test.YtmalhnmiaccgpaaOAll
namespace Go.Proofs.Ytmalhnmiaccgpaa.QDevOrder
open Go.RowKit Go.Proofs.YtmalhnmiaccgpaaW.PrintWords Go.Proofs.Ytmalhnmiaccgpaa.PAll Go.Proofs.Ytmalhnmiaccgpaa.Opens
def Pure : Prop := ∀ (a0_0 : Int) (a0_1 : Int) (a0_2 : Int) (a0_3 : Int) (a0_4 : Int) (a0_5 : Int) (a0_6 : Int) (a1 : Int) (a2 : Int), (((Lit.int .i64 a0_0).wf = true) ∧ ((Lit.int .i64 a0_1).wf = true) ∧ ((Lit.int .i64 a0_2).wf = true) ∧ ((Lit.int .i64 a0_3).wf = true) ∧ ((Lit.int .i64 a0_4).wf = true) ∧ ((Lit.int .i64 a0_5).wf = true) ∧ ((Lit.int .i64 a0_6).wf = true)) → ((Lit.int .u16 a1).wf = true) → ((Lit.int .u16 a2).wf = true) → ∃ k, dormouselaw07_DevOrder.f k a0_0 a0_1 a0_2 a0_3 a0_4 a0_5 a0_6 a1 a2 = some true
end Go.Proofs.Ytmalhnmiaccgpaa.QDevOrder
