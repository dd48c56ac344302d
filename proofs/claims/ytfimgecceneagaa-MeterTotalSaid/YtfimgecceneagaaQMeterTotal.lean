/- The pure statement of the law MeterTotal, over the printed functions, with the bounds that the arguments' reading gives. -/
import Derived.Test.YtfimgecceneagaaPAllf6
import Derived.Test.YtfimgecceneagaaOAll
namespace Go.Proofs.Ytfimgecceneagaa.QMeterTotal
open Go.RowKit Go.Proofs.YtfimgecceneagaaW.PrintWords Go.Proofs.Ytfimgecceneagaa.PAll Go.Proofs.Ytfimgecceneagaa.Opens
def Pure : Prop := ∀ (a0 : Int) (a1 : Int) (a2 : Int) (a3 : Int), ((Lit.int .u32 a0).wf = true) → ((Lit.int .u32 a1).wf = true) → ((Lit.int .u32 a2).wf = true) → ((Lit.int .u32 a3).wf = true) → dormouselaw05_MeterTotal.f a0 a1 a2 a3 = some true
end Go.Proofs.Ytfimgecceneagaa.QMeterTotal
