/- MeterTotal, over the printed functions: at all four numbers the law answers true. No condition. -/
import Derived.Test.YtfimgecceneagaaQMeterTotal
import Derived.Test.YtfimgecceneagaaWp
namespace Go.Proofs.Ytfimgecceneagaa.Pure
open Go.RowKit Go.Proofs.YtfimgecceneagaaW.PrintWords Go.Proofs.Ytfimgecceneagaa.PAll Go.Proofs.Ytfimgecceneagaa.Opens Go.Proofs.Ytfimgecceneagaa.Wp

theorem MeterTotal : QMeterTotal.Pure := by
  intro a b c d _ _ _ _
  have e : dormouselaw05_answers.f = some true := by decide +kernel
  unfold dormouselaw05_MeterTotal.f meter_Meter_Total.f
  rw [e]
  simp

end Go.Proofs.Ytfimgecceneagaa.Pure
