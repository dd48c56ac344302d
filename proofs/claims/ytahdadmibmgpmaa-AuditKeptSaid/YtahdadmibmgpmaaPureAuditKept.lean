/- AuditKept, over the printed functions: at all arguments the law answers true. No condition. -/
import Derived.Test.YtahdadmibmgpmaaQAuditKept
import Derived.Test.YtahdadmibmgpmaaAudit
import Derived.Test.YtahdadmibmgpmaaAKept
namespace Go.Proofs.Ytahdadmibmgpmaa.Pure
open Go.RowKit Go.Proofs.YtahdadmibmgpmaaW.PrintWords Go.Proofs.Ytahdadmibmgpmaa.PAll Go.Proofs.Ytahdadmibmgpmaa.Opens Go.Proofs.Ytahdadmibmgpmaa.Wp

theorem AuditKept : QAuditKept.Pure := by
  intro l hl
  have hl : l.length ≤ 9223372036854775000 := by omega
  refine Wp.rounds ?_
  simp only [dormouselaw22_AuditKept.f]
  refine Wp.bind ans22 (fun t ht => Wp.yes ht (Wp.bind (akept_is l hl) (fun p hp => Wp.bind (rkept_is l hl) (fun q hq => Wp.now ?_))))
  rw [hp, hq]; simp

end Go.Proofs.Ytahdadmibmgpmaa.Pure
