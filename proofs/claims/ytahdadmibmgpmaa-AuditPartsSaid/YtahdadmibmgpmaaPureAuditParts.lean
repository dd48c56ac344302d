/- AuditParts, over the printed functions: at all arguments the law answers true. No condition. -/
import Derived.Test.YtahdadmibmgpmaaQAuditParts
import Derived.Test.YtahdadmibmgpmaaAudit
import Derived.Test.YtahdadmibmgpmaaARParts
namespace Go.Proofs.Ytahdadmibmgpmaa.Pure
open Go.RowKit Go.Proofs.YtahdadmibmgpmaaW.PrintWords Go.Proofs.Ytahdadmibmgpmaa.PAll Go.Proofs.Ytahdadmibmgpmaa.Opens Go.Proofs.Ytahdadmibmgpmaa.Wp

theorem AuditParts : QAuditParts.Pure := by
  intro ls ss ds idle crit sw swE sems hor l en _ hl _
  have hl : l.length ≤ 9223372036854775000 := by omega
  refine Wp.rounds ?_
  simp only [dormouselaw22_AuditParts.f]
  have key : ∀ b, Wp (fun k => dormouselaw22_AuditParts.j0 k l en b ls ss ds idle crit sw swE sems hor) (fun x => x = true) := by
    intro b
    refine Wp.succ ?_
    simp only [dormouselaw22_AuditParts.j0]
    refine Wp.ite (fun _ => ans22b) (fun _ => Wp.bind ans22 (fun t ht => Wp.yes ht (Wp.bind (aparts_is ls ss ds idle crit sw swE sems hor l en hl) (fun p hp => Wp.bind (rparts_is ls ss ds idle crit sw swE sems hor l en hl) (fun q hq => Wp.now ?_)))))
    rw [hp, hq]; simp
  exact Wp.bind (table_tells ls ss ds idle crit sw swE sems hor) (fun t _ => Wp.ite (fun _ => Wp.bind (near22 l _ hl) (fun _ _ => key _)) (fun _ => key _))

end Go.Proofs.Ytahdadmibmgpmaa.Pure
