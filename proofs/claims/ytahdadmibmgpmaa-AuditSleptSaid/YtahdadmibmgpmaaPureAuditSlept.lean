/- AuditSlept, over the printed functions: at all arguments the law answers true. No condition. -/
import Derived.Test.YtahdadmibmgpmaaQAuditSlept
import Derived.Test.YtahdadmibmgpmaaAudit
import Derived.Test.YtahdadmibmgpmaaASlept
namespace Go.Proofs.Ytahdadmibmgpmaa.Pure
open Go.RowKit Go.Proofs.YtahdadmibmgpmaaW.PrintWords Go.Proofs.Ytahdadmibmgpmaa.PAll Go.Proofs.Ytahdadmibmgpmaa.Opens Go.Proofs.Ytahdadmibmgpmaa.Wp

theorem AuditSlept : QAuditSlept.Pure := by
  intro ls ss ds idle crit sw swE sems hor l _ hl
  have hl : l.length ≤ 9223372036854775000 := by omega
  refine Wp.rounds ?_
  simp only [dormouselaw22_AuditSlept.f]
  have key : ∀ b, Wp (fun k => dormouselaw22_AuditSlept.j0 k l b ls ss ds idle crit sw swE sems hor) (fun x => x = true) := by
    intro b
    refine Wp.succ ?_
    simp only [dormouselaw22_AuditSlept.j0]
    refine Wp.ite (fun _ => ans22b) (fun _ => Wp.bind ans22 (fun t ht => Wp.yes ht (Wp.bind (aslept_is ls ss ds idle crit sw swE sems hor l hl) (fun p hp => Wp.bind (rslept_is ls ss ds idle crit sw swE sems hor l hl) (fun q hq => Wp.now ?_)))))
    rw [hp, hq]; simp
  exact Wp.bind (table_tells ls ss ds idle crit sw swE sems hor) (fun t _ => Wp.ite (fun _ => Wp.bind (near22 l _ hl) (fun _ _ => key _)) (fun _ => key _))

end Go.Proofs.Ytahdadmibmgpmaa.Pure
