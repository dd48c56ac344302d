/- The pure statement of the law AuditKept, over the printed functions, with the bounds that the arguments' reading gives. -/
import Derived.Test.YtahdadmibmgpmaaPAllf6
import Derived.Test.YtahdadmibmgpmaaOAll
namespace Go.Proofs.Ytahdadmibmgpmaa.QAuditKept
open Go.RowKit Go.Proofs.YtahdadmibmgpmaaW.PrintWords Go.Proofs.Ytahdadmibmgpmaa.PAll Go.Proofs.Ytahdadmibmgpmaa.Opens
def Pure : Prop := ∀ (l0 : List (S53)), (l0.length ≤ maxLen ∧ l0.length * 32 ≤ 140737488351232 ∧ ∀ y ∈ l0, G53 y) → ∃ k, dormouselaw22_AuditKept.f k l0 = some true
end Go.Proofs.Ytahdadmibmgpmaa.QAuditKept
