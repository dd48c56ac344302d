/- The pure statement of the law AuditSlept, over the printed functions, with the bounds that the arguments' reading gives. -/
import Derived.Test.YtahdadmibmgpmaaPAllf7
import Derived.Test.YtahdadmibmgpmaaOAll
namespace Go.Proofs.Ytahdadmibmgpmaa.QAuditSlept
open Go.RowKit Go.Proofs.YtahdadmibmgpmaaW.PrintWords Go.Proofs.Ytahdadmibmgpmaa.PAll Go.Proofs.Ytahdadmibmgpmaa.Opens
def Pure : Prop := ∀ (l0_0 : List (S45)) (l0_1 : List (S48)) (l0_2 : List (S51)) (a0_3 : Int) (a0_4 : Int) (a0_5 : Int) (a0_6 : Int) (a0_7 : Int) (a0_8 : Int) (l1 : List (S33)), ((l0_0.length ≤ maxLen ∧ l0_0.length * 16 ≤ 140737488351232 ∧ ∀ y ∈ l0_0, G45 y) ∧ (l0_1.length ≤ maxLen ∧ l0_1.length * 48 ≤ 140737488351232 ∧ ∀ y ∈ l0_1, G48 y) ∧ (l0_2.length ≤ maxLen ∧ l0_2.length * 56 ≤ 140737488351232 ∧ ∀ y ∈ l0_2, G51 y) ∧ ((Lit.int .i64 a0_3).wf = true) ∧ ((Lit.int .i64 a0_4).wf = true) ∧ ((Lit.int .i64 a0_5).wf = true) ∧ ((Lit.int .i64 a0_6).wf = true) ∧ ((Lit.int .i64 a0_7).wf = true) ∧ ((Lit.int .i64 a0_8).wf = true)) → (l1.length ≤ maxLen ∧ l1.length * 48 ≤ 140737488351232 ∧ ∀ y ∈ l1, G33 y) → ∃ k, dormouselaw22_AuditSlept.f k l0_0 l0_1 l0_2 a0_3 a0_4 a0_5 a0_6 a0_7 a0_8 l1 = some true
end Go.Proofs.Ytahdadmibmgpmaa.QAuditSlept
