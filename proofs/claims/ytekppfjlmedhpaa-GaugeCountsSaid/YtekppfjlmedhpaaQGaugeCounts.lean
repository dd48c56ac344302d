/- The pure statement of the law GaugeCounts, over the printed functions, with the bounds that the arguments' reading gives. -/
import Derived.Test.YtekppfjlmedhpaaPAllf12
import Derived.Test.YtekppfjlmedhpaaOAll
namespace Go.Proofs.Ytekppfjlmedhpaa.QGaugeCounts
open Go.RowKit Go.Proofs.YtekppfjlmedhpaaW.PrintWords Go.Proofs.Ytekppfjlmedhpaa.PAll Go.Proofs.Ytekppfjlmedhpaa.Opens
def Pure : Prop := ∀ (l0 : List (S54)), (l0.length ≤ maxLen ∧ l0.length * 48 ≤ 140737488351232 ∧ ∀ y ∈ l0, G54 y) → ∃ k, dormouselaw21_GaugeCounts.f k l0 = some true
end Go.Proofs.Ytekppfjlmedhpaa.QGaugeCounts
