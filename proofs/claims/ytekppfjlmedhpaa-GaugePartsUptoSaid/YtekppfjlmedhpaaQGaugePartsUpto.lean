/- The pure statement of the law GaugePartsUpto, over the printed functions, with the bounds that the arguments' reading gives. -/
import Derived.Test.YtekppfjlmedhpaaPAllf14
import Derived.Test.YtekppfjlmedhpaaOAll
namespace Go.Proofs.Ytekppfjlmedhpaa.QGaugePartsUpto
open Go.RowKit Go.Proofs.YtekppfjlmedhpaaW.PrintWords Go.Proofs.Ytekppfjlmedhpaa.PAll Go.Proofs.Ytekppfjlmedhpaa.Opens
def Pure : Prop := ∀ (l0 : List (S54)) (l1 : List (S54)), (l0.length ≤ maxLen ∧ l0.length * 48 ≤ 140737488351232 ∧ ∀ y ∈ l0, G54 y) → (l1.length ≤ maxLen ∧ l1.length * 48 ≤ 140737488351232 ∧ ∀ y ∈ l1, G54 y) → (l0.length + l1.length ≤ 1048576) → ∃ k, dormouselaw21_GaugeParts.f k l0 l1 = some true
end Go.Proofs.Ytekppfjlmedhpaa.QGaugePartsUpto
