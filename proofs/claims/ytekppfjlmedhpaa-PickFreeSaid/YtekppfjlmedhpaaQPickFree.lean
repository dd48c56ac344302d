/- The pure statement of the law PickFree, over the printed functions, with the bounds that the arguments' reading gives. -/
import Derived.Test.YtekppfjlmedhpaaPAllx11
import Derived.Test.YtekppfjlmedhpaaOAll
namespace Go.Proofs.Ytekppfjlmedhpaa.QPickFree
open Go.RowKit Go.Proofs.YtekppfjlmedhpaaW.PrintWords Go.Proofs.Ytekppfjlmedhpaa.PAll Go.Proofs.Ytekppfjlmedhpaa.Opens
def Pure : Prop := ∀ (l0 : List (S47)) (l1 : List (S45)) (l2 : List Int), (l0.length ≤ maxLen ∧ l0.length * 64 ≤ 140737488351232 ∧ ∀ y ∈ l0, G47 y) → (l1.length ≤ maxLen ∧ l1.length * 48 ≤ 140737488351232 ∧ ∀ y ∈ l1, G45 y) → (l2.length ≤ maxLen ∧ l2.length * 8 ≤ 140737488351232 ∧ ∀ y ∈ l2, (Lit.int .i64 y).wf = true) → ∃ k, dormouselaw14_PickFree.f k l0 l1 l2 = some true
end Go.Proofs.Ytekppfjlmedhpaa.QPickFree
