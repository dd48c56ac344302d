/- The pure statement of the law PickHeld, over the printed functions, with the bounds that the arguments' reading gives. -/
import Derived.Test.YtekppfjlmedhpaaPAllx12
import Derived.Test.YtekppfjlmedhpaaOAll
namespace Go.Proofs.Ytekppfjlmedhpaa.QPickHeld
open Go.RowKit Go.Proofs.YtekppfjlmedhpaaW.PrintWords Go.Proofs.Ytekppfjlmedhpaa.PAll Go.Proofs.Ytekppfjlmedhpaa.Opens
def Pure : Prop := ∀ (l0 : List (S47)) (l1 : List (S45)) (l2 : List Int) (a3 : Int), (l0.length ≤ maxLen ∧ l0.length * 64 ≤ 140737488351232 ∧ ∀ y ∈ l0, G47 y) → (l1.length ≤ maxLen ∧ l1.length * 48 ≤ 140737488351232 ∧ ∀ y ∈ l1, G45 y) → (l2.length ≤ maxLen ∧ l2.length * 8 ≤ 140737488351232 ∧ ∀ y ∈ l2, (Lit.int .i64 y).wf = true) → ((Lit.int .i64 a3).wf = true) → ∃ k, dormouselaw14_PickHeld.f k l0 l1 l2 a3 = some true
end Go.Proofs.Ytekppfjlmedhpaa.QPickHeld
