/- The pure statement of the law GaugeLevels, over the printed functions, with the bounds that the arguments' reading gives. -/
import Derived.Test.YtekppfjlmedhpaaPAllf13
import Derived.Test.YtekppfjlmedhpaaOAll
namespace Go.Proofs.Ytekppfjlmedhpaa.QGaugeLevels
open Go.RowKit Go.Proofs.YtekppfjlmedhpaaW.PrintWords Go.Proofs.Ytekppfjlmedhpaa.PAll Go.Proofs.Ytekppfjlmedhpaa.Opens
def Pure : Prop := ∀ (l0_0 : List (S59)) (l0_1 : List (S23)) (l0_2 : List (S66)) (a0_3 : Int) (a0_4 : Int) (a0_5 : Int) (a0_6 : Int) (a0_7 : Int) (a0_8 : Int) (a1 : Int) (a2 : Int) (a3 : Int) (a4 : Int) (a5 : Int), ((l0_0.length ≤ maxLen ∧ l0_0.length * 16 ≤ 140737488351232 ∧ ∀ y ∈ l0_0, G59 y) ∧ (l0_1.length ≤ maxLen ∧ l0_1.length * 48 ≤ 140737488351232 ∧ ∀ y ∈ l0_1, G23 y) ∧ (l0_2.length ≤ maxLen ∧ l0_2.length * 56 ≤ 140737488351232 ∧ ∀ y ∈ l0_2, G66 y) ∧ ((Lit.int .i64 a0_3).wf = true) ∧ ((Lit.int .i64 a0_4).wf = true) ∧ ((Lit.int .i64 a0_5).wf = true) ∧ ((Lit.int .i64 a0_6).wf = true) ∧ ((Lit.int .i64 a0_7).wf = true) ∧ ((Lit.int .i64 a0_8).wf = true)) → ((Lit.int .u16 a1).wf = true) → ((Lit.int .u16 a2).wf = true) → ((Lit.int .u16 a3).wf = true) → ((Lit.int .u16 a4).wf = true) → ((Lit.int .u16 a5).wf = true) → ∃ k, dormouselaw21_GaugeLevels.f k l0_0 l0_1 l0_2 a0_3 a0_4 a0_5 a0_6 a0_7 a0_8 a1 a2 a3 a4 a5 = some true
end Go.Proofs.Ytekppfjlmedhpaa.QGaugeLevels
