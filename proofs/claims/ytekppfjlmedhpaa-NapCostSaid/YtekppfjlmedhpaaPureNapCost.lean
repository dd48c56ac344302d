/- NapCost, over the printed functions: at every sleep state and every stay the law answers true. No condition. -/
import Derived.Test.YtekppfjlmedhpaaQNapCost
import Derived.Test.YtekppfjlmedhpaaNap
namespace Go.Proofs.Ytekppfjlmedhpaa.Pure
open Go.RowKit Go.Proofs.YtekppfjlmedhpaaW.PrintWords Go.Proofs.Ytekppfjlmedhpaa.PAll Go.Proofs.Ytekppfjlmedhpaa.Opens Go.Proofs.Ytekppfjlmedhpaa.Wp

theorem NapCost : QNapCost.Pure := by
  intro a0 a1 a2 a3 a4 a5 idle stay _ _ _
  refine Wp.rounds ?_
  have key : ∀ b, Wp (fun k => dormouselaw08_NapCost.j0 k stay b a0 a1 a2 a3 a4 a5) (fun x => x = true) := by
    intro b
    refine Wp.succ ?_
    simp only [dormouselaw08_NapCost.j0]
    refine Wp.ite (fun _ => ans08b) (fun _ => Wp.bind (ans08 (Q := fun b => b = true) rfl) (fun t ht => ?_))
    refine Wp.yes ht ?_
    simp only [cost_eq]
    refine Wp.bindIs rfl (Wp.bindIs rfl (Wp.now ?_))
    simp
  simp only [dormouselaw08_NapCost.f]
  obtain ⟨b, hb, _⟩ := sleep_tells a0 a1 a2 a3 a4 a5 idle
  refine Wp.bindIs hb (Wp.ite (fun _ => Wp.ite (fun _ => key _) (fun _ => key _)) (fun _ => key _))

end Go.Proofs.Ytekppfjlmedhpaa.Pure
