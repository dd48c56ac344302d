/- PickWho, over the printed functions: at all tasks, jobs, stacks and ceilings the law answers true. No condition. -/
import Derived.Test.YtekppfjlmedhpaaQPickWho
import Derived.Test.YtekppfjlmedhpaaPick
namespace Go.Proofs.Ytekppfjlmedhpaa.Pure
open Go.RowKit Go.Proofs.YtekppfjlmedhpaaW.PrintWords Go.Proofs.Ytekppfjlmedhpaa.PAll Go.Proofs.Ytekppfjlmedhpaa.Opens Go.Proofs.Ytekppfjlmedhpaa.Wp

theorem PickWho : QPickWho.Pure := by
  intro ts js st c _ _ hs _
  have hl : st.length ≤ 140737488351232 := by omega
  refine Wp.rounds ?_
  simp only [dormouselaw14_PickWho.f]
  refine Wp.bindIs (choose_is ts js st c hl) (Wp.bind (chooseR_is ts js st c hl) (fun r hr => Wp.bindIs ans14 (Wp.yes rfl ?_)))
  subst hr
  exact Wp.yes rfl (Wp.now (by simp))
end Go.Proofs.Ytekppfjlmedhpaa.Pure
