/- DevStates, over the printed functions: at every device, Dev and moment the law answers true. No condition. -/
import Derived.Test.YtmalhnmiaccgpaaQDevStates
import Derived.Test.YtmalhnmiaccgpaaDev
namespace Go.Proofs.Ytmalhnmiaccgpaa.Pure
open Go.RowKit Go.Proofs.YtmalhnmiaccgpaaW.PrintWords Go.Proofs.YtmalhnmiaccgpaaW.PrintMore Go.Proofs.Ytmalhnmiaccgpaa.PAll Go.Proofs.Ytmalhnmiaccgpaa.Opens Go.Proofs.Ytmalhnmiaccgpaa.Wp

theorem DevStates : QDevStates.Pure := by
  intro on off down up downE upE even fr un now _ hx _
  have hu := (wf_i64 hx.2).1
  refine Wp.rounds ?_
  have key : ∀ b, (b = false → RightOk on off down up downE upE even fr un) → Wp (fun k => dormouselaw07_DevStates.j0 k now b on off down up downE upE even fr un) (fun x => x = true) := by
    intro b hb
    refine Wp.succ ?_
    simp only [dormouselaw07_DevStates.j0]
    refine Wp.ite (fun _ => ans07b) (fun h => Wp.bind (ans07 (Q := fun b => b = true) rfl) (fun t ht => Wp.yes ht (Wp.bindIs (from_is fr un) ?_)))
    obtain ⟨⟨d0, d1, u0, u1, _⟩, f0, f1, n0, n1, _⟩ := hb (by simpa using h)
    refine Wp.bind (state_is (now := now) d0 d1 u0 u1 f0 (by omega) n0 (by omega)) (fun p hp => Wp.bind (stateR_is (now := now) d0 d1 u0 u1 f0 (by omega) n0 (by omega)) (fun q hq => Wp.now ?_))
    subst hp; subst hq
    simp
  simp only [dormouselaw07_DevStates.f]
  obtain ⟨b, hb, h⟩ := right_tells on off down up downE upE even fr un hu
  obtain ⟨b1, hb1, _⟩ := moment_tells now
  exact Wp.bindIs hb (Wp.ite (fun g => Wp.bindIs hb1 (key _ (fun _ => h g))) (fun _ => key _ (fun h => by cases h)))
end Go.Proofs.Ytmalhnmiaccgpaa.Pure
