/- DevAways, over the printed functions: at every device, Dev and moment the law answers true. No condition. -/
import Derived.Test.YtmalhnmiaccgpaaQDevAways
import Derived.Test.YtmalhnmiaccgpaaDev
namespace Go.Proofs.Ytmalhnmiaccgpaa.Pure
open Go.RowKit Go.Proofs.YtmalhnmiaccgpaaW.PrintWords Go.Proofs.YtmalhnmiaccgpaaW.PrintMore Go.Proofs.Ytmalhnmiaccgpaa.PAll Go.Proofs.Ytmalhnmiaccgpaa.Opens Go.Proofs.Ytmalhnmiaccgpaa.Wp

theorem DevAways : QDevAways.Pure := by
  intro on off down up downE upE even fr un now until_ _ hx _ _
  have hu := (wf_i64 hx.2).1
  refine Wp.rounds ?_
  have key : ∀ b, (b = false → RightOk on off down up downE upE even fr un ∧ (0 ≤ now ∧ now ≤ 1099511627776) ∧ 0 ≤ until_ ∧ until_ ≤ 1099511627776) → Wp (fun k => dormouselaw07_DevAways.j0 k now until_ b on off down up downE upE even fr un) (fun x => x = true) := by
    intro b hb
    refine Wp.succ ?_
    simp only [dormouselaw07_DevAways.j0]
    refine Wp.ite (fun _ => ans07b) (fun h => Wp.bindIs (from_is fr un) ?_)
    obtain ⟨⟨⟨d0, d1, u0, u1, _⟩, f0, f1, n0, n1, _⟩, ⟨w0, w1⟩, t0, t1⟩ := hb (by simpa using h)
    refine Wp.bind (away_is (now := now) (until_ := until_) (even := even) d0 d1 u0 u1 f0 (by omega) n0 (by omega) w0 (by omega) t0 (by omega)) (fun p hp => Wp.bind (awayR_is (now := now) (until_ := until_) (even := even) d0 d1 u0 u1 f0 (by omega) n0 (by omega) w0 (by omega) t0 (by omega)) (fun q hq => ?_))
    subst hp; subst hq
    refine Wp.bind (ans07 (Q := fun b => b = true) rfl) (fun t ht => Wp.yes ht (Wp.yes (by simp) (Wp.bindIs (from_is _ _) (Wp.now ?_))))
    simp
  simp only [dormouselaw07_DevAways.f]
  obtain ⟨b, hb, h⟩ := right_tells on off down up downE upE even fr un hu
  obtain ⟨b1, hb1, h1⟩ := moment_tells now
  obtain ⟨b2, hb2, h2⟩ := moment_tells until_
  exact Wp.bindIs hb (Wp.ite (fun g => Wp.bindIs hb1 (Wp.ite (fun g1 => Wp.bindIs hb2 (key _ (fun g2 => ⟨h g, h1 g1, h2 (by simpa using g2)⟩))) (fun _ => key _ (fun h => by cases h)))) (fun _ => key _ (fun h => by cases h)))
end Go.Proofs.Ytmalhnmiaccgpaa.Pure
