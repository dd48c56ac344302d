/- NapBest, over the printed functions: at every machine and every stay the law answers true. No condition. -/
import Derived.Test.YtekppfjlmedhpaaQNapBest
import Derived.Test.YtekppfjlmedhpaaNap
namespace Go.Proofs.Ytekppfjlmedhpaa.Pure
open Go.RowKit Go.Proofs.YtekppfjlmedhpaaW.PrintWords Go.Proofs.Ytekppfjlmedhpaa.PAll Go.Proofs.Ytekppfjlmedhpaa.Opens Go.Proofs.Ytekppfjlmedhpaa.Wp

theorem NapBest : QNapBest.Pure := by
  intro ls ss ds idle crit sw swE sems hor stay _ _
  refine Wp.rounds ?_
  have key : ∀ b, (b = false → TableOk ls ss ds idle crit sw swE sems hor ∧ 0 ≤ stay ∧ stay ≤ 1073741824) → Wp (fun k => dormouselaw08_NapBest.j0 k stay b ls ss ds idle crit sw swE sems hor) (fun x => x = true) := by
    intro b hb
    refine Wp.succ ?_
    simp only [dormouselaw08_NapBest.j0]
    refine Wp.ite (fun _ => ans08b) (fun h => ?_)
    obtain ⟨ht, h0, h1⟩ := hb (by simpa using h)
    obtain ⟨r, _, K, hK⟩ := best_is ht h0 h1
    have e : ∀ k, dormouseref01_Best.f k ls ss ds idle crit sw swE sems hor stay = nap_Best.f k ls ss ds idle crit sw swE sems hor stay := fun k => best_eq k _ _ _ _ _ _ _ _ _ _ _ _ _
    have w : Wp (fun k => nap_Best.f k ls ss ds idle crit sw swE sems hor stay) (fun x => x = r) := ⟨r, rfl, K, hK⟩
    simp only [e]
    refine Wp.bind w (fun p hp => Wp.bind w (fun q hq => Wp.bind (ans08 (Q := fun b => b = true) rfl) (fun t ht => ?_)))
    subst hp; subst hq
    refine Wp.yes ht (Wp.yes rfl (Wp.now ?_))
    simp
  simp only [dormouselaw08_NapBest.f]
  refine Wp.bind (table_tells ls ss ds idle crit sw swE sems hor) (fun t ht => Wp.ite (fun htt => Wp.ite (fun _ => key _ (fun h => by cases h)) (fun h0 => key _ (fun h => ⟨ht htt, by omega, ?_⟩))) (fun _ => key _ (fun h => by cases h)))
  have := of_decide_eq_false h
  omega

end Go.Proofs.Ytekppfjlmedhpaa.Pure
