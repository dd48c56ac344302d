/- GaugeCounts, over the printed functions: at all lists of intervals the law answers true. No condition. -/
import Derived.Test.YtekppfjlmedhpaaQGaugeCounts
import Derived.Test.YtekppfjlmedhpaaGauge
namespace Go.Proofs.Ytekppfjlmedhpaa.Pure
open Go.RowKit Go.Proofs.YtekppfjlmedhpaaW.PrintWords Go.Proofs.Ytekppfjlmedhpaa.PAll Go.Proofs.Ytekppfjlmedhpaa.Opens Go.Proofs.Ytekppfjlmedhpaa.Wp

theorem GaugeCounts : QGaugeCounts.Pure := by
  intro l hl
  have hl : l.length ≤ 9223372036854775000 := by omega
  refine Wp.rounds ?_
  simp only [dormouselaw21_GaugeCounts.f]
  have key : ∀ i : Int, (0 ≤ i ∧ i ≤ l.length) → Wp (fun k => dormouselaw21_GaugeCounts.l0 k l i) (fun x => x = true) := by
    refine Wp.loop (fun k i => dormouselaw21_GaugeCounts.l0 k l i) _ (fun i => (l.length - i).toNat) _ ?_
    rintro i ⟨i0, i1⟩ ih
    simp only [dormouselaw21_GaugeCounts.l0]
    refine Wp.ite (fun hi => Wp.yes i0 ?_) (fun hi => ?_)
    · obtain ⟨b, hb, _⟩ := near_is (rd_T54 l i).f5
      refine Wp.bindIs hb (Wp.ite (fun _ => ?_) (fun _ => ans21b))
      rw [wrap_id (by omega) (by omega)]
      exact ih (i + 1) ⟨by omega, by omega⟩ (by omega)
    · have e1 : ∀ k, dormouseref21_Cycles.f k l = gauge_Cycles.f k l := fun k => cyclesR_eq k l 0 0
      have e2 : ∀ k, dormouseref21_Switches.f k l = gauge_Switches.f k l := fun k => switchesR_eq k l 0 0
      simp only [e1, e2]
      refine Wp.bind (ans21 (Q := fun b => b = true) rfl) (fun t ht => Wp.yes ht (Wp.bind (cycles_is l hl) (fun p hp => Wp.bind (cycles_is l hl) (fun q hq => ?_))))
      subst hp; subst hq
      refine Wp.yes rfl (Wp.bind (switches_is l hl) (fun p hp => Wp.bind (switches_is l hl) (fun q hq => ?_)))
      subst hp; subst hq
      exact Wp.now (by simp)
  exact key 0 ⟨by omega, by omega⟩
end Go.Proofs.Ytekppfjlmedhpaa.Pure
