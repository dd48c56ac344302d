/- GaugeParts, over the printed functions: at two lists that together hold at most 1048576 intervals the law answers true. -/
import Derived.Test.YtekppfjlmedhpaaQGaugePartsUpto
import Derived.Test.YtekppfjlmedhpaaGauge
namespace Go.Proofs.Ytekppfjlmedhpaa.Pure
open Go.RowKit Go.Proofs.YtekppfjlmedhpaaW.PrintWords Go.Proofs.Ytekppfjlmedhpaa.PAll Go.Proofs.Ytekppfjlmedhpaa.Opens Go.Proofs.Ytekppfjlmedhpaa.Wp

theorem GaugePartsUpto : QGaugePartsUpto.Pure := by
  intro a b ha hb hlen
  refine Wp.rounds ?_
  simp only [dormouselaw21_GaugeParts.f]
  have hl : (a ++ b).length ≤ 9223372036854775000 := by rw [List.length_append]; omega
  have key : ∀ i : Int, (0 ≤ i ∧ i ≤ (a ++ b).length) → Wp (fun k => dormouselaw21_GaugeParts.l0 k a b (a ++ b) i) (fun x => x = true) := by
    refine Wp.loop (fun k i => dormouselaw21_GaugeParts.l0 k a b (a ++ b) i) _ (fun i => ((a ++ b).length - i).toNat) _ ?_
    rintro i ⟨i0, i1⟩ ih
    simp only [dormouselaw21_GaugeParts.l0]
    refine Wp.ite (fun hi => Wp.yes i0 ?_) (fun hi => ?_)
    · obtain ⟨c, hc, _⟩ := near_is (rd_T54 (a ++ b) i).f5
      refine Wp.bindIs hc (Wp.ite (fun _ => ?_) (fun _ => ans21b))
      rw [wrap_id (by omega) (by omega)]
      exact ih (i + 1) ⟨by omega, by omega⟩ (by omega)
    · refine Wp.bind (ans21 (Q := fun b => b = true) rfl) (fun t ht => Wp.yes ht (Wp.bind (cycles_is (a ++ b) hl) (fun p hp => Wp.bind (cycles_is a (by omega)) (fun q hq => Wp.bind (cycles_is b (by omega)) (fun r hr => ?_)))))
      subst hp; subst hq; subst hr
      refine Wp.yes (by rw [sumOf_append, wrap_two]) (Wp.bind (switches_is (a ++ b) hl) (fun p hp => Wp.bind (switches_is a (by omega)) (fun q hq => Wp.bind (switches_is b (by omega)) (fun r hr => ?_))))
      subst hp; subst hq; subst hr
      refine Wp.now ?_
      rw [sumOf_append, wrap_two]
      simp
  refine Wp.bindIs rfl (Wp.yes ?_ (Wp.bindIs rfl (Wp.yes ?_ ?_)))
  · simp only [List.length_nil]; omega
  · simp only [List.nil_append]; omega
  · simp only [List.nil_append]
    exact key 0 ⟨by omega, by omega⟩

end Go.Proofs.Ytekppfjlmedhpaa.Pure
