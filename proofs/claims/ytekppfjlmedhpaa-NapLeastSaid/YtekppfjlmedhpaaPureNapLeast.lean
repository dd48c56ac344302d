/- NapLeast, over the printed functions: at every machine and every stay the law answers true. No condition. -/
import Derived.Test.YtekppfjlmedhpaaQNapLeast
import Derived.Test.YtekppfjlmedhpaaNap
namespace Go.Proofs.Ytekppfjlmedhpaa.Pure
open Go.RowKit Go.Proofs.YtekppfjlmedhpaaW.PrintWords Go.Proofs.Ytekppfjlmedhpaa.PAll Go.Proofs.Ytekppfjlmedhpaa.Opens Go.Proofs.Ytekppfjlmedhpaa.Wp

theorem cst_idle {x : S23} {idle stay : Int} (h : SleepOk x idle) (he : x.f5 ≤ stay) : cst x stay ≤ idle * stay := by
  obtain ⟨d0, d1, u0, u1, e0, e1, v0, v1, o0, o1, p0, p1, n0, n1, n2, sv⟩ := h
  unfold cst
  rw [if_neg (by omega)]
  have m : x.f0 * (stay - x.f5) ≤ idle * (stay - x.f5) := Int.mul_le_mul_of_nonneg_right p1 (by omega)
  have e1 : x.f0 * (stay - x.f1 - x.f2) = x.f0 * (x.f5 - x.f1 - x.f2) + x.f0 * (stay - x.f5) := by rw [← Int.mul_add]; congr 1; omega
  have e2 : idle * stay = idle * x.f5 + idle * (stay - x.f5) := by rw [← Int.mul_add]; congr 1; omega
  omega

theorem NapLeast : QNapLeast.Pure := by
  intro ls ss ds idle crit sw swE sems hor stay _ _
  refine Wp.rounds ?_
  have key : ∀ b, (b = false → TableOk ls ss ds idle crit sw swE sems hor ∧ 0 ≤ stay ∧ stay ≤ 1073741824) → Wp (fun k => dormouselaw08_NapLeast.j0 k stay b ls ss ds idle crit sw swE sems hor) (fun x => x = true) := by
    intro b hb
    refine Wp.succ ?_
    simp only [dormouselaw08_NapLeast.j0]
    refine Wp.ite (fun _ => ans08b) (fun h => ?_)
    obtain ⟨ht, h0, h1⟩ := hb (by simpa using h)
    refine Wp.bind (best_is ht h0 h1) (fun r hr => ?_)
    obtain ⟨n, ok⟩ := r
    simp only at hr ⊢
    have hl := ht.ss1
    have loop : ∀ i : Int, (0 ≤ i ∧ i ≤ ss.length) → Wp (fun k => dormouselaw08_NapLeast.l0 k stay n ok i ls ss ds idle crit sw swE sems hor) (fun x => x = true) := by
      refine Wp.loop (fun k i => dormouselaw08_NapLeast.l0 k stay n ok i ls ss ds idle crit sw swE sems hor) _ (fun i => (ss.length - i).toNat) _ ?_
      rintro i ⟨i0, i1⟩ ih
      simp only [dormouselaw08_NapLeast.l0]
      refine Wp.ite (fun hi => Wp.yes i0 ?_) (fun _ => ans08b)
      have nx : Wp (fun k => dormouselaw08_NapLeast.l0 k stay n ok (wrap64 (i + 1)) ls ss ds idle crit sw swE sems hor) (fun x => x = true) := by
        rw [wrap_id (by omega) (by omega)]
        exact ih (i + 1) ⟨by omega, by omega⟩ (by omega)
      refine Wp.ite (fun g1 => Wp.ite (fun g2 => ?_) (fun g2 => ?_)) (fun _ => nx)
      · obtain ⟨n0, n1, n2, n3⟩ := hr.yes g2
        obtain ⟨hc, _⟩ := cost_is (ht.sleeps i i0 hi) h0 h1
        obtain ⟨hc', _⟩ := cost_is (ht.sleeps n n0 (by omega)) h0 h1
        refine Wp.bindIs hc (Wp.inside n0 (by omega) (Wp.bindIs hc' (Wp.no ?_ nx)))
        have := n3 i i0 hi g1
        omega
      · exact absurd g1 (hr.no (by simpa using g2) i i0 hi)
    have fin : Wp (fun k => dormouselaw08_NapLeast.j1 k stay n ok false ls ss ds idle crit sw swE sems hor) (fun x => x = true) := by
      refine Wp.succ ?_
      simp only [dormouselaw08_NapLeast.j1]
      exact Wp.no (by simp) (loop 0 ⟨by omega, by omega⟩)
    refine Wp.ite (fun g => ?_) (fun g => ?_)
    · obtain ⟨n0, n1, n2, n3⟩ := hr.yes g
      obtain ⟨hc', hc0, hc1⟩ := cost_is (ht.sleeps n n0 (by omega)) h0 h1
      refine Wp.no (by omega) (Wp.no (by omega) (Wp.inside n0 (by omega) (Wp.no (by omega) (Wp.bindIs hc' ?_))))
      have hci := cst_idle (ht.sleeps n n0 (by omega)) n2
      have hm := mul_bounds (a := idle) (b := stay) (A := 65536) (B := 1073741824) ht.idle0 ht.idle1 h0 h1
      rw [wrap_id (by omega) (by omega), decide_eq_false (by omega)]
      exact fin
    · exact fin
  simp only [dormouselaw08_NapLeast.f]
  refine Wp.bind (table_tells ls ss ds idle crit sw swE sems hor) (fun t ht => Wp.ite (fun htt => Wp.ite (fun _ => key _ (fun h => by cases h)) (fun h0 => key _ (fun h => ⟨ht htt, by omega, ?_⟩))) (fun _ => key _ (fun h => by cases h)))
  have := of_decide_eq_false h
  omega

end Go.Proofs.Ytekppfjlmedhpaa.Pure
