/- NapLonger, over the printed functions: at every machine, stay and longer stay the law answers true. No condition. -/
import Derived.Test.YtekppfjlmedhpaaQNapLonger
import Derived.Test.YtekppfjlmedhpaaNap
namespace Go.Proofs.Ytekppfjlmedhpaa.Pure
open Go.RowKit Go.Proofs.YtekppfjlmedhpaaW.PrintWords Go.Proofs.Ytekppfjlmedhpaa.PAll Go.Proofs.Ytekppfjlmedhpaa.Opens Go.Proofs.Ytekppfjlmedhpaa.Wp

theorem cst_mono {x : S23} {idle a b : Int} (h : SleepOk x idle) (hab : a ≤ b) : cst x a ≤ cst x b := by
  obtain ⟨d0, d1, u0, u1, e0, e1, v0, v1, o0, o1, p0, p1, n0, n1, n2, sv⟩ := h
  unfold cst
  have m : x.f0 * (if a - x.f1 - x.f2 < 0 then 0 else a - x.f1 - x.f2) ≤ x.f0 * (if b - x.f1 - x.f2 < 0 then 0 else b - x.f1 - x.f2) := Int.mul_le_mul_of_nonneg_left (by split <;> split <;> omega) p0
  omega

theorem wf_u16 {x : Int} (h : (Lit.int .u16 x).wf = true) : 0 ≤ x ∧ x ≤ 65535 := by
  simp only [Lit.wf, Bool.and_eq_true, decide_eq_true_eq] at h
  have h1 : IntKind.min .u16 = 0 := by decide
  have h2 : IntKind.max .u16 = 65535 := by decide
  rw [h1, h2] at h; exact h

theorem NapLonger : QNapLonger.Pure := by
  intro ls ss ds idle crit sw swE sems hor stay more _ _ hmore
  have hm := wf_u16 hmore
  refine Wp.rounds ?_
  have key : ∀ b, (b = false → TableOk ls ss ds idle crit sw swE sems hor ∧ 0 ≤ stay ∧ stay ≤ 536870912) → Wp (fun k => dormouselaw08_NapLonger.j0 k stay more b ls ss ds idle crit sw swE sems hor) (fun x => x = true) := by
    intro b hb
    refine Wp.succ ?_
    simp only [dormouselaw08_NapLonger.j0]
    refine Wp.ite (fun _ => ans08b) (fun h => ?_)
    obtain ⟨ht, h0, h1⟩ := hb (by simpa using h)
    rw [wrap_id (x := more) (by omega) (by omega), wrap_id (x := stay + more) (by omega) (by omega)]
    have hl := ht.ss1
    have loop : ∀ i : Int, (0 ≤ i ∧ i ≤ ss.length) → Wp (fun k => dormouselaw08_NapLonger.l0 k stay (stay + more) i ls ss ds idle crit sw swE sems hor) (fun x => x = true) := by
      refine Wp.loop (fun k i => dormouselaw08_NapLonger.l0 k stay (stay + more) i ls ss ds idle crit sw swE sems hor) _ (fun i => (ss.length - i).toNat) _ ?_
      rintro i ⟨i0, i1⟩ ih
      simp only [dormouselaw08_NapLonger.l0]
      refine Wp.ite (fun hi => Wp.yes i0 ?_) (fun _ => ?_)
      · obtain ⟨hc, _⟩ := cost_is (stay := stay) (ht.sleeps i i0 hi) h0 (by omega)
        obtain ⟨hc', _⟩ := cost_is (stay := stay + more) (ht.sleeps i i0 hi) (by omega) (by omega)
        refine Wp.bindIs hc' (Wp.bindIs hc (Wp.no ?_ ?_))
        · have := cst_mono (a := stay) (b := stay + more) (ht.sleeps i i0 hi) (by omega); omega
        · rw [wrap_id (by omega) (by omega)]
          exact ih (i + 1) ⟨by omega, by omega⟩ (by omega)
      · refine Wp.bind (best_is (stay := stay) ht h0 (by omega)) (fun p hp => Wp.bind (best_is (stay := stay + more) ht (by omega) (by omega)) (fun q hq => Wp.bind (ans08 (Q := fun b => b = true) rfl) (fun t ht' => Wp.yes ht' ?_)))
        obtain ⟨pn, po⟩ := p
        obtain ⟨qn, qo⟩ := q
        refine Wp.ite (fun g => Wp.now ?_) (fun _ => Wp.now rfl)
        obtain ⟨n0, n1, n2, _⟩ := hp.yes g
        show qo = true
        by_cases hqo : qo = true
        · exact hqo
        · have := hq.no (by simpa using hqo) pn n0 n1
          simp only at n2 this
          omega
    exact loop 0 ⟨by omega, by omega⟩
  simp only [dormouselaw08_NapLonger.f]
  refine Wp.bind (table_tells ls ss ds idle crit sw swE sems hor) (fun t ht => Wp.ite (fun htt => Wp.ite (fun _ => key _ (fun h => by cases h)) (fun h0 => key _ (fun h => ⟨ht htt, by omega, ?_⟩))) (fun _ => key _ (fun h => by cases h)))
  have := of_decide_eq_false h
  omega

end Go.Proofs.Ytekppfjlmedhpaa.Pure
