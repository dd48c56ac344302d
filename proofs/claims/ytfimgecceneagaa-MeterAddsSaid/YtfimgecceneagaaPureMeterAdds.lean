/- MeterAdds, over the printed functions: at every machine and list the law answers true. No condition. -/
import Derived.Test.YtfimgecceneagaaQMeterAdds
import Derived.Test.YtfimgecceneagaaMeterB
import Derived.Test.YtfimgecceneagaaTab
namespace Go.Proofs.Ytfimgecceneagaa.Pure
open Go.RowKit Go.Proofs.YtfimgecceneagaaW.PrintWords Go.Proofs.Ytfimgecceneagaa.PAll Go.Proofs.Ytfimgecceneagaa.Opens Go.Proofs.Ytfimgecceneagaa.Wp Go.Proofs.Ytfimgecceneagaa.Arr

theorem adds_loop (ls : List S66) (ss : List S69) (ds : List S72) (idle crit sw swE sems hor : Int) (l : List S28) (hl : (l.length : Int) ≤ 4096) :
    ∀ s : Int × Int × Int × Int × Int, (0 ≤ s.1 ∧ s.1 ≤ l.length) → Wp (fun k => dormouselaw05_MeterAdds.l0 k l s.1 ls ss ds idle crit sw swE sems hor s.2.1 s.2.2.1 s.2.2.2.1 s.2.2.2.2 s.2.1 s.2.2.1 s.2.2.2.1 s.2.2.2.2) (fun x => x = true) := by
  refine Wp.loop (fun k (s : Int × Int × Int × Int × Int) => dormouselaw05_MeterAdds.l0 k l s.1 ls ss ds idle crit sw swE sems hor s.2.1 s.2.2.1 s.2.2.2.1 s.2.2.2.2 s.2.1 s.2.2.1 s.2.2.2.1 s.2.2.2.2) _ (fun s => ((l.length : Int) - s.1).toNat) _ ?_
  rintro ⟨i, m0, m1, m2, m3⟩ ⟨h0, h1⟩ ih
  dsimp only at h0 h1 ih ⊢
  simp only [dormouselaw05_MeterAdds.l0]
  refine Wp.ite (fun hi => Wp.yes h0 ?_) (fun hi => ?_)
  · obtain ⟨x, hx, _⟩ := small_tells (rd_T28 l i).f0 (rd_T28 l i).f1 (rd_T28 l i).f2 (rd_T28 l i).f3 (rd_T28 l i).f4 (rd_T28 l i).f5
    refine Wp.bindIs hx (Wp.ite (fun _ => ?_) (fun _ => ans05b))
    refine Wp.bindIs (add_is m0 m1 m2 m3 ls ss ds idle crit sw swE sems hor (rd_T28 l i).f0 (rd_T28 l i).f1 (rd_T28 l i).f2 (rd_T28 l i).f3 (rd_T28 l i).f4 (rd_T28 l i).f5) ?_
    have next : wrap64 (i + 1) = i + 1 := wrap_id (by omega) (by omega)
    have same : ∀ b, (b = true → 1 ≤ (rd_T28 l i).f0 ∧ (rd_T28 l i).f0 ≤ 6) → (b = false → ¬ (1 ≤ (rd_T28 l i).f0 ∧ (rd_T28 l i).f0 ≤ 6)) → ∀ n, n = ofW ls ss idle swE (rd_T28 l i).f0 (rd_T28 l i).f2 (rd_T28 l i).f3 (rd_T28 l i).f5 →
        Wp (fun k => dormouselaw05_MeterAdds.j2 k l i (rd_T28 l i).f0 b ls ss ds idle crit sw swE sems hor (addR (rd_T28 l i).f0 n m0 m1 m2 m3).1 (addR (rd_T28 l i).f0 n m0 m1 m2 m3).2.1 (addR (rd_T28 l i).f0 n m0 m1 m2 m3).2.2.1 (addR (rd_T28 l i).f0 n m0 m1 m2 m3).2.2.2 m0 m1 m2 m3) (fun x => x = true) := by
      intro b hb1 hb0 n hn
      refine Wp.succ ?_
      simp only [dormouselaw05_MeterAdds.j2]
      refine Wp.ite (fun hb => ?_) (fun hb => ?_)
      · obtain ⟨t, ht, hb4, he⟩ := add_up (rd_T28 l i).f0 n m0 m1 m2 m3 (hb1 hb).1 (hb1 hb).2
        refine Wp.bindIs ht (Wp.bindIs ht (Wp.yes h0 (Wp.yes hi ?_)))
        refine Wp.bind (energy_is ls ss ds idle crit sw swE sems hor (rd_T28 l i).f0 (rd_T28 l i).f1 (rd_T28 l i).f2 (rd_T28 l i).f3 (rd_T28 l i).f4 (rd_T28 l i).f5) (fun r hr => Wp.yes ⟨hb4, hb4⟩ ?_)
        rw [he, next, hr, ← hn]
        exact ih (i + 1, up 0 t m0 (wrap64 (rd4 m0 m1 m2 m3 t + n)), up 1 t m1 (wrap64 (rd4 m0 m1 m2 m3 t + n)), up 2 t m2 (wrap64 (rd4 m0 m1 m2 m3 t + n)), up 3 t m3 (wrap64 (rd4 m0 m1 m2 m3 t + n))) ⟨by dsimp only; omega, by dsimp only; omega⟩ (by dsimp only; omega)
      · rw [add_none (rd_T28 l i).f0 n m0 m1 m2 m3 (hb0 (Bool.eq_false_iff.mpr hb)), next]
        exact ih (i + 1, m0, m1, m2, m3) ⟨by dsimp only; omega, by dsimp only; omega⟩ (by dsimp only; omega)
    refine Wp.ite (fun h => same _ (fun g => ⟨h, of_decide_eq_true g⟩) (fun g k => absurd k.2 (of_decide_eq_false g)) _ rfl) (fun h => same _ (fun g => by cases g) (fun _ k => h k.1) _ rfl)
  · refine Wp.bindIs ans05 (Wp.yes rfl ?_)
    refine Wp.bindIs (a := (m0, m1, m2, m3)) rfl (Wp.yes (by simp) ?_)
    refine Wp.bindIs (a := wrap64 (wrap64 (wrap64 (m0 + m1) + m2) + m3)) rfl (Wp.now (by simp))

theorem MeterAdds : QMeterAdds.Pure := by
  intro ls ss ds idle crit sw swE sems hor l _ _
  refine Wp.rounds ?_
  have key : ∀ b, (b = false → (l.length : Int) ≤ 4096) → Wp (fun k => dormouselaw05_MeterAdds.j0 k l b ls ss ds idle crit sw swE sems hor) (fun x => x = true) := by
    intro b hb
    refine Wp.succ ?_
    simp only [dormouselaw05_MeterAdds.j0]
    exact Wp.ite (fun _ => ans05b) (fun h => adds_loop ls ss ds idle crit sw swE sems hor l (hb (Bool.eq_false_iff.mpr h)) (0, 0, 0, 0, 0) ⟨by dsimp only; omega, by dsimp only; omega⟩)
  simp only [dormouselaw05_MeterAdds.f]
  exact Wp.bind (table_tells ls ss ds idle crit sw swE sems hor) (fun t _ => Wp.ite (fun _ => key _ (fun h => by have := of_decide_eq_false h; omega)) (fun _ => key _ (fun h => by cases h)))

end Go.Proofs.Ytfimgecceneagaa.Pure
