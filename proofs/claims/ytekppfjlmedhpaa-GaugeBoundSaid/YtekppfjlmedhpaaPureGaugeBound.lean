/- GaugeBound, over the printed functions: at every machine, cycles and end the law answers true. No condition. -/
import Derived.Test.YtekppfjlmedhpaaQGaugeBound
import Derived.Test.YtekppfjlmedhpaaGauge
import Derived.Test.YtekppfjlmedhpaaTab
namespace Go.Proofs.Ytekppfjlmedhpaa.Pure
open Go.RowKit Go.Proofs.YtekppfjlmedhpaaW.PrintWords Go.Proofs.Ytekppfjlmedhpaa.PAll Go.Proofs.Ytekppfjlmedhpaa.Opens Go.Proofs.Ytekppfjlmedhpaa.Wp

theorem GaugeBound : QGaugeBound.Pure := by
  intro ls ss ds idle crit sw swE sems hor cycles end_ _ _ _
  refine Wp.rounds ?_
  have key : ∀ b, (b = false → TableOk ls ss ds idle crit sw swE sems hor ∧ 0 ≤ cycles ∧ cycles ≤ 1073741824 ∧ 0 ≤ end_ ∧ end_ ≤ 1073741824) → Wp (fun k => dormouselaw21_GaugeBound.j0 k cycles end_ b ls ss ds idle crit sw swE sems hor) (fun x => x = true) := by
    intro b hb
    refine Wp.succ ?_
    simp only [dormouselaw21_GaugeBound.j0]
    refine Wp.ite (fun _ => ans21b) (fun h => Wp.bind (ans21 (Q := fun b => b = true) rfl) (fun t ht => Wp.yes ht ?_))
    obtain ⟨ht, c0, c1, e0, e1⟩ := hb (by simpa using h)
    have hl := ht.len0
    have q0 := ht.levels.p0 0 (by omega) (by omega)
    have m0 := mul_bounds (a := cycles) (b := (rd_T59 ls 0).f0) (A := 1073741824) (B := 256) c0 c1 (by omega) (by omega)
    have e : dormouseref21_Bound.f ls ss ds idle crit sw swE sems hor cycles end_ = gauge_Bound.f ls ss ds idle crit sw swE sems hor cycles end_ := by
      unfold dormouseref21_Bound.f gauge_Bound.f
      have h0 : 0 < (ls.length : Int) := by omega
      simp only [if_pos h0]
      rw [wrap_id (x := cycles * (rd_T59 ls 0).f0) (by omega) (by omega), wrap_id (x := end_ - cycles * (rd_T59 ls 0).f0) (by omega) (by omega), mx_def]
      by_cases g : end_ > cycles * (rd_T59 ls 0).f0
      · rw [if_pos g, if_neg (by omega)]
      · rw [if_neg g]
        have z : (if end_ - cycles * (rd_T59 ls 0).f0 < 0 then 0 else end_ - cycles * (rd_T59 ls 0).f0) = 0 := by split <;> omega
        rw [z, Int.zero_mul, wrap_id (x := 0) (by omega) (by omega), Int.add_zero]
        have : wrap64 (wrap64 (cycles * (rd_T59 ls 0).f1)) = wrap64 (cycles * (rd_T59 ls 0).f1) := by unfold wrap64; omega
        rw [this]
    rw [e]
    have s : ∃ v, gauge_Bound.f ls ss ds idle crit sw swE sems hor cycles end_ = some v := by
      unfold gauge_Bound.f
      rw [if_pos (by omega)]
      exact ⟨_, rfl⟩
    obtain ⟨v, hv⟩ := s
    refine Wp.bindIs hv (Wp.bindIs hv (Wp.now ?_))
    simp
  simp only [dormouselaw21_GaugeBound.f]
  obtain ⟨b1, hb1, h1⟩ := near_is cycles
  obtain ⟨b2, hb2, h2⟩ := near_is end_
  refine Wp.bind (table_tells ls ss ds idle crit sw swE sems hor) (fun t ht => Wp.ite (fun htt => Wp.bindIs hb1 (Wp.ite (fun g1 => Wp.bindIs hb2 (key _ (fun g2 => ⟨ht htt, (h1 g1).1, (h1 g1).2, (h2 (by simpa using g2)).1, (h2 (by simpa using g2)).2⟩))) (fun _ => key _ (fun h => by cases h)))) (fun _ => key _ (fun h => by cases h)))
end Go.Proofs.Ytekppfjlmedhpaa.Pure
