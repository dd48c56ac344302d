/- DevEnergy, over the printed functions: at every device, Dev and moment the law answers true. No condition. -/
import Derived.Test.YtmalhnmiaccgpaaQDevEnergy
import Derived.Test.YtmalhnmiaccgpaaDev
namespace Go.Proofs.Ytmalhnmiaccgpaa.Pure
open Go.RowKit Go.Proofs.YtmalhnmiaccgpaaW.PrintWords Go.Proofs.YtmalhnmiaccgpaaW.PrintMore Go.Proofs.Ytmalhnmiaccgpaa.PAll Go.Proofs.Ytmalhnmiaccgpaa.Opens Go.Proofs.Ytmalhnmiaccgpaa.Wp

theorem energyR_is {on off down up downE upE even fr un now : Int} (h : RightOk on off down up downE upE even fr un) (w0 : 0 ≤ now) (w1 : now ≤ 1152921504606) :
    Wp (fun k => dormouseref01_DevEnergy.f k on off down up downE upE even fr un now) (fun r => r = nrg on off down up downE upE fr un now) := by
  obtain ⟨_, hn0, hn1⟩ := energy_is h w0 w1
  obtain ⟨⟨d0, d1, u0, u1, e0, e1, v0, v1, o0, o1, p0, p1, n0, n1, n2, _⟩, f0, f1, g0, g1, hr⟩ := h
  simp only [dormouseref01_DevEnergy.f]
  by_cases c : fr = 0 ∧ un = 0
  · refine Wp.yes c.1 (Wp.succ ?_)
    simp only [dormouseref01_DevEnergy.j0]
    refine Wp.yes (by simp [c.2]) (Wp.now ?_)
    have m0 := mul_bounds (a := on) (b := now) (A := 65536) (B := 1152921504606) (by omega) (by omega) w0 w1
    rw [wrap_id (by omega) (by omega)]
    unfold nrg
    rw [if_pos c, if_neg (by omega)]
  · have key : Wp (fun k => dormouseref01_DevEnergy.j0 k now false on off down up downE upE even fr un) (fun r => r = nrg on off down up downE upE fr un now) := by
      refine Wp.succ ?_
      simp only [dormouseref01_DevEnergy.j0]
      refine Wp.no (by simp) ?_
      have e : nrg on off down up downE upE fr un now = (if now ≥ fr then downE else 0) + (if now ≥ un - up then upE else 0) + off * (mx (mn (un - up) now - (fr + down)) 0) + on * (mx (now - un) 0) := by unfold nrg; rw [if_neg c]
      have r0 : fr + down ≤ un - up := by omega
      have m1 := mul_bounds (a := off) (b := mx (mn (un - up) now - (fr + down)) 0) (A := 65536) (B := 1152921504606) (by omega) (by omega) (by unfold mx; split <;> omega) (by unfold mx mn; split <;> split <;> omega)
      have m2 := mul_bounds (a := on) (b := mx (now - un) 0) (A := 65536) (B := 1152921504606) (by omega) (by omega) (by unfold mx; split <;> omega) (by unfold mx; split <;> omega)
      have j2 : ∀ s : Int, 0 ≤ s → s ≤ 131072 → s + off * (mx (mn (un - up) now - (fr + down)) 0) + on * (mx (now - un) 0) = nrg on off down up downE upE fr un now → Wp (fun k => dormouseref01_DevEnergy.j2 k now s (fr + down) (un - up) on off down up downE upE even fr un) (fun r => r = nrg on off down up downE upE fr un now) := by
        intro s s0 s1 hs
        refine Wp.succ ?_
        simp only [dormouseref01_DevEnergy.j2]
        refine Wp.ite (fun g => ?_) (fun g => ?_)
        · have hm : dormouseref01_Min.f now (un - up) = some (mn (un - up) now) := by
            unfold dormouseref01_Min.f mn
            by_cases g1 : now < un - up
            · rw [if_pos g1, if_pos g1]
            · rw [if_neg g1, if_neg g1]
          have hx : mx (mn (un - up) now - (fr + down)) 0 = mn (un - up) now - (fr + down) := by
            unfold mx mn
            split <;> split <;> omega
          rw [hx] at m1 hs
          refine Wp.bindIs hm ?_
          rw [wrap_id (x := mn (un - up) now - (fr + down)) (by unfold mn; split <;> omega) (by unfold mn; split <;> omega), wrap_id (x := off * (mn (un - up) now - (fr + down))) (by omega) (by omega), wrap_id (x := s + off * (mn (un - up) now - (fr + down))) (by omega) (by omega)]
          refine Wp.ite (fun g1 => Wp.now ?_) (fun g1 => Wp.now ?_)
          · have hy : mx (now - un) 0 = now - un := by unfold mx; split <;> omega
            rw [hy] at m2 hs
            rw [wrap_id (x := now - un) (by omega) (by omega), wrap_id (x := on * (now - un)) (by omega) (by omega), wrap_id (by omega) (by omega)]
            exact hs
          · have hy : mx (now - un) 0 = 0 := by unfold mx; split <;> omega
            rw [hy, Int.mul_zero] at hs
            omega
        · have hx : mx (mn (un - up) now - (fr + down)) 0 = 0 := by
            unfold mx mn
            split <;> split <;> omega
          rw [hx, Int.mul_zero] at hs
          refine Wp.ite (fun g1 => Wp.now ?_) (fun g1 => Wp.now ?_)
          · have hy : mx (now - un) 0 = now - un := by unfold mx; split <;> omega
            rw [hy] at m2 hs
            rw [wrap_id (x := now - un) (by omega) (by omega), wrap_id (x := on * (now - un)) (by omega) (by omega), wrap_id (by omega) (by omega)]
            omega
          · have hy : mx (now - un) 0 = 0 := by unfold mx; split <;> omega
            rw [hy, Int.mul_zero] at hs
            omega
      have j1 : ∀ s : Int, 0 ≤ s → s ≤ 65536 → s + (if now ≥ un - up then upE else 0) + off * (mx (mn (un - up) now - (fr + down)) 0) + on * (mx (now - un) 0) = nrg on off down up downE upE fr un now → Wp (fun k => dormouseref01_DevEnergy.j1 k now s (fr + down) (un - up) on off down up downE upE even fr un) (fun r => r = nrg on off down up downE upE fr un now) := by
        intro s s0 s1 hs
        refine Wp.succ ?_
        simp only [dormouseref01_DevEnergy.j1]
        refine Wp.ite (fun g => ?_) (fun g => ?_)
        · rw [if_pos g] at hs
          rw [wrap_id (x := s + upE) (by omega) (by omega)]
          exact j2 (s + upE) (by omega) (by omega) hs
        · rw [if_neg g, Int.add_zero] at hs
          exact j2 s s0 (by omega) hs
      rw [wrap_id (x := fr + down) (by omega) (by omega), wrap_id (x := un - up) (by omega) (by omega), wrap_id (x := 0 + downE) (by omega) (by omega)]
      refine Wp.ite (fun g => j1 _ (by omega) (by omega) ?_) (fun g => j1 _ (by omega) (by omega) ?_)
      · rw [e, if_pos g, Int.zero_add]
      · rw [e, if_neg g]
    refine Wp.ite (fun g => ?_) (fun _ => key)
    have : (un == 0) = false := by
      simp only [beq_eq_false_iff_ne, ne_eq]
      omega
    rw [this]
    exact key

theorem DevEnergy : QDevEnergy.Pure := by
  intro on off down up downE upE even fr un now _ hx _
  have hu := (wf_i64 hx.2).1
  refine Wp.rounds ?_
  have key : ∀ b, (b = false → RightOk on off down up downE upE even fr un ∧ 0 ≤ now ∧ now ≤ 1099511627776) → Wp (fun k => dormouselaw07_DevEnergy.j0 k now b on off down up downE upE even fr un) (fun x => x = true) := by
    intro b hb
    refine Wp.succ ?_
    simp only [dormouselaw07_DevEnergy.j0]
    refine Wp.ite (fun _ => ans07b) (fun h => Wp.bind (ans07 (Q := fun b => b = true) rfl) (fun t ht => Wp.yes ht (Wp.bindIs (from_is fr un) ?_)))
    obtain ⟨hr, w0, w1⟩ := hb (by simpa using h)
    refine Wp.bindIs (energy_is hr w0 (by omega)).1 (Wp.bind (energyR_is hr w0 (by omega)) (fun q hq => Wp.now ?_))
    subst hq
    simp
  simp only [dormouselaw07_DevEnergy.f]
  obtain ⟨b, hb, h⟩ := right_tells on off down up downE upE even fr un hu
  obtain ⟨b1, hb1, h1⟩ := moment_tells now
  exact Wp.bindIs hb (Wp.ite (fun g => Wp.bindIs hb1 (key _ (fun g1 => ⟨h g, h1 (by simpa using g1)⟩))) (fun _ => key _ (fun h => by cases h)))
end Go.Proofs.Ytmalhnmiaccgpaa.Pure
