/- DevSaves, over the printed functions: at every device, Dev and moment the law answers true. No condition. -/
import Derived.Test.YtmalhnmiaccgpaaQDevSaves
import Derived.Test.YtmalhnmiaccgpaaDev
namespace Go.Proofs.Ytmalhnmiaccgpaa.Pure
open Go.RowKit Go.Proofs.YtmalhnmiaccgpaaW.PrintWords Go.Proofs.YtmalhnmiaccgpaaW.PrintMore Go.Proofs.Ytmalhnmiaccgpaa.PAll Go.Proofs.Ytmalhnmiaccgpaa.Opens Go.Proofs.Ytmalhnmiaccgpaa.Wp

theorem DevSaves : QDevSaves.Pure := by
  intro on off down up downE upE even fr un now until_ _ hx _ _
  have hu := (wf_i64 hx.2).1
  refine Wp.rounds ?_
  have key : ∀ b, (b = false → RightOk on off down up downE upE even fr un ∧ (0 ≤ now ∧ now ≤ 1099511627776) ∧ 0 ≤ until_ ∧ until_ ≤ 1099511627776) → Wp (fun k => dormouselaw07_DevSaves.j0 k now until_ b on off down up downE upE even fr un) (fun x => x = true) := by
    intro b hb
    refine Wp.succ ?_
    simp only [dormouselaw07_DevSaves.j0]
    refine Wp.ite (fun _ => ans07b) (fun h => Wp.bindIs (from_is fr un) ?_)
    obtain ⟨hr, ⟨w0, w1⟩, t0, t1⟩ := hb (by simpa using h)
    have hd := hr.dev
    obtain ⟨⟨d0, d1, u0, u1, e0, e1, v0, v1, o0, o1, p0, p1, n0, n1, n2, sv⟩, f0, f1, g0, g1, _⟩ := hr
    refine Wp.bind (away_is (now := now) (until_ := until_) (even := even) d0 d1 u0 u1 f0 (by omega) g0 (by omega) w0 (by omega) t0 (by omega)) (fun p hp => ?_)
    subst hp
    by_cases c : stt down up fr un now = 1 ∧ even ≤ until_ - now
    · have e : awy down up even fr un now until_ = (now, until_, true) := by unfold awy; rw [if_pos c]
      rw [e]
      have hr2 : RightOk on off down up downE upE even now until_ := ⟨hd, w0, w1, t0, t1, .inr (by omega)⟩
      obtain ⟨hE, _, _⟩ := energy_is (now := until_) hr2 t0 (by omega)
      have hm := mul_bounds (a := on) (b := until_ - now) (A := 65536) (B := 1099511627776) o0 o1 (by omega) (by omega)
      have hS : nrg on off down up downE upE now until_ until_ ≤ on * (until_ - now) := by
        unfold nrg
        rw [if_neg (by omega), if_pos (by omega), if_pos (by omega)]
        have hx : mx (mn (until_ - up) until_ - (now + down)) 0 = until_ - up - (now + down) := by unfold mx mn; split <;> split <;> omega
        have hy : mx (until_ - until_) 0 = 0 := by unfold mx; split <;> omega
        rw [hx, hy, Int.mul_zero]
        have m : off * (until_ - now - even) ≤ on * (until_ - now - even) := Int.mul_le_mul_of_nonneg_right p1 (by omega)
        have q1 : off * (until_ - up - (now + down)) = off * (even - down - up) + off * (until_ - now - even) := by rw [← Int.mul_add]; congr 1; omega
        have q2 : on * (until_ - now) = on * even + on * (until_ - now - even) := by rw [← Int.mul_add]; congr 1; omega
        omega
      refine Wp.yes rfl (Wp.bind (ans07 (Q := fun b => b = true) rfl) (fun t ht => Wp.yes ht ?_))
      simp only
      rw [wrap_id (x := until_ - now) (by omega) (by omega), wrap_id (x := on * (until_ - now)) (by omega) (by omega)]
      refine Wp.yes (by omega) (Wp.bindIs hE (Wp.yes hS (Wp.bind (state_is (now := until_) d0 d1 u0 u1 w0 (by omega) t0 (by omega)) (fun s hs => ?_))))
      have hs1 : s = 1 := by rw [hs]; unfold stt; rw [if_pos (.inr (.inr (Int.le_refl _)))]
      refine Wp.yes hs1 (Wp.bindIs (from_is fr un) (Wp.bind (state_is (now := now) d0 d1 u0 u1 f0 (by omega) g0 (by omega)) (fun s2 hs2 => Wp.now ?_)))
      rw [hs2, c.1]
      rfl
    · have e : awy down up even fr un now until_ = (fr, un, false) := by unfold awy; rw [if_neg c]
      rw [e]
      exact Wp.no (by simp) ans07b
  simp only [dormouselaw07_DevSaves.f]
  obtain ⟨b, hb, h⟩ := right_tells on off down up downE upE even fr un hu
  obtain ⟨b1, hb1, h1⟩ := moment_tells now
  obtain ⟨b2, hb2, h2⟩ := moment_tells until_
  exact Wp.bindIs hb (Wp.ite (fun g => Wp.bindIs hb1 (Wp.ite (fun g1 => Wp.bindIs hb2 (key _ (fun g2 => ⟨h g, h1 g1, h2 (by simpa using g2)⟩))) (fun _ => key _ (fun h => by cases h)))) (fun _ => key _ (fun h => by cases h)))
end Go.Proofs.Ytmalhnmiaccgpaa.Pure
