/- DevCalls, over the printed functions: at every device, Dev and moment the law answers true. No condition. -/
import Derived.Test.YtmalhnmiaccgpaaQDevCalls
import Derived.Test.YtmalhnmiaccgpaaDev
namespace Go.Proofs.Ytmalhnmiaccgpaa.Pure
open Go.RowKit Go.Proofs.YtmalhnmiaccgpaaW.PrintWords Go.Proofs.YtmalhnmiaccgpaaW.PrintMore Go.Proofs.Ytmalhnmiaccgpaa.PAll Go.Proofs.Ytmalhnmiaccgpaa.Opens Go.Proofs.Ytmalhnmiaccgpaa.Wp

theorem callR_eq (on off down up downE upE even fr un now : Int) : dormouseref01_Call.f on off down up downE upE even fr un now = dev_Call.f on off down up downE upE even fr un now := by
  unfold dormouseref01_Call.f dev_Call.f
  by_cases c : un = 1099511627776
  · rw [if_pos c, if_pos c]
    have hm : ∀ a b : Int, dormouseref01_Max.f a b = some (mx a b) := by
      intro a b
      unfold dormouseref01_Max.f mx
      by_cases g : a > b
      · rw [if_pos g, if_neg (by omega)]
      · rw [if_neg g]
        by_cases g2 : a < b
        · rw [if_pos g2]
        · rw [if_neg g2]; congr 1; omega
    rw [hm]
    simp only [Option.bind_some]
    rw [hm]
    rfl
  · rw [if_neg c, if_neg c]

theorem DevCalls : QDevCalls.Pure := by
  intro on off down up downE upE even fr un now _ hx _
  have hu := (wf_i64 hx.2).1
  refine Wp.rounds ?_
  have key : ∀ b, (b = false → RightOk on off down up downE upE even fr un ∧ 0 ≤ now ∧ now ≤ 1099511627776) → Wp (fun k => dormouselaw07_DevCalls.j0 k now b on off down up downE upE even fr un) (fun x => x = true) := by
    intro b hb
    refine Wp.succ ?_
    simp only [dormouselaw07_DevCalls.j0]
    refine Wp.ite (fun _ => ans07b) (fun h => Wp.bindIs (from_is fr un) ?_)
    obtain ⟨⟨⟨d0, d1, u0, u1, e0, e1, v0, v1, o0, o1, p0, p1, n0, n1, n2, sv⟩, f0, f1, g0, g1, _⟩, w0, w1⟩ := hb (by simpa using h)
    simp only [callR_eq]
    have key1 : ∀ (c : Bool) (y : Int), dev_Call.f on off down up downE upE even fr un now = some (fr, y) → (c = false → y = un ∨ un = 1099511627776) → (c = true → un = 1099511627776 ∧ now ≤ 1073741824 ∧ fr ≤ 1073741824) →
        Wp (fun k => dormouselaw07_DevCalls.j1 k now c on off down up downE upE even fr un fr y) (fun x => x = true) := by
      intro c y hy hc hc1
      refine Wp.succ ?_
      simp only [dormouselaw07_DevCalls.j1]
      refine Wp.ite (fun g => Wp.bind (ans07 (Q := fun b => b = true) rfl) (fun t ht => Wp.yes ht ?_)) (fun g => Wp.bind (ans07 (Q := fun b => b = true) rfl) (fun t ht => Wp.yes ht (Wp.bindIs (from_is fr un) (Wp.ite (fun _ => Wp.now rfl) (fun g1 => Wp.now ?_)))))
      · obtain ⟨h1, h2, h3⟩ := hc1 g
        have ey : y = mx (mx (fr + even) (now + up)) (fr + down + up) := by
          unfold dev_Call.f at hy
          rw [if_pos h1, wrap_id (x := fr + even) (by omega) (by omega), wrap_id (x := now + up) (by omega) (by omega), wrap_id (x := fr + down) (by omega) (by omega), wrap_id (x := fr + down + up) (by omega) (by omega)] at hy
          have := Option.some.inj hy
          exact (Prod.mk.inj this).2.symm
        have y0 : fr + even ≤ y := by rw [ey]; unfold mx; split <;> split <;> omega
        have y1 : now + up ≤ y := by rw [ey]; unfold mx; split <;> split <;> omega
        have y2 : y ≤ 2147483648 := by rw [ey]; unfold mx; split <;> split <;> omega
        rw [wrap_id (x := y - fr) (by omega) (by omega), wrap_id (x := y - now) (by omega) (by omega)]
        refine Wp.yes (by omega) (Wp.yes (by omega) (Wp.bind (state_is (now := y) d0 d1 u0 u1 f0 (by omega) (by omega) (by omega)) (fun s hs => Wp.now ?_)))
        have hs1 : s = 1 := by rw [hs]; unfold stt; rw [if_pos (.inr (.inr (Int.le_refl _)))]
        rw [hs1]; rfl
      · rcases hc (by simpa using g) with h1 | h1
        · exact absurd (by simp [h1]) g1
        · simp [h1]
    obtain ⟨y, hy, hy1⟩ : ∃ y, dev_Call.f on off down up downE upE even fr un now = some (fr, y) ∧ (y = un ∨ un = 1099511627776) := by
      unfold dev_Call.f
      by_cases c : un = 1099511627776
      · rw [if_pos c]; exact ⟨_, rfl, .inr c⟩
      · rw [if_neg c]; exact ⟨_, rfl, .inl rfl⟩
    refine Wp.bindIs hy (Wp.bindIs hy (Wp.bindIs (from_is _ _) (Wp.no (by simp) ?_)))
    refine Wp.ite (fun c1 => Wp.ite (fun c2 => key1 _ _ hy (fun _ => hy1) (fun h3 => ⟨c1, c2, of_decide_eq_true h3⟩)) (fun _ => key1 _ _ hy (fun _ => hy1) (fun h => by cases h))) (fun _ => key1 _ _ hy (fun _ => hy1) (fun h => by cases h))
  simp only [dormouselaw07_DevCalls.f]
  obtain ⟨b, hb, h⟩ := right_tells on off down up downE upE even fr un hu
  obtain ⟨b1, hb1, h1⟩ := moment_tells now
  exact Wp.bindIs hb (Wp.ite (fun g => Wp.bindIs hb1 (key _ (fun g1 => ⟨h g, h1 (by simpa using g1)⟩))) (fun _ => key _ (fun h => by cases h)))
end Go.Proofs.Ytmalhnmiaccgpaa.Pure
