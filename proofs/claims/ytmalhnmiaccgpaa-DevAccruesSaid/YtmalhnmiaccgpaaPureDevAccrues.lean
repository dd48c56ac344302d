/- DevAccrues, over the printed functions: at every device, Dev and moment the law answers true. No condition. -/
import Derived.Test.YtmalhnmiaccgpaaQDevAccrues
import Derived.Test.YtmalhnmiaccgpaaDev
namespace Go.Proofs.Ytmalhnmiaccgpaa.Pure
open Go.RowKit Go.Proofs.YtmalhnmiaccgpaaW.PrintWords Go.Proofs.YtmalhnmiaccgpaaW.PrintMore Go.Proofs.Ytmalhnmiaccgpaa.PAll Go.Proofs.Ytmalhnmiaccgpaa.Opens Go.Proofs.Ytmalhnmiaccgpaa.Wp

theorem DevAccrues : QDevAccrues.Pure := by
  intro on off down up downE upE even fr un now _ hx _
  have hu := (wf_i64 hx.2).1
  refine Wp.rounds ?_
  have key : ∀ b, (b = false → RightOk on off down up downE upE even fr un ∧ 0 ≤ now ∧ now < 1099511627776 ∧ fr ≤ now) → Wp (fun k => dormouselaw07_DevAccrues.j0 k now b on off down up downE upE even fr un) (fun x => x = true) := by
    intro b hb
    refine Wp.succ ?_
    simp only [dormouselaw07_DevAccrues.j0]
    refine Wp.ite (fun _ => ans07b) (fun h => Wp.bindIs (from_is fr un) ?_)
    obtain ⟨hr, w0, w1, w2⟩ := hb (by simpa using h)
    obtain ⟨hE0, l0, l1⟩ := energy_is (now := now) hr w0 (by omega)
    obtain ⟨hE1, l2, l3⟩ := energy_is (now := now + 1) hr (by omega) (by omega)
    obtain ⟨⟨d0, d1, u0, u1, e0, e1, v0, v1, o0, o1, p0, p1, n0, n1, n2, sv⟩, f0, f1, g0, g1, hrr⟩ := hr
    have j3 : ∀ by_ : Int, nrg on off down up downE upE fr un (now + 1) - nrg on off down up downE upE fr un now = by_ → Wp (fun k => dormouselaw07_DevAccrues.j3 k now by_ on off down up downE upE even fr un) (fun x => x = true) := by
      intro y hy
      refine Wp.succ ?_
      simp only [dormouselaw07_DevAccrues.j3]
      refine Wp.bind (ans07 (Q := fun b => b = true) rfl) (fun t ht => Wp.yes ht (Wp.bindIs (from_is fr un) ?_))
      rw [wrap_id (x := now + 1) (by omega) (by omega)]
      refine Wp.bindIs hE1 (Wp.bindIs (from_is fr un) (Wp.bindIs hE0 (Wp.now ?_)))
      rw [wrap_id (by omega) (by omega), hy]
      simp
    have j1 : ∀ y : Int, 0 ≤ y → y ≤ 65536 → nrg on off down up downE upE fr un (now + 1) - nrg on off down up downE upE fr un now = y + (if ¬ (fr = 0 ∧ un = 0) ∧ un - up - 1 = now then upE else 0) → Wp (fun k => dormouselaw07_DevAccrues.j1 k now (fr == 0 && (un == 0)) y on off down up downE upE even fr un) (fun x => x = true) := by
      intro y y0 y1 hy
      refine Wp.succ ?_
      simp only [dormouselaw07_DevAccrues.j1]
      rw [wrap_id (x := un - up) (by omega) (by omega), wrap_id (x := un - up - 1) (by omega) (by omega)]
      have j2 : ∀ c : Bool, c = decide (¬ (fr = 0 ∧ un = 0) ∧ un - up - 1 = now) → Wp (fun k => dormouselaw07_DevAccrues.j2 k now y c on off down up downE upE even fr un) (fun x => x = true) := by
        intro c hc
        refine Wp.succ ?_
        simp only [dormouselaw07_DevAccrues.j2]
        refine Wp.ite (fun g => ?_) (fun g => ?_)
        · rw [hc] at g
          rw [if_pos (of_decide_eq_true g)] at hy
          rw [wrap_id (by omega) (by omega)]
          exact j3 _ hy
        · rw [hc] at g
          rw [if_neg (fun h => g (decide_eq_true h)), Int.add_zero] at hy
          exact j3 _ hy
      refine Wp.ite (fun g => j2 _ ?_) (fun g => j2 _ ?_)
      · have g : fr = 0 ∧ un = 0 := by simpa using g
        rw [decide_eq_false (fun h => h.1 g)]
      · have g : ¬ (fr = 0 ∧ un = 0) := by simpa using g
        by_cases c : un - up - 1 = now
        · rw [decide_eq_true ⟨g, c⟩]; simp [c]
        · rw [decide_eq_false (fun h => c h.2)]; simp [c]
    have diff : nrg on off down up downE upE fr un (now + 1) - nrg on off down up downE upE fr un now = (if stt down up fr un now = 1 then on else if stt down up fr un now = 2 then off else 0) + (if ¬ (fr = 0 ∧ un = 0) ∧ un - up - 1 = now then upE else 0) := by
      by_cases c : fr = 0 ∧ un = 0
      · have es : stt down up fr un now = 1 := by unfold stt; rw [if_pos (.inl c)]
        rw [es, if_pos rfl, if_neg (fun h => h.1 c)]
        unfold nrg
        rw [if_pos c, if_pos c, if_neg (by omega), if_neg (by omega), Int.mul_add]
        omega
      · have en : ∀ m : Int, nrg on off down up downE upE fr un m = (if m ≥ fr then downE else 0) + (if m ≥ un - up then upE else 0) + off * (mx (mn (un - up) m - (fr + down)) 0) + on * (mx (m - un) 0) := fun m => by unfold nrg; rw [if_neg c]
        have r0 : fr + down ≤ un - up := by omega
        rw [en, en, if_pos (show now + 1 ≥ fr by omega), if_pos (show now ≥ fr by omega)]
        by_cases c1 : un ≤ now
        · have es : stt down up fr un now = 1 := by unfold stt; rw [if_pos (.inr (.inr c1))]
          have x1 : mx (mn (un - up) (now + 1) - (fr + down)) 0 = mx (mn (un - up) now - (fr + down)) 0 := by unfold mx mn; (repeat' split) <;> omega
          have x2 : mx (now + 1 - un) 0 = mx (now - un) 0 + 1 := by unfold mx; (repeat' split) <;> omega
          rw [es, if_pos rfl, x1, x2, Int.mul_add, if_pos (show now + 1 ≥ un - up by omega), if_pos (show now ≥ un - up by omega), if_neg (by omega)]
          omega
        · have x2 : mx (now + 1 - un) 0 = 0 := by unfold mx; (repeat' split) <;> omega
          have x3 : mx (now - un) 0 = 0 := by unfold mx; (repeat' split) <;> omega
          rw [x2, x3]
          by_cases c2 : now < fr + down
          · have es : stt down up fr un now = 3 := by unfold stt; rw [if_neg (by omega), if_pos c2]
            have x1 : mx (mn (un - up) (now + 1) - (fr + down)) 0 = 0 := by unfold mx mn; (repeat' split) <;> omega
            have x4 : mx (mn (un - up) now - (fr + down)) 0 = 0 := by unfold mx mn; (repeat' split) <;> omega
            rw [es, if_neg (show ¬ (3 : Int) = 1 by decide), if_neg (show ¬ (3 : Int) = 2 by decide), x1, x4]
            by_cases c3 : un - up - 1 = now
            · rw [if_pos (show now + 1 ≥ un - up by omega), if_neg (show ¬ now ≥ un - up by omega), if_pos ⟨c, c3⟩]; omega
            · rw [if_neg (show ¬ (¬ (fr = 0 ∧ un = 0) ∧ un - up - 1 = now) from fun h => c3 h.2)]
              by_cases c4 : now ≥ un - up
              · rw [if_pos (show now + 1 ≥ un - up by omega), if_pos c4]; omega
              · rw [if_neg (show ¬ now + 1 ≥ un - up by omega), if_neg c4]; omega
          · by_cases c5 : now < un - up
            · have es : stt down up fr un now = 2 := by unfold stt; rw [if_neg (by omega), if_neg c2, if_pos c5]
              have x1 : mx (mn (un - up) (now + 1) - (fr + down)) 0 = mx (mn (un - up) now - (fr + down)) 0 + 1 := by unfold mx mn; (repeat' split) <;> omega
              rw [es, if_neg (show ¬ (2 : Int) = 1 by decide), if_pos (show (2 : Int) = 2 from rfl), x1, Int.mul_add, if_neg (show ¬ now ≥ un - up by omega)]
              by_cases c3 : un - up - 1 = now
              · rw [if_pos (show now + 1 ≥ un - up by omega), if_pos ⟨c, c3⟩]; omega
              · rw [if_neg (show ¬ now + 1 ≥ un - up by omega), if_neg (show ¬ (¬ (fr = 0 ∧ un = 0) ∧ un - up - 1 = now) from fun h => c3 h.2)]; omega
            · have es : stt down up fr un now = 4 := by unfold stt; rw [if_neg (by omega), if_neg c2, if_neg c5]
              have x1 : mx (mn (un - up) (now + 1) - (fr + down)) 0 = mx (mn (un - up) now - (fr + down)) 0 := by unfold mx mn; (repeat' split) <;> omega
              rw [es, if_neg (show ¬ (4 : Int) = 1 by decide), if_neg (show ¬ (4 : Int) = 2 by decide), x1, if_pos (show now + 1 ≥ un - up by omega), if_pos (show now ≥ un - up by omega), if_neg (show ¬ (¬ (fr = 0 ∧ un = 0) ∧ un - up - 1 = now) from fun h => by omega)]
              omega
    refine Wp.bind (state_is (now := now) d0 d1 u0 u1 f0 (by omega) g0 (by omega)) (fun s hs => ?_)
    subst hs
    refine Wp.ite (fun c1 => j1 _ (by omega) (by omega) ?_) (fun c1 => Wp.ite (fun c2 => j1 _ (by omega) (by omega) ?_) (fun c2 => j1 _ (by omega) (by omega) ?_))
    · rw [diff, if_pos c1]
    · rw [diff, if_neg c1, if_pos c2]
    · rw [diff, if_neg c1, if_neg c2]
  simp only [dormouselaw07_DevAccrues.f]
  obtain ⟨b, hb, h⟩ := right_tells on off down up downE upE even fr un hu
  refine Wp.bindIs hb (Wp.ite (fun g => Wp.ite (fun _ => key _ (fun h => by cases h)) (fun g1 => Wp.ite (fun _ => key _ (fun h => by cases h)) (fun g2 => key _ (fun g3 => ⟨h g, by omega, by omega, ?_⟩)))) (fun _ => key _ (fun h => by cases h)))
  have := of_decide_eq_false g3
  omega
end Go.Proofs.Ytmalhnmiaccgpaa.Pure
