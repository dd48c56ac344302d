/- PickHeld, over the printed functions: at all tasks, jobs, stacks and ceilings the law answers true. No condition. -/
import Derived.Test.YtekppfjlmedhpaaQPickHeld
import Derived.Test.YtekppfjlmedhpaaPick
namespace Go.Proofs.Ytekppfjlmedhpaa.Pure
open Go.RowKit Go.Proofs.YtekppfjlmedhpaaW.PrintWords Go.Proofs.Ytekppfjlmedhpaa.PAll Go.Proofs.Ytekppfjlmedhpaa.Opens Go.Proofs.Ytekppfjlmedhpaa.Wp

theorem PickHeld : QPickHeld.Pure := by
  intro ts js st c _ _ hs _
  have hl : st.length ≤ 140737488351232 := by omega
  refine Wp.rounds ?_
  simp only [dormouselaw14_PickHeld.f]
  have key1 : ∀ b, ¬ (js.length : Int) = 0 → ¬ (st.length : Int) = 0 → (rd_T45 js 0).f5 = false → (b = false → ¬ per ts (rd_T45 js 0).f0 < c) → Wp (fun k => dormouselaw14_PickHeld.j1 k ts js st c b) (fun x => x = true) := by
    intro b h0 h1 h2 hb
    refine Wp.succ ?_
    simp only [dormouselaw14_PickHeld.j1]
    refine Wp.ite (fun _ => ans14b) (fun h => Wp.bindIs (choose_is ts js st c hl) (Wp.bindIs ans14 (Wp.yes rfl ?_)))
    have h3 := hb (by simpa using h)
    have e : who ts js st c = (rd st ((st.length : Int) - 1), true) := by
      unfold who
      rw [if_neg h0, if_neg (by rw [h2]; simp), if_neg h3, if_neg h1]
    rw [e, wrap_id (by omega) (by omega)]
    exact Wp.yes rfl (Wp.inside (by omega) (by omega) (Wp.now (by simp)))
  have key : ∀ b, (b = false → ¬ (js.length : Int) = 0 ∧ ¬ (st.length : Int) = 0 ∧ (rd_T45 js 0).f5 = false) → Wp (fun k => dormouselaw14_PickHeld.j0 k ts js st c b) (fun x => x = true) := by
    intro b hb
    refine Wp.succ ?_
    simp only [dormouselaw14_PickHeld.j0]
    refine Wp.ite (fun _ => ans14b) (fun h => ?_)
    obtain ⟨h0, h1, h2⟩ := hb (by simpa using h)
    refine Wp.yes (by omega) (Wp.ite (fun _ => key1 _ h0 h1 h2 (fun h => by cases h)) (fun g => Wp.ite (fun _ => key1 _ h0 h1 h2 (fun h => by cases h)) (fun g1 => Wp.inside (by omega) (by omega) (key1 _ h0 h1 h2 (fun h3 => ?_)))))
    have := of_decide_eq_false h3
    unfold per
    rw [if_neg (by omega), if_neg (by omega)]
    omega
  exact Wp.ite (fun _ => key _ (fun h => by cases h)) (fun h => Wp.ite (fun _ => key _ (fun h => by cases h)) (fun h1 => Wp.yes (by omega) (key _ (fun h2 => ⟨h, h1, h2⟩))))
end Go.Proofs.Ytekppfjlmedhpaa.Pure
