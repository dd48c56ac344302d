/- PickStarted, over the printed functions: at all tasks, jobs, stacks and ceilings the law answers true. No condition. -/
import Derived.Test.YtekppfjlmedhpaaQPickStarted
import Derived.Test.YtekppfjlmedhpaaPick
namespace Go.Proofs.Ytekppfjlmedhpaa.Pure
open Go.RowKit Go.Proofs.YtekppfjlmedhpaaW.PrintWords Go.Proofs.Ytekppfjlmedhpaa.PAll Go.Proofs.Ytekppfjlmedhpaa.Opens Go.Proofs.Ytekppfjlmedhpaa.Wp

theorem PickStarted : QPickStarted.Pure := by
  intro ts js st c _ _ hs _
  have hl : st.length ≤ 140737488351232 := by omega
  refine Wp.rounds ?_
  simp only [dormouselaw14_PickStarted.f]
  have key : ∀ b, (b = false → ¬ (js.length : Int) = 0 ∧ (rd_T45 js 0).f5 = true) → Wp (fun k => dormouselaw14_PickStarted.j0 k ts js st c b) (fun x => x = true) := by
    intro b hb
    refine Wp.succ ?_
    simp only [dormouselaw14_PickStarted.j0]
    refine Wp.ite (fun _ => ans14b) (fun h => Wp.bindIs (choose_is ts js st c hl) (Wp.bindIs ans14 (Wp.yes rfl ?_)))
    obtain ⟨h0, h1⟩ := hb (by simpa using h)
    have e : who ts js st c = ((rd_T45 js 0).f0, true) := by unfold who; rw [if_neg h0, if_pos h1]
    rw [e]
    exact Wp.yes rfl (Wp.yes (by omega) (Wp.now (by simp)))
  exact Wp.ite (fun _ => key _ (fun h => by cases h)) (fun h => Wp.yes (by omega) (key _ (fun g => ⟨h, by simpa using g⟩)))
end Go.Proofs.Ytekppfjlmedhpaa.Pure
