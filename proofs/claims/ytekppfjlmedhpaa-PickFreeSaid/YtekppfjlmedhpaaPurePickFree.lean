/- PickFree, over the printed functions: at all tasks, jobs and stacks the law answers true. No condition. -/
import Derived.Test.YtekppfjlmedhpaaQPickFree
import Derived.Test.YtekppfjlmedhpaaPick
namespace Go.Proofs.Ytekppfjlmedhpaa.Pure
open Go.RowKit Go.Proofs.YtekppfjlmedhpaaW.PrintWords Go.Proofs.Ytekppfjlmedhpaa.PAll Go.Proofs.Ytekppfjlmedhpaa.Opens Go.Proofs.Ytekppfjlmedhpaa.Wp

theorem PickFree : QPickFree.Pure := by
  intro ts js st _ _ hs
  have hl : st.length ≤ 140737488351232 := by omega
  refine Wp.rounds ?_
  simp only [dormouselaw14_PickFree.f]
  have key : ∀ b, ¬ (js.length : Int) = 0 → (b = false → per ts (rd_T45 js 0).f0 < 1099511627776) → Wp (fun k => dormouselaw14_PickFree.j0 k ts js st b) (fun x => x = true) := by
    intro b h0 hb
    refine Wp.succ ?_
    simp only [dormouselaw14_PickFree.j0]
    refine Wp.ite (fun _ => ans14b) (fun h => Wp.bindIs (choose_is ts js st 1099511627776 hl) (Wp.bindIs ans14 (Wp.yes rfl ?_)))
    have h1 := hb (by simpa using h)
    have e : who ts js st 1099511627776 = ((rd_T45 js 0).f0, true) := by
      unfold who
      rw [if_neg h0]
      by_cases g : (rd_T45 js 0).f5 = true
      · rw [if_pos g]
      · rw [if_neg g, if_pos h1]
    rw [e]
    exact Wp.yes rfl (Wp.yes (by omega) (Wp.now (by simp)))
  refine Wp.ite (fun _ => ans14b) (fun h => Wp.yes (by omega) (Wp.ite (fun g => Wp.ite (fun g1 => Wp.yes (by omega) (key _ h (fun hb => ?_))) (fun g1 => key _ h (fun _ => ?_))) (fun g => key _ h (fun _ => ?_))))
  · have := of_decide_eq_false hb
    unfold per
    rw [if_neg (by omega), if_neg (by omega)]
    omega
  · unfold per
    rw [if_neg (by omega), if_pos (by omega)]
    omega
  · unfold per
    rw [if_pos (by omega)]
    omega
end Go.Proofs.Ytekppfjlmedhpaa.Pure
