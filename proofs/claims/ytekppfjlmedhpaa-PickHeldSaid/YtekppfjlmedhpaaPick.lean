/- What the printed functions of chapter 14 (pick) answer. -/
import Derived.Test.YtekppfjlmedhpaaWp
import Derived.Test.YtekppfjlmedhpaaPAllx11
namespace Go.Proofs.Ytekppfjlmedhpaa.Wp
open Go.RowKit Go.Proofs.YtekppfjlmedhpaaW.PrintWords Go.Proofs.YtekppfjlmedhpaaW.PrintMore Go.Proofs.Ytekppfjlmedhpaa.PAll

theorem ans14 : dormouselaw14_answers.f = some true := by decide +kernel
theorem ans14b : Wp (fun _ => (dormouselaw14_answers.f).bind fun t => some t) (fun b => b = true) := Wp.bindIs ans14 (Wp.now rfl)

def per (ts : List S47) (n : Int) : Int := if n < 0 then 0 else if n ≥ (ts.length : Int) then 0 else (rd_T47 ts n).f0
theorem period_is (ts : List S47) (n : Int) : pick_period.f ts n = some (per ts n) := by
  unfold pick_period.f per
  by_cases h : n < 0
  · rw [if_pos h, if_pos h]
  rw [if_neg h, if_neg h]
  by_cases h1 : n ≥ (ts.length : Int)
  · rw [if_pos h1, if_pos h1]
  rw [if_neg h1, if_neg h1, if_pos (by omega), if_pos (by omega)]

/-- Who runs. -/
def who (ts : List S47) (js : List S45) (st : List Int) (c : Int) : Int × Bool :=
  if (js.length : Int) = 0 then (0, false) else if (rd_T45 js 0).f5 = true then ((rd_T45 js 0).f0, true) else if per ts (rd_T45 js 0).f0 < c then ((rd_T45 js 0).f0, true) else if (st.length : Int) = 0 then ((rd_T45 js 0).f0, true) else (rd st ((st.length : Int) - 1), true)
theorem choose_is (ts : List S47) (js : List S45) (st : List Int) (c : Int) (hs : st.length ≤ 140737488351232) : pick_Choose.f ts js st c = some (who ts js st c) := by
  unfold pick_Choose.f who
  by_cases h : (js.length : Int) = 0
  · rw [if_pos h, if_pos h]
  rw [if_neg h, if_neg h, if_pos (by omega)]
  by_cases h1 : (rd_T45 js 0).f5 = true
  · rw [if_pos h1, if_pos h1]
  rw [if_neg h1, if_neg h1, period_is]
  simp only [Option.bind_some]
  by_cases h2 : per ts (rd_T45 js 0).f0 < c
  · rw [if_pos h2, if_pos h2]
  rw [if_neg h2, if_neg h2]
  by_cases h3 : (st.length : Int) = 0
  · rw [if_pos h3, if_pos h3]
  rw [if_neg h3, if_neg h3, wrap_id (by omega) (by omega), if_pos (by omega), if_pos (by omega)]
theorem chooseR_is (ts : List S47) (js : List S45) (st : List Int) (c : Int) (hs : st.length ≤ 140737488351232) : Wp (fun k => dormouseref09_Choose.f k ts js st c) (fun r => r = who ts js st c) := by
  simp only [dormouseref09_Choose.f]
  refine Wp.ite (fun h => Wp.now (by unfold who; rw [if_pos h])) (fun h => Wp.yes (by omega) ?_)
  have e : who ts js st c = if (rd_T45 js 0).f5 = true then ((rd_T45 js 0).f0, true) else if per ts (rd_T45 js 0).f0 < c then ((rd_T45 js 0).f0, true) else if (st.length : Int) = 0 then ((rd_T45 js 0).f0, true) else (rd st ((st.length : Int) - 1), true) := by unfold who; rw [if_neg h]
  have key : ∀ b, b = decide (0 ≤ (rd_T45 js 0).f0 ∧ (rd_T45 js 0).f0 < (ts.length : Int)) → Wp (fun k => dormouseref09_Choose.j0 k ts js st c 0 b) (fun r => r = who ts js st c) := by
    intro b hb
    refine Wp.succ ?_
    simp only [dormouseref09_Choose.j0]
    have w : ∀ p : Int, p = per ts (rd_T45 js 0).f0 → Wp (fun _ => if (rd_T45 js 0).f5 = true then some ((rd_T45 js 0).f0, true) else if (st.length : Int) = 0 then some ((rd_T45 js 0).f0, true) else if p < c then some ((rd_T45 js 0).f0, true) else if 0 ≤ wrap64 ((st.length : Int) - 1) then (if wrap64 ((st.length : Int) - 1) < (st.length : Int) then some (rd st (wrap64 ((st.length : Int) - 1)), true) else none) else none) (fun r => r = who ts js st c) := by
      intro p hp
      subst hp
      refine Wp.ite (fun g => Wp.now (by rw [e, if_pos g])) (fun g => Wp.ite (fun g1 => Wp.now ?_) (fun g1 => Wp.ite (fun g2 => Wp.now (by rw [e, if_neg g, if_pos g2])) (fun g2 => ?_)))
      · rw [e, if_neg g]
        by_cases g2 : per ts (rd_T45 js 0).f0 < c
        · rw [if_pos g2]
        · rw [if_neg g2, if_pos g1]
      · rw [wrap_id (by omega) (by omega)]
        exact Wp.inside (by omega) (by omega) (Wp.now (by rw [e, if_neg g, if_neg g2, if_neg g1]))
    refine Wp.ite (fun hbt => ?_) (fun hbf => ?_)
    · rw [hb] at hbt
      have := of_decide_eq_true hbt
      refine Wp.yes (by omega) (Wp.inside this.1 this.2 (w _ ?_))
      unfold per
      rw [if_neg (by omega), if_neg (by omega)]
    · have hbf : ¬ (0 ≤ (rd_T45 js 0).f0 ∧ (rd_T45 js 0).f0 < (ts.length : Int)) := fun hh => hbf (by rw [hb]; exact decide_eq_true hh)
      refine Wp.yes (by omega) (w 0 ?_)
      unfold per
      by_cases h1 : (rd_T45 js 0).f0 < 0
      · rw [if_pos h1]
      · rw [if_neg h1, if_pos (by omega)]
  refine Wp.ite (fun h1 => key _ ?_) (fun h1 => key _ ?_)
  · by_cases h2 : (rd_T45 js 0).f0 < (ts.length : Int)
    · rw [decide_eq_true h2, decide_eq_true ⟨by omega, h2⟩]
    · rw [decide_eq_false h2, decide_eq_false (fun hh => h2 hh.2)]
  · rw [decide_eq_false (fun hh => h1 hh.1)]
end Go.Proofs.Ytekppfjlmedhpaa.Wp
