/- What the printed functions of chapter 5 answer, continued: an interval more (Add), and which place it is in. -/
import Derived.Test.YtfimgecceneagaaMeter
import Derived.Test.YtfimgecceneagaaArr
import Derived.Test.YtfimgecceneagaaPAllf12
import Derived.Test.YtfimgecceneagaaPAllf16
import Derived.Test.YtfimgecceneagaaPAllf17
import Derived.Test.YtfimgecceneagaaPAllf18
import Derived.Test.YtfimgecceneagaaPAllf19
namespace Go.Proofs.Ytfimgecceneagaa.Wp
open Go.RowKit Go.Proofs.YtfimgecceneagaaW.PrintWords Go.Proofs.Ytfimgecceneagaa.PAll Go.Proofs.Ytfimgecceneagaa.Arr

theorem small_tells (a b c d e f : Int) : ∃ x, dormouselaw05_small.f a b c d e f = some x ∧ (x = true → 0 ≤ c ∧ c ≤ 1073741824 ∧ 0 ≤ f ∧ f ≤ 1073741824) := by
  unfold dormouselaw05_small.f
  by_cases h : c ≥ 0
  case neg => exact ⟨false, if_neg h, fun g => by cases g⟩
  rw [if_pos h]
  by_cases h1 : c ≤ 1073741824
  case neg => exact ⟨false, if_neg h1, fun g => by cases g⟩
  rw [if_pos h1]
  by_cases h2 : f ≥ 0
  case neg => exact ⟨false, if_neg h2, fun g => by cases g⟩
  rw [if_pos h2]
  exact ⟨_, rfl, fun g => ⟨h, h1, h2, of_decide_eq_true g⟩⟩

/-- The four numbers, with n more at its kind's place. -/
def addR (kind n m0 m1 m2 m3 : Int) : Int × Int × Int × Int :=
  if kind = 1 then (wrap64 (m0 + n), m1, m2, m3) else if kind = 2 then (m0, wrap64 (m1 + n), m2, m3) else if kind = 3 then (m0, m1, wrap64 (m2 + n), m3)
  else if kind = 4 then (m0, m1, m2, wrap64 (m3 + n)) else if kind = 5 then (m0, m1, m2, wrap64 (m3 + n)) else if kind = 6 then (m0, m1, m2, wrap64 (m3 + n)) else (m0, m1, m2, m3)
theorem add_is (m0 m1 m2 m3 : Int) (ls : List S66) (ss : List S69) (ds : List S72) (idle crit sw swE sems hor kind from_ len arg task cyc : Int) :
    meter_Meter_Add.f m0 m1 m2 m3 ls ss ds idle crit sw swE sems hor kind from_ len arg task cyc = some (addR kind (ofW ls ss idle swE kind len arg cyc) m0 m1 m2 m3) := by
  unfold meter_Meter_Add.f addR
  rw [of_is, Option.bind_some]
  repeat' split
  all_goals rfl
theorem kinds {k : Int} (h0 : 1 ≤ k) (h1 : k ≤ 6) : k = 1 ∨ k = 2 ∨ k = 3 ∨ k = 4 ∨ k = 5 ∨ k = 6 := by omega
theorem add_up (kind n m0 m1 m2 m3 : Int) (h0 : 1 ≤ kind) (h1 : kind ≤ 6) : ∃ t, dormouseref01_Min.f (wrap64 (kind - 1)) 3 = some t ∧ (0 ≤ t ∧ t < 4) ∧
    addR kind n m0 m1 m2 m3 = (up 0 t m0 (wrap64 (rd4 m0 m1 m2 m3 t + n)), up 1 t m1 (wrap64 (rd4 m0 m1 m2 m3 t + n)), up 2 t m2 (wrap64 (rd4 m0 m1 m2 m3 t + n)), up 3 t m3 (wrap64 (rd4 m0 m1 m2 m3 t + n))) := by
  rcases kinds h0 h1 with rfl | rfl | rfl | rfl | rfl | rfl
  · exact ⟨0, by decide +kernel, by omega, rfl⟩
  · exact ⟨1, by decide +kernel, by omega, rfl⟩
  · exact ⟨2, by decide +kernel, by omega, rfl⟩
  · exact ⟨3, by decide +kernel, by omega, rfl⟩
  · exact ⟨3, by decide +kernel, by omega, rfl⟩
  · exact ⟨3, by decide +kernel, by omega, rfl⟩
theorem add_none (kind n m0 m1 m2 m3 : Int) (h : ¬ (1 ≤ kind ∧ kind ≤ 6)) : addR kind n m0 m1 m2 m3 = (m0, m1, m2, m3) := by
  unfold addR
  rw [if_neg (by omega), if_neg (by omega), if_neg (by omega), if_neg (by omega), if_neg (by omega), if_neg (by omega)]
end Go.Proofs.Ytfimgecceneagaa.Wp
