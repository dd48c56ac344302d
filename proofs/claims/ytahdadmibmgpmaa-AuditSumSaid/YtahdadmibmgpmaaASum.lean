/- What any intervals cost, by the printed functions of chapters 5 (meter), 22 (audit). -/
import Derived.Test.YtahdadmibmgpmaaWp
import Derived.Test.YtahdadmibmgpmaaACom
import Derived.Test.YtahdadmibmgpmaaPAllf31
import Derived.Test.YtahdadmibmgpmaaPAllf25
import Derived.Test.YtahdadmibmgpmaaPAllf14
import Derived.Test.YtahdadmibmgpmaaPAllf15
namespace Go.Proofs.Ytahdadmibmgpmaa.Wp
open Go.RowKit Go.Proofs.YtahdadmibmgpmaaW.PrintWords Go.Proofs.Ytahdadmibmgpmaa.PAll

theorem wrap_zero : wrap64 0 = 0 := wrap_id (by omega) (by omega)

/-- What an interval costs. -/
def ofW (ls : List S45) (ss : List S48) (idle swE kind len arg cyc : Int) : Int :=
  if kind = 1 then (if 0 ≤ arg ∧ arg < (ls.length : Int) then wrap64 (cyc * (rd_T45 ls arg).f1) else 0)
  else if kind = 2 then wrap64 (len * idle)
  else if kind = 3 then swE
  else if kind = 4 then (if 0 ≤ arg ∧ arg < (ss.length : Int) then (rd_T48 ss arg).f3 else 0)
  else if kind = 5 then (if 0 ≤ arg ∧ arg < (ss.length : Int) then wrap64 (len * (rd_T48 ss arg).f0) else 0)
  else if kind = 6 then (if 0 ≤ arg ∧ arg < (ss.length : Int) then (rd_T48 ss arg).f4 else 0)
  else 0
theorem level_is (ls : List S45) (ss : List S48) (ds : List S51) (idle crit sw swE sems hor n : Int) : meter_level.f ls ss ds idle crit sw swE sems hor n = some (if 0 ≤ n ∧ n < (ls.length : Int) then ((rd_T45 ls n).f0, (rd_T45 ls n).f1) else (0, 0)) := by
  unfold meter_level.f
  by_cases h : n < 0
  · rw [if_pos h, if_neg (by omega)]
  rw [if_neg h]
  by_cases h1 : n ≥ (ls.length : Int)
  · rw [if_pos h1, if_neg (by omega)]
  · rw [if_neg h1, if_pos (by omega), if_pos (by omega), if_pos ⟨by omega, by omega⟩]
theorem sleep_is (ls : List S45) (ss : List S48) (ds : List S51) (idle crit sw swE sems hor n : Int) : meter_sleep.f ls ss ds idle crit sw swE sems hor n = some (if 0 ≤ n ∧ n < (ss.length : Int) then ((rd_T48 ss n).f0, (rd_T48 ss n).f1, (rd_T48 ss n).f2, (rd_T48 ss n).f3, (rd_T48 ss n).f4, (rd_T48 ss n).f5) else (0, 0, 0, 0, 0, 0)) := by
  unfold meter_sleep.f
  by_cases h : n < 0
  · rw [if_pos h, if_neg (by omega)]
  rw [if_neg h]
  by_cases h1 : n ≥ (ss.length : Int)
  · rw [if_pos h1, if_neg (by omega)]
  · rw [if_neg h1, if_pos (by omega), if_pos (by omega), if_pos ⟨by omega, by omega⟩]
theorem of_is (ls : List S45) (ss : List S48) (ds : List S51) (idle crit sw swE sems hor kind from_ len arg task cyc : Int) : meter_Of.f ls ss ds idle crit sw swE sems hor kind from_ len arg task cyc = some (ofW ls ss idle swE kind len arg cyc) := by
  unfold meter_Of.f ofW
  rw [level_is, sleep_is]
  simp only [Option.bind_some]
  by_cases h1 : kind = 1
  · rw [if_pos h1, if_pos h1]
    by_cases g : 0 ≤ arg ∧ arg < (ls.length : Int)
    · rw [if_pos g, if_pos g]
    · rw [if_neg g, if_neg g, Int.mul_zero, wrap_zero]
  rw [if_neg h1, if_neg h1]
  by_cases h2 : kind = 2
  · rw [if_pos h2, if_pos h2]
  rw [if_neg h2, if_neg h2]
  by_cases h3 : kind = 3
  · rw [if_pos h3, if_pos h3]
  rw [if_neg h3, if_neg h3]
  by_cases g : 0 ≤ arg ∧ arg < (ss.length : Int)
  · simp only [if_pos g]
    repeat' split
    all_goals rfl
  · simp only [if_neg g, Int.mul_zero, wrap_zero]
    repeat' split
    all_goals rfl
theorem energy_is (ls : List S45) (ss : List S48) (ds : List S51) (idle crit sw swE sems hor kind from_ len arg task cyc : Int) : Wp (fun k => dormouseref01_Energy.f k ls ss ds idle crit sw swE sems hor kind from_ len arg task cyc) (fun r => r = ofW ls ss idle swE kind len arg cyc) := by
  simp only [dormouseref01_Energy.f]
  have key : ∀ b, b = decide (0 ≤ arg ∧ arg < (ss.length : Int)) → Wp (fun k => dormouseref01_Energy.j0 k b ls ss ds idle crit sw swE sems hor kind from_ len arg task cyc) (fun r => r = ofW ls ss idle swE kind len arg cyc) := by
    intro b hb
    refine Wp.succ ?_
    simp only [dormouseref01_Energy.j0]
    unfold ofW
    refine Wp.ite (fun h1 => ?_) (fun h1 => ?_)
    · refine Wp.ite (fun g => Wp.ite (fun g1 => Wp.yes (by omega) (Wp.now ?_)) (fun g1 => Wp.now ?_)) (fun g => Wp.now ?_)
      · rw [if_pos h1, if_pos ⟨g, g1⟩]
      · rw [if_pos h1, if_neg (by omega)]
      · rw [if_pos h1, if_neg (by omega)]
    refine Wp.ite (fun h2 => Wp.now ?_) (fun h2 => ?_)
    · rw [if_neg h1, if_pos h2]
    refine Wp.ite (fun h3 => Wp.now ?_) (fun h3 => ?_)
    · rw [if_neg h1, if_neg h2, if_pos h3]
    simp only [if_neg h1, if_neg h2, if_neg h3]
    by_cases g : 0 ≤ arg ∧ arg < (ss.length : Int)
    · rw [decide_eq_true g] at hb
      subst hb
      refine Wp.ite (fun h4 => Wp.yes rfl (Wp.inside g.1 g.2 (Wp.now ?_))) (fun h4 => Wp.ite (fun h5 => Wp.yes rfl (Wp.inside g.1 g.2 (Wp.now ?_))) (fun h5 => Wp.ite (fun h6 => Wp.yes rfl (Wp.inside g.1 g.2 (Wp.now ?_))) (fun h6 => Wp.now ?_)))
      · rw [if_pos h4, if_pos g]
      · rw [if_neg h4, if_pos h5, if_pos g]
      · rw [if_neg h4, if_neg h5, if_pos h6, if_pos g]
      · rw [if_neg h4, if_neg h5, if_neg h6]
    · rw [decide_eq_false g] at hb
      subst hb
      refine Wp.ite (fun h4 => Wp.no (by simp) (Wp.now ?_)) (fun h4 => Wp.ite (fun h5 => Wp.no (by simp) (Wp.now ?_)) (fun h5 => Wp.ite (fun h6 => Wp.no (by simp) (Wp.now ?_)) (fun h6 => Wp.now ?_)))
      · rw [if_pos h4, if_neg g]
      · rw [if_neg h4, if_pos h5, if_neg g]
      · rw [if_neg h4, if_neg h5, if_pos h6, if_neg g]
      · rw [if_neg h4, if_neg h5, if_neg h6]
  refine Wp.ite (fun h => key _ ?_) (fun h => key _ ?_)
  · by_cases g : arg < (ss.length : Int)
    · rw [decide_eq_true g, decide_eq_true ⟨by omega, g⟩]
    · rw [decide_eq_false g, decide_eq_false (fun h => g h.2)]
  · rw [decide_eq_false (fun g => h g.1)]

/-- One interval more in the four sums. -/
def stepV (ls : List S45) (ss : List S48) (idle swE : Int) (x : S33) (m : Int × Int × Int × Int) : Int × Int × Int × Int :=
  if x.f0 = 1 then (wrap64 (m.1 + ofW ls ss idle swE x.f0 x.f2 x.f3 x.f5), m.2.1, m.2.2.1, m.2.2.2)
  else if x.f0 = 2 then (m.1, wrap64 (m.2.1 + ofW ls ss idle swE x.f0 x.f2 x.f3 x.f5), m.2.2.1, m.2.2.2)
  else if x.f0 = 3 then (m.1, m.2.1, wrap64 (m.2.2.1 + ofW ls ss idle swE x.f0 x.f2 x.f3 x.f5), m.2.2.2)
  else if x.f0 = 4 then (m.1, m.2.1, m.2.2.1, wrap64 (m.2.2.2 + ofW ls ss idle swE x.f0 x.f2 x.f3 x.f5))
  else if x.f0 = 5 then (m.1, m.2.1, m.2.2.1, wrap64 (m.2.2.2 + ofW ls ss idle swE x.f0 x.f2 x.f3 x.f5))
  else if x.f0 = 6 then (m.1, m.2.1, m.2.2.1, wrap64 (m.2.2.2 + ofW ls ss idle swE x.f0 x.f2 x.f3 x.f5))
  else m
def sumV (ls : List S45) (ss : List S48) (idle swE : Int) : List S33 → Int × Int × Int × Int → Int × Int × Int × Int
  | [], m => m
  | x :: l, m => sumV ls ss idle swE l (stepV ls ss idle swE x m)
section
variable (ls : List S45) (ss : List S48) (ds : List S51) (idle crit sw swE sems hor : Int)
theorem add_is (m : Int × Int × Int × Int) (x : S33) : meter_Meter_Add.f m.1 m.2.1 m.2.2.1 m.2.2.2 ls ss ds idle crit sw swE sems hor x.f0 x.f1 x.f2 x.f3 x.f4 x.f5 = some (stepV ls ss idle swE x m) := by
  unfold meter_Meter_Add.f stepV
  rw [of_is]
  simp only [Option.bind_some]
  repeat' split
  all_goals rfl
theorem asum_is (l : List S33) (hl : l.length ≤ 9223372036854775000) : Wp (fun k => audit_Sum.f k ls ss ds idle crit sw swE sems hor l) (fun r => r = sumV ls ss idle swE l (0, 0, 0, 0)) := by
  simp only [audit_Sum.f]
  have key : ∀ s : Int × Int × Int × Int × Int, (0 ≤ s.1 ∧ s.1 ≤ l.length ∧ sumV ls ss idle swE (l.drop s.1.toNat) s.2 = sumV ls ss idle swE l (0, 0, 0, 0)) → Wp (fun k => audit_Sum.l0 k l (l.length : Int) s.1 ls ss ds idle crit sw swE sems hor s.2.1 s.2.2.1 s.2.2.2.1 s.2.2.2.2) (fun r => r = sumV ls ss idle swE l (0, 0, 0, 0)) := by
    refine Wp.loop (fun k (s : Int × Int × Int × Int × Int) => audit_Sum.l0 k l (l.length : Int) s.1 ls ss ds idle crit sw swE sems hor s.2.1 s.2.2.1 s.2.2.2.1 s.2.2.2.2) _ (fun s => (l.length - s.1).toNat) _ ?_
    rintro ⟨i, m⟩ ⟨i0, i1, hs⟩ ih
    simp only at i0 i1 hs ih ⊢
    simp only [audit_Sum.l0]
    refine Wp.ite (fun hi => Wp.inside i0 hi ?_) (fun hi => Wp.now ?_)
    · have hw : wrap64 (i + 1) = i + 1 := wrap_id (by omega) (by omega)
      rw [drop_rd l i i0 hi, sumV] at hs
      refine Wp.bindIs (add_is ls ss ds idle crit sw swE sems hor m (rd_T33 l i)) ?_
      rw [hw]
      exact ih (i + 1, stepV ls ss idle swE (rd_T33 l i) m) ⟨by simp only; omega, by simp only; omega, hs⟩ (by simp only; omega)
    · rw [drop_end l i hi, sumV] at hs
      exact hs
  exact key (0, 0, 0, 0, 0) ⟨by simp, by simp, by simp⟩
theorem rsum_is (l : List S33) (hl : l.length ≤ 9223372036854775000) : Wp (fun k => dormouseref21_Sum.f k ls ss ds idle crit sw swE sems hor l) (fun r => r = sumV ls ss idle swE l (0, 0, 0, 0)) := by
  simp only [dormouseref21_Sum.f]
  have key : ∀ s : Int × Int × Int × Int × Int, (0 ≤ s.1 ∧ s.1 ≤ l.length ∧ sumV ls ss idle swE (l.drop s.1.toNat) s.2 = sumV ls ss idle swE l (0, 0, 0, 0)) → Wp (fun k => dormouseref21_Sum.l0 k l s.1 ls ss ds idle crit sw swE sems hor s.2.1 s.2.2.1 s.2.2.2.1 s.2.2.2.2) (fun r => r = sumV ls ss idle swE l (0, 0, 0, 0)) := by
    refine Wp.loop (fun k (s : Int × Int × Int × Int × Int) => dormouseref21_Sum.l0 k l s.1 ls ss ds idle crit sw swE sems hor s.2.1 s.2.2.1 s.2.2.2.1 s.2.2.2.2) _ (fun s => (l.length - s.1).toNat) _ ?_
    rintro ⟨i, m⟩ ⟨i0, i1, hs⟩ ih
    simp only at i0 i1 hs ih ⊢
    simp only [dormouseref21_Sum.l0]
    refine Wp.ite (fun hi => Wp.yes i0 ?_) (fun hi => Wp.now ?_)
    · have hw : wrap64 (i + 1) = i + 1 := wrap_id (by omega) (by omega)
      rw [drop_rd l i i0 hi, sumV] at hs
      have go : ∀ m', m' = stepV ls ss idle swE (rd_T33 l i) m → Wp (fun k => dormouseref21_Sum.l0 k l (wrap64 (i + 1)) ls ss ds idle crit sw swE sems hor m'.1 m'.2.1 m'.2.2.1 m'.2.2.2) (fun r => r = sumV ls ss idle swE l (0, 0, 0, 0)) := by
        rintro m' rfl
        rw [hw]
        exact ih (i + 1, stepV ls ss idle swE (rd_T33 l i) m) ⟨by simp only; omega, by simp only; omega, hs⟩ (by simp only; omega)
      refine Wp.bind (energy_is ls ss ds idle crit sw swE sems hor _ _ _ _ _ _) (fun n hn => ?_)
      unfold stepV at go
      rw [← hn] at go
      refine Wp.ite (fun h1 => go (wrap64 (m.1 + n), m.2.1, m.2.2.1, m.2.2.2) ?_) (fun h1 => Wp.ite (fun h2 => go (m.1, wrap64 (m.2.1 + n), m.2.2.1, m.2.2.2) ?_) (fun h2 => Wp.ite (fun h3 => go (m.1, m.2.1, wrap64 (m.2.2.1 + n), m.2.2.2) ?_) (fun h3 => Wp.ite (fun h4 => go (m.1, m.2.1, m.2.2.1, wrap64 (m.2.2.2 + n)) ?_) (fun h4 => Wp.ite (fun h5 => go (m.1, m.2.1, m.2.2.1, wrap64 (m.2.2.2 + n)) ?_) (fun h5 => Wp.ite (fun h6 => go (m.1, m.2.1, m.2.2.1, wrap64 (m.2.2.2 + n)) ?_) (fun h6 => go m ?_))))))
      · rw [if_pos h1]
      · rw [if_neg h1, if_pos h2]
      · rw [if_neg h1, if_neg h2, if_pos h3]
      · rw [if_neg h1, if_neg h2, if_neg h3, if_pos h4]
      · rw [if_neg h1, if_neg h2, if_neg h3, if_neg h4, if_pos h5]
      · rw [if_neg h1, if_neg h2, if_neg h3, if_neg h4, if_neg h5, if_pos h6]
      · rw [if_neg h1, if_neg h2, if_neg h3, if_neg h4, if_neg h5, if_neg h6]
    · rw [drop_end l i hi, sumV] at hs
      exact hs
  exact key (0, 0, 0, 0, 0) ⟨by simp, by simp, by simp⟩
end
end Go.Proofs.Ytahdadmibmgpmaa.Wp
