/- What the printed functions of chapter 22 (audit) answer: whether each job has ended in time. -/
import Derived.Test.YtahdadmibmgpmaaWp
import Derived.Test.YtahdadmibmgpmaaPAllf16
import Derived.Test.YtahdadmibmgpmaaPAllf17
namespace Go.Proofs.Ytahdadmibmgpmaa.Wp
open Go.RowKit Go.Proofs.YtahdadmibmgpmaaW.PrintWords Go.Proofs.Ytahdadmibmgpmaa.PAll

theorem drop_ev (l : List S53) (i : Int) (h0 : 0 ≤ i) (h1 : i < (l.length : Int)) : l.drop i.toNat = rd_T53 l i :: l.drop (i + 1).toNat := by
  have h : i.toNat < l.length := by omega
  have e : (i + 1).toNat = i.toNat + 1 := by omega
  rw [List.drop_eq_getElem_cons h, e]
  simp only [rd_T53, List.getD_eq_getElem?_getD, List.getElem?_eq_getElem h, Option.getD_some]
theorem drop_evEnd (l : List S53) (i : Int) (h : ¬ i < (l.length : Int)) : l.drop i.toNat = [] := List.drop_eq_nil_of_le (by omega)

theorem akept_is (l : List S53) (hl : l.length ≤ 9223372036854775000) : Wp (fun k => audit_Kept.f k l) (fun r => r = !l.any late) := by
  simp only [audit_Kept.f]
  have key : ∀ i : Int, (0 ≤ i ∧ i ≤ l.length ∧ (l.drop i.toNat).any late = l.any late) → Wp (fun k => audit_Kept.l0 k l i) (fun r => decide (0 ≤ r) = l.any late) := by
    refine Wp.loop (fun k i => audit_Kept.l0 k l i) _ (fun i => (l.length - i).toNat) _ ?_
    rintro i ⟨i0, i1, hs⟩ ih
    simp only [audit_Kept.l0]
    refine Wp.ite (fun hi => Wp.yes i0 ?_) (fun hi => Wp.now ?_)
    · rw [drop_ev l i i0 hi, List.any_cons] at hs
      refine Wp.ite (fun g => Wp.now ?_) (fun g => ?_)
      · rw [g, Bool.true_or] at hs
        rw [← hs, decide_eq_true i0]
      · simp only [Bool.not_eq_true] at g
        rw [g, Bool.false_or] at hs
        rw [wrap_id (by omega) (by omega)]
        exact ih (i + 1) ⟨by omega, by omega, hs⟩ (by omega)
    · rw [drop_evEnd l i hi] at hs
      rw [← hs]; rfl
  exact Wp.bind (key 0 ⟨by simp, by simp, by simp⟩) (fun r hr => Wp.now (by rw [← hr]))
theorem rkept_is (l : List S53) (hl : l.length ≤ 9223372036854775000) : Wp (fun k => dormouseref21_Kept.f k l) (fun r => r = !l.any late) := by
  simp only [dormouseref21_Kept.f]
  have key : ∀ i : Int, (0 ≤ i ∧ i ≤ l.length ∧ (l.drop i.toNat).any late = l.any late) → Wp (fun k => dormouseref21_Kept.l0 k l i) (fun r => r = !l.any late) := by
    refine Wp.loop (fun k i => dormouseref21_Kept.l0 k l i) _ (fun i => (l.length - i).toNat) _ ?_
    rintro i ⟨i0, i1, hs⟩ ih
    simp only [dormouseref21_Kept.l0]
    refine Wp.ite (fun hi => Wp.yes i0 ?_) (fun hi => Wp.now ?_)
    · rw [drop_ev l i i0 hi, List.any_cons] at hs
      have hw : wrap64 (i + 1) = i + 1 := wrap_id (by omega) (by omega)
      have yes : late (rd_T53 l i) = true → false = !l.any late := fun g => by
        rw [g, Bool.true_or] at hs
        rw [← hs]; rfl
      have no : late (rd_T53 l i) = false → Wp (fun k => dormouseref21_Kept.l0 k l (wrap64 (i + 1))) (fun r => r = !l.any late) := fun g => by
        rw [g, Bool.false_or] at hs
        rw [hw]
        exact ih (i + 1) ⟨by omega, by omega, hs⟩ (by omega)
      unfold late at yes no
      refine Wp.ite (fun g => Wp.ite (fun q => Wp.now (yes ?_)) (fun q => no ?_)) (fun g => Wp.ite (fun g' => Wp.ite (fun q => Wp.now (yes ?_)) (fun q => no ?_)) (fun g' => no ?_))
      · rw [beq_iff_eq.mpr g, decide_eq_true q]; rfl
      · rw [decide_eq_false q, Bool.and_false]
      · rw [beq_iff_eq.mpr g', decide_eq_true q, Bool.or_true]; rfl
      · rw [decide_eq_false q, Bool.and_false]
      · rw [beq_eq_false_iff_ne.mpr g, beq_eq_false_iff_ne.mpr g']; rfl
    · rw [drop_evEnd l i hi] at hs
      rw [← hs]; rfl
  exact key 0 ⟨by simp, by simp, by simp⟩
end Go.Proofs.Ytahdadmibmgpmaa.Wp
