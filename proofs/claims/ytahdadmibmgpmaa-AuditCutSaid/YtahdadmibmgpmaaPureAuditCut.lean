/- AuditCut, over the printed functions: at all arguments the law answers true. No condition. -/
import Derived.Test.YtahdadmibmgpmaaQAuditCut
import Derived.Test.YtahdadmibmgpmaaAudit
import Derived.Test.YtahdadmibmgpmaaAParts
namespace Go.Proofs.Ytahdadmibmgpmaa.Pure
open Go.RowKit Go.Proofs.YtahdadmibmgpmaaW.PrintWords Go.Proofs.Ytahdadmibmgpmaa.PAll Go.Proofs.Ytahdadmibmgpmaa.Opens Go.Proofs.Ytahdadmibmgpmaa.Wp

theorem AuditCut : QAuditCut.Pure := by
  intro ls ss ds idle crit sw swE sems hor l en n _ hl _ hn
  have hl : l.length ≤ 140737488351232 := by omega
  have hl2 : l.length ≤ 9223372036854775000 := by omega
  have hn : 0 ≤ n ∧ n ≤ 255 := by
    simp only [Lit.wf, Bool.and_eq_true, decide_eq_true_eq] at hn
    have h1 : IntKind.min .u8 = 0 := by decide
    have h2 : IntKind.max .u8 = 255 := by decide
    rw [h1, h2] at hn; exact hn
  refine Wp.rounds ?_
  simp only [dormouselaw22_AuditCut.f]
  have no : Wp (fun k => dormouselaw22_AuditCut.j0 k l en n true ls ss ds idle crit sw swE sems hor) (fun x => x = true) := by
    refine Wp.succ ?_
    simp only [dormouselaw22_AuditCut.j0]
    exact Wp.yes (by simp) ans22b
  refine Wp.bind (table_tells ls ss ds idle crit sw swE sems hor) (fun t _ => Wp.ite (fun _ => Wp.bind (near22 l _ hl2) (fun _ _ => Wp.ite (fun _ => Wp.ite (fun _ => no) (fun h0 => Wp.bind (aparts_is ls ss ds idle crit sw swE sems hor l en hl2) (fun p hp => ?_))) (fun _ => no))) (fun _ => no))
  cases p with
  | false => exact no
  | true =>
    have hp := hp.symm
    refine Wp.succ ?_
    simp only [dormouselaw22_AuditCut.j0]
    have hw : wrap64 n = n := wrap_id (by omega) (by omega)
    rw [hw]
    have e0 : Int.tmod n (l.length : Int) = n % (l.length : Int) := Int.tmod_eq_emod_of_nonneg hn.1
    rw [e0]
    have m0 : 0 ≤ n % (l.length : Int) := Int.emod_nonneg _ h0
    have m1 : n % (l.length : Int) < (l.length : Int) := Int.emod_lt_of_pos _ (by omega)
    generalize n % (l.length : Int) = at_ at m0 m1 ⊢
    refine Wp.no (by simp) (Wp.no h0 (Wp.bind ans22 (fun t ht => Wp.yes ht (Wp.inside m0 (by omega) (Wp.yes m1 ?_)))))
    have hlen : (l.take at_.toNat).length ≤ 9223372036854775000 := by rw [List.length_take]; omega
    refine Wp.bind (aparts_is ls ss ds idle crit sw swE sems hor (l.take at_.toNat) (rd_T33 l at_).f1 hlen) (fun q hq => Wp.yes ?_ (Wp.bind (aparts_is ls ss ds idle crit sw swE sems hor l _ hl2) (fun r hr => Wp.now ?_)))
    · have h := parts_cut ls ss sw l 0 en at_.toNat (by omega) hp
      have e : (l[at_.toNat]) = rd_T33 l at_ := by
        simp only [rd_T33, List.getD_eq_getElem?_getD, List.getElem?_eq_getElem (show at_.toNat < l.length by omega), Option.getD_some]
      rw [e] at h
      rw [hq]; exact h
    · cases r with
      | false => rfl
      | true => exact absurd (parts_one ls ss sw l 0 _ _ hp hr.symm).symm (xor_ne en)

end Go.Proofs.Ytahdadmibmgpmaa.Pure
