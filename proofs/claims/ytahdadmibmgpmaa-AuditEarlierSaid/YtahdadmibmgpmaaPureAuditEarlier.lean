/- AuditEarlier, over the printed functions: at all arguments the law answers true. No condition. -/
import Derived.Test.YtahdadmibmgpmaaQAuditEarlier
import Derived.Test.YtahdadmibmgpmaaAudit
import Derived.Test.YtahdadmibmgpmaaAKept
import Derived.Test.YtahdadmibmgpmaaATake
namespace Go.Proofs.Ytahdadmibmgpmaa.Pure
open Go.RowKit Go.Proofs.YtahdadmibmgpmaaW.PrintWords Go.Proofs.Ytahdadmibmgpmaa.PAll Go.Proofs.Ytahdadmibmgpmaa.Opens Go.Proofs.Ytahdadmibmgpmaa.Wp

theorem AuditEarlier : QAuditEarlier.Pure := by
  intro ls ss ds idle crit sw swE sems hor l e n _ hl he hn
  have hl : l.length ≤ 140737488351232 := by omega
  have he : e.length ≤ 140737488351232 := by omega
  have hl2 : l.length ≤ 9223372036854775000 := by omega
  have he2 : e.length ≤ 9223372036854775000 := by omega
  have hn : 0 ≤ n ∧ n ≤ 255 := by
    simp only [Lit.wf, Bool.and_eq_true, decide_eq_true_eq] at hn
    have h1 : IntKind.min .u8 = 0 := by decide
    have h2 : IntKind.max .u8 = 255 := by decide
    rw [h1, h2] at hn; exact hn
  refine Wp.rounds ?_
  simp only [dormouselaw22_AuditEarlier.f]
  have key : ∀ b, Wp (fun k => dormouselaw22_AuditEarlier.j0 k l e n b ls ss ds idle crit sw swE sems hor) (fun x => x = true) := by
    intro b
    refine Wp.succ ?_
    simp only [dormouselaw22_AuditEarlier.j0]
    have w1 : wrap64 n = n := wrap_id (by omega) (by omega)
    have w2 : wrap64 ((l.length : Int) + 1) = (l.length : Int) + 1 := wrap_id (by omega) (by omega)
    have w3 : wrap64 ((e.length : Int) + 1) = (e.length : Int) + 1 := wrap_id (by omega) (by omega)
    have e1 : Int.tmod n ((l.length : Int) + 1) = n % ((l.length : Int) + 1) := Int.tmod_eq_emod_of_nonneg hn.1
    have e2 : Int.tmod n ((e.length : Int) + 1) = n % ((e.length : Int) + 1) := Int.tmod_eq_emod_of_nonneg hn.1
    rw [w1, w2, w3, e1, e2]
    have m0 : 0 ≤ n % ((l.length : Int) + 1) := Int.emod_nonneg _ (by omega)
    have m1 : n % ((l.length : Int) + 1) < (l.length : Int) + 1 := Int.emod_lt_of_pos _ (by omega)
    have m2 : 0 ≤ n % ((e.length : Int) + 1) := Int.emod_nonneg _ (by omega)
    have m3 : n % ((e.length : Int) + 1) < (e.length : Int) + 1 := Int.emod_lt_of_pos _ (by omega)
    generalize n % ((l.length : Int) + 1) = p at m0 m1 ⊢
    generalize n % ((e.length : Int) + 1) = q at m2 m3 ⊢
    have hp : (l.take p.toNat).length ≤ 9223372036854775000 := by rw [List.length_take]; omega
    have hq : (e.take q.toNat).length ≤ 9223372036854775000 := by rw [List.length_take]; omega
    have kept : (e.any late = false) → Wp (fun k => (audit_Kept.f k (e.take q.toNat)).bind fun t => some t) (fun x => x = true) := by
      intro h
      refine Wp.bind (akept_is (e.take q.toNat) hq) (fun t ht => Wp.now ?_)
      rw [ht]
      have : (e.take q.toNat).any late = false := by
        rw [List.any_eq_false] at h ⊢
        exact fun x hx => h x (List.mem_of_mem_take hx)
      rw [this]; rfl
    have last : Wp (fun k => (audit_Kept.f k e).bind fun t317 => (if t317 = true then (if 0 ≤ q then (if q ≤ (e.length : Int) then ((audit_Kept.f k (e.take (q : Int).toNat)).bind fun t322 => (some t322)) else (none)) else (none)) else (some true))) (fun x => x = true) := by
      refine Wp.bind (akept_is e he2) (fun t ht => Wp.ite (fun h => Wp.inside m2 (by omega) (kept ?_)) (fun _ => Wp.now rfl))
      rw [ht] at h; simpa using h
    refine Wp.ite (fun _ => ans22b) (fun _ => Wp.no (by omega) (Wp.no (by omega) (Wp.bind ans22 (fun t ht => Wp.yes ht ?_))))
    refine Wp.bind (aslept_is ls ss ds idle crit sw swE sems hor l hl2) (fun t ht => Wp.ite (fun h => Wp.inside m0 (by omega) ?_) (fun _ => last))
    refine Wp.bind (aslept_is ls ss ds idle crit sw swE sems hor (l.take p.toNat) hp) (fun r hr => Wp.yes ?_ last)
    rw [hr]
    exact s_take ss l.length l p.toNat (Nat.le_refl _) (by rw [← ht]; exact h)
  exact Wp.bind (table_tells ls ss ds idle crit sw swE sems hor) (fun t _ => Wp.ite (fun _ => Wp.bind (near22 l _ hl2) (fun _ _ => key _)) (fun _ => key _))
end Go.Proofs.Ytahdadmibmgpmaa.Pure
