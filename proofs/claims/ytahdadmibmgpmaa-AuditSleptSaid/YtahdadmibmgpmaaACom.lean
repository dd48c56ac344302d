/- Small words of the plain laws of chapter 22 (audit). -/
import Derived.Test.YtahdadmibmgpmaaWp
import Derived.Test.YtahdadmibmgpmaaPAllf28
namespace Go.Proofs.Ytahdadmibmgpmaa.Wp
open Go.RowKit Go.Proofs.YtahdadmibmgpmaaW.PrintWords Go.Proofs.Ytahdadmibmgpmaa.PAll

def inn (n : Nat) (a : Int) : Bool := decide (0 ≤ a) && decide (a < (n : Int))
theorem inn_yes {n : Nat} {a : Int} (h : inn n a = true) : 0 ≤ a ∧ a < (n : Int) := by
  unfold inn at h; simp only [Bool.and_eq_true, decide_eq_true_eq] at h; exact h
theorem astate_is (ls : List S45) (ss : List S48) (ds : List S51) (idle crit sw swE sems hor n : Int) : audit_state.f ls ss ds idle crit sw swE sems hor n = some (inn ss.length n) := by
  unfold audit_state.f inn
  by_cases h : n ≥ 0
  · rw [if_pos h, decide_eq_true (p := 0 ≤ n) h, Bool.true_and]
  · rw [if_neg h, decide_eq_false (p := 0 ≤ n) h, Bool.false_and]
theorem drop_rd (l : List S33) (i : Int) (h0 : 0 ≤ i) (h1 : i < (l.length : Int)) : l.drop i.toNat = rd_T33 l i :: l.drop (i + 1).toNat := by
  have h : i.toNat < l.length := by omega
  have e : (i + 1).toNat = i.toNat + 1 := by omega
  rw [List.drop_eq_getElem_cons h, e]
  simp only [rd_T33, List.getD_eq_getElem?_getD, List.getElem?_eq_getElem h, Option.getD_some]
theorem drop_end (l : List S33) (i : Int) (h : ¬ i < (l.length : Int)) : l.drop i.toNat = [] := List.drop_eq_nil_of_le (by omega)
end Go.Proofs.Ytahdadmibmgpmaa.Wp
