/- What the printed functions of chapter 22 (audit) answer: whether intervals are all that there is. -/
import Derived.Test.YtahdadmibmgpmaaACom
import Derived.Test.YtahdadmibmgpmaaPAllf12
namespace Go.Proofs.Ytahdadmibmgpmaa.Wp
open Go.RowKit Go.Proofs.YtahdadmibmgpmaaW.PrintWords Go.Proofs.Ytahdadmibmgpmaa.PAll

/-- Is an interval as long as it should be? -/
def longV (ls : List S45) (ss : List S48) (sw : Int) (x : S33) : Bool :=
  if x.f0 = 1 then (inn ls.length x.f3 && x.f2 == wrap64 (x.f5 * (rd_T45 ls x.f3).f0))
  else if x.f0 = 2 then true
  else if x.f0 = 3 then (inn ls.length x.f3 && x.f2 == sw)
  else if x.f0 = 4 then (inn ss.length x.f3 && x.f2 == (rd_T48 ss x.f3).f1)
  else if x.f0 = 5 then inn ss.length x.f3
  else if x.f0 = 6 then (inn ss.length x.f3 && x.f2 == (rd_T48 ss x.f3).f2)
  else false
theorem alevel_is (ls : List S45) (ss : List S48) (ds : List S51) (idle crit sw swE sems hor n : Int) : audit_level.f ls ss ds idle crit sw swE sems hor n = some (inn ls.length n) := by
  unfold audit_level.f inn
  by_cases h : n ≥ 0
  · rw [if_pos h, decide_eq_true (p := 0 ≤ n) h, Bool.true_and]
  · rw [if_neg h, decide_eq_false (p := 0 ≤ n) h, Bool.false_and]
theorem long_is (ls : List S45) (ss : List S48) (ds : List S51) (idle crit sw swE sems hor : Int) (x : S33) : audit_long.f ls ss ds idle crit sw swE sems hor x.f0 x.f1 x.f2 x.f3 x.f4 x.f5 = some (longV ls ss sw x) := by
  unfold audit_long.f longV
  rw [alevel_is, astate_is]
  simp only [Option.bind_some]
  have e : ∀ (n : Nat) (b : Bool), (if inn n x.f3 = true then (if 0 ≤ x.f3 then (if x.f3 < (n : Int) then some b else none) else none) else some false) = some (inn n x.f3 && b) := by
    intro n b
    by_cases h : inn n x.f3 = true
    · rw [if_pos h, if_pos (inn_yes h).1, if_pos (inn_yes h).2, h, Bool.true_and]
    · rw [if_neg h]; simp only [Bool.not_eq_true] at h; rw [h, Bool.false_and]
  have e' : ∀ (n : Nat) (b : Bool), (if inn n x.f3 = true then some b else some false) = some (inn n x.f3 && b) := by
    intro n b
    cases inn n x.f3 <;> rfl
  simp only [e, e']
  repeat' split
  all_goals rfl
/-- Are intervals all that there is, one behind the other? -/
def partsV (ls : List S45) (ss : List S48) (sw : Int) : List S33 → Int → Int → Bool
  | [], a, e => a == e
  | x :: l, a, e => decide (x.f1 = a) && decide (0 ≤ x.f2) && longV ls ss sw x && partsV ls ss sw l (wrap64 (a + x.f2)) e
theorem aparts_is (ls : List S45) (ss : List S48) (ds : List S51) (idle crit sw swE sems hor : Int) (l : List S33) (en : Int) (hl : l.length ≤ 9223372036854775000) : Wp (fun k => audit_Parts.f k ls ss ds idle crit sw swE sems hor l en) (fun r => r = partsV ls ss sw l 0 en) := by
  simp only [audit_Parts.f]
  have key : ∀ s : Int × Int, (0 ≤ s.2 ∧ s.2 ≤ l.length ∧ partsV ls ss sw (l.drop s.2.toNat) s.1 en = partsV ls ss sw l 0 en) → Wp (fun k => audit_Parts.l0 k en s.1 l (l.length : Int) s.2 ls ss ds idle crit sw swE sems hor) (fun r => r = partsV ls ss sw l 0 en) := by
    refine Wp.loop (fun k (s : Int × Int) => audit_Parts.l0 k en s.1 l (l.length : Int) s.2 ls ss ds idle crit sw swE sems hor) _ (fun s => (l.length - s.2).toNat) _ ?_
    rintro ⟨a, i⟩ ⟨i0, i1, hs⟩ ih
    simp only at i0 i1 hs ih ⊢
    simp only [audit_Parts.l0]
    refine Wp.ite (fun hi => Wp.inside i0 hi ?_) (fun hi => Wp.now ?_)
    · have hw : wrap64 (i + 1) = i + 1 := wrap_id (by omega) (by omega)
      rw [drop_rd l i i0 hi, partsV] at hs
      refine Wp.ite (fun g1 => Wp.ite (fun g2 => Wp.now ?_) (fun g2 => Wp.bindIs (long_is ls ss ds idle crit sw swE sems hor (rd_T33 l i)) (Wp.ite (fun g3 => ?_) (fun g3 => Wp.now ?_)))) (fun g1 => Wp.now ?_)
      · rw [decide_eq_false (p := 0 ≤ (rd_T33 l i).f2) (by omega), Bool.and_false, Bool.false_and, Bool.false_and] at hs
        exact hs
      · rw [decide_eq_true g1, decide_eq_true (p := 0 ≤ (rd_T33 l i).f2) (by omega), g3, Bool.true_and, Bool.true_and, Bool.true_and] at hs
        rw [hw]
        exact ih (wrap64 (a + (rd_T33 l i).f2), i + 1) ⟨by simp only; omega, by simp only; omega, hs⟩ (by simp only; omega)
      · simp only [Bool.not_eq_true] at g3
        rw [g3, Bool.and_false, Bool.false_and] at hs
        exact hs
      · rw [decide_eq_false g1, Bool.false_and, Bool.false_and, Bool.false_and] at hs
        exact hs
    · rw [drop_end l i hi, partsV] at hs
      exact hs
  exact key (0, 0) ⟨by simp, by simp, by simp⟩
/-- Up to one moment alone. -/
theorem parts_one (ls : List S45) (ss : List S48) (sw : Int) : ∀ (l : List S33) (a e e' : Int), partsV ls ss sw l a e = true → partsV ls ss sw l a e' = true → e = e'
  | [], a, e, e' => fun h h' => by
    simp only [partsV, beq_iff_eq] at h h'; omega
  | x :: l, a, e, e' => fun h h' => by
    simp only [partsV, Bool.and_eq_true] at h h'
    exact parts_one ls ss sw l _ e e' h.2 h'.2
/-- Up to each one's beginning, too. -/
theorem parts_cut (ls : List S45) (ss : List S48) (sw : Int) : ∀ (l : List S33) (a e : Int) (n : Nat) (h : n < l.length), partsV ls ss sw l a e = true → partsV ls ss sw (l.take n) a (l[n]).f1 = true
  | [], a, e, n, hn => fun _ => by simp at hn
  | x :: l, a, e, 0, _ => fun h => by
    simp only [partsV, Bool.and_eq_true, decide_eq_true_eq] at h
    simp [partsV, h.1.1.1]
  | x :: l, a, e, n + 1, hn => fun h => by
    simp only [partsV, Bool.and_eq_true, List.take_succ_cons, List.getElem_cons_succ] at h ⊢
    exact ⟨h.1, parts_cut ls ss sw l _ e n (by simpa using hn) h.2⟩
theorem xor_par (a : Nat) : (a ^^^ 1) % 2 = (a + 1) % 2 := by
  have e := @Nat.xor_mod_two_pow a 1 1
  have e1 : (2 : Nat) ^ 1 = 2 := rfl
  rw [e1] at e
  rw [e]
  have h : a % 2 = 0 ∨ a % 2 = 1 := by omega
  rcases h with h | h
  · rw [h]; have : (0 ^^^ 1 % 2 : Nat) = 1 := by decide
    omega
  · rw [h]; have : (1 ^^^ 1 % 2 : Nat) = 0 := by decide
    omega
theorem xor_ne (x : Int) : Go.bits .xor .i64 x 1 ≠ x := by
  intro h
  have e : Go.bits .xor .i64 x 1 = IntKind.i64.wrap ((BitVec.ofInt 64 x ^^^ BitVec.ofInt 64 1).toNat : Int) := rfl
  rw [e] at h
  have h2 : (IntKind.i64.wrap ((BitVec.ofInt 64 x ^^^ BitVec.ofInt 64 1).toNat : Int)) % 2 = ((BitVec.ofInt 64 x ^^^ BitVec.ofInt 64 1).toNat : Int) % 2 := by
    generalize ((BitVec.ofInt 64 x ^^^ BitVec.ofInt 64 1).toNat : Int) = n
    have e1 : IntKind.i64.wrap n = if n % 18446744073709551616 ≥ 9223372036854775808 then n % 18446744073709551616 - 18446744073709551616 else n % 18446744073709551616 := by
      simp [IntKind.wrap, IntKind.bits, IntKind.signed]
    rw [e1]; split <;> omega
  rw [h] at h2
  have h3 : (BitVec.ofInt 64 x ^^^ BitVec.ofInt 64 1).toNat % 2 = ((BitVec.ofInt 64 x).toNat + 1) % 2 := by
    rw [BitVec.toNat_xor]
    have h4 : (BitVec.ofInt 64 1).toNat = 1 := by decide
    rw [h4]
    exact xor_par _
  have h5 : ((BitVec.ofInt 64 x).toNat : Int) % 2 = x % 2 := by
    rw [BitVec.toNat_ofInt]
    omega
  omega
end Go.Proofs.Ytahdadmibmgpmaa.Wp
