/- What the printed functions of chapter 22 (audit) answer: whether the sleeps of any intervals are whole, and long enough. -/
import Derived.Test.YtahdadmibmgpmaaACom
import Derived.Test.YtahdadmibmgpmaaPAllf18
namespace Go.Proofs.Ytahdadmibmgpmaa.Wp
open Go.RowKit Go.Proofs.YtahdadmibmgpmaaW.PrintWords Go.Proofs.Ytahdadmibmgpmaa.PAll

/-- The end of a sleep in state a, long enough. -/
def outV (ss : List S48) (a stay : Int) (z : S33) : Bool := decide (z.f0 = 6) && decide (z.f3 = a) && inn ss.length a && !decide (wrap64 (stay + z.f2) < (rd_T48 ss a).f5)
/-- Are all sleeps whole, and long enough? -/
def sleptV (ss : List S48) : List S33 → Bool
  | [] => true
  | [x] => if x.f0 = 5 then false else if x.f0 = 6 then false else true
  | [x, y] => if x.f0 = 5 then false else if x.f0 = 6 then false else if x.f0 = 4 then (if y.f0 = 5 ∧ y.f3 = x.f3 then true else outV ss x.f3 x.f2 y) else sleptV ss [y]
  | x :: y :: z :: l => if x.f0 = 5 then false else if x.f0 = 6 then false else if x.f0 = 4 then (if y.f0 = 5 ∧ y.f3 = x.f3 then (outV ss x.f3 (wrap64 (x.f2 + y.f2)) z && sleptV ss l) else (outV ss x.f3 x.f2 y && sleptV ss (z :: l))) else sleptV ss (y :: z :: l)

section
variable (ss : List S48) (x y z : S33) (l : List S33)
theorem s_asleep (h : x.f0 = 5) : sleptV ss (x :: l) = false := by
  match l with
  | [] => simp [sleptV, h]
  | [y] => simp [sleptV, h]
  | y :: z :: l => simp [sleptV, h]
theorem s_exit (h : x.f0 = 6) : sleptV ss (x :: l) = false := by
  match l with
  | [] => simp [sleptV, h]
  | [y] => simp [sleptV, h]
  | y :: z :: l => simp [sleptV, h]
theorem s_else (h5 : x.f0 ≠ 5) (h6 : x.f0 ≠ 6) (h4 : x.f0 ≠ 4) : sleptV ss (x :: l) = sleptV ss l := by
  match l with
  | [] => simp [sleptV, h5, h6]
  | [y] => simp [sleptV, h5, h6, h4]
  | y :: z :: l => simp [sleptV, h5, h6, h4]
theorem s_one (h : x.f0 = 4) : sleptV ss [x] = true := by simp [sleptV, h]
theorem s_two (h : x.f0 = 4) (h5 : y.f0 = 5) (h3 : y.f3 = x.f3) : sleptV ss [x, y] = true := by simp [sleptV, h, h5, h3]
theorem s_out (h : x.f0 = 4) (hn : ¬ (y.f0 = 5 ∧ y.f3 = x.f3)) : sleptV ss (x :: y :: l) = (outV ss x.f3 x.f2 y && sleptV ss l) := by
  match l with
  | [] => simp only [sleptV, h, if_neg hn]; simp
  | z :: l => simp only [sleptV, h, if_neg hn]; simp
theorem s_stay (h : x.f0 = 4) (h5 : y.f0 = 5) (h3 : y.f3 = x.f3) : sleptV ss (x :: y :: z :: l) = (outV ss x.f3 (wrap64 (x.f2 + y.f2)) z && sleptV ss l) := by
  simp [sleptV, h, h5, h3]
/-- What is right stays right without the last. -/
theorem s_take (ss : List S48) : ∀ (k : Nat) (l : List S33) (n : Nat), l.length ≤ k → sleptV ss l = true → sleptV ss (l.take n) = true
  | 0, l, n => fun hk h => by
    have : l = [] := List.length_eq_zero_iff.mp (by omega)
    subst this; simpa using h
  | k + 1, l, n => fun hk h => by
    match l, n with
    | l, 0 => rfl
    | [], _ => simpa using h
    | x :: l, n + 1 =>
      simp only [List.length_cons] at hk
      rw [List.take_succ_cons]
      by_cases h5 : x.f0 = 5
      · rw [s_asleep ss x l h5] at h; cases h
      by_cases h6 : x.f0 = 6
      · rw [s_exit ss x l h6] at h; cases h
      by_cases h4 : x.f0 = 4
      case neg =>
        rw [s_else ss x l h5 h6 h4] at h
        rw [s_else ss x _ h5 h6 h4]
        exact s_take ss k l n (by omega) h
      match l, n with
      | l, 0 => exact s_one ss x h4
      | [], _ => simpa using h
      | y :: l, n + 1 =>
        simp only [List.length_cons] at hk
        rw [List.take_succ_cons]
        by_cases hy : y.f0 = 5 ∧ y.f3 = x.f3
        case neg =>
          rw [s_out ss x y l h4 hy] at h
          rw [s_out ss x y _ h4 hy]
          rw [Bool.and_eq_true] at h ⊢
          exact ⟨h.1, s_take ss k l n (by omega) h.2⟩
        match l, n with
        | l, 0 => exact s_two ss x y h4 hy.1 hy.2
        | [], _ => simpa using h
        | z :: l, n + 1 =>
          simp only [List.length_cons] at hk
          rw [List.take_succ_cons]
          rw [s_stay ss x y z l h4 hy.1 hy.2] at h
          rw [s_stay ss x y z _ h4 hy.1 hy.2]
          rw [Bool.and_eq_true] at h ⊢
          exact ⟨h.1, s_take ss k l n (by omega) h.2⟩
end

section
variable (ls : List S45) (ss : List S48) (ds : List S51) (idle crit sw swE sems hor : Int)
theorem aslept_is (l : List S33) (hl : l.length ≤ 9223372036854775000) : Wp (fun k => audit_Slept.f k ls ss ds idle crit sw swE sems hor l) (fun r => r = sleptV ss l) := by
  simp only [audit_Slept.f]
  have key : ∀ i : Int, (0 ≤ i ∧ i ≤ l.length ∧ sleptV ss (l.drop i.toNat) = sleptV ss l) → Wp (fun k => audit_Slept.l0 k l i ls ss ds idle crit sw swE sems hor) (fun r => r = sleptV ss l) := by
    refine Wp.loop (fun k i => audit_Slept.l0 k l i ls ss ds idle crit sw swE sems hor) _ (fun i => (l.length - i).toNat) _ ?_
    rintro i ⟨i0, i1, hs⟩ ih
    simp only [audit_Slept.l0]
    refine Wp.ite (fun hi => Wp.yes i0 ?_) (fun hi => Wp.now ?_)
    case refine_2 => rw [drop_end l i hi] at hs; exact hs
    rw [drop_rd l i i0 hi] at hs
    have hw : ∀ j : Int, 0 ≤ j → j ≤ l.length → wrap64 (j + 1) = j + 1 := fun j _ _ => wrap_id (by omega) (by omega)
    -- after the end of a sleep, at j
    have j3 : ∀ (j stay : Int), i < j → j ≤ l.length → (j = l.length → sleptV ss l = true) → (j < l.length → sleptV ss l = (outV ss (rd_T33 l i).f3 stay (rd_T33 l j) && sleptV ss (l.drop (j + 1).toNat))) → Wp (fun k => audit_Slept.j3 k l j stay ls ss ds idle crit sw swE sems hor (rd_T33 l i).f0 (rd_T33 l i).f1 (rd_T33 l i).f2 (rd_T33 l i).f3 (rd_T33 l i).f4 (rd_T33 l i).f5) (fun r => r = sleptV ss l) := by
      intro j stay hj hj1 he ho
      refine Wp.succ ?_
      simp only [audit_Slept.j3]
      refine Wp.ite (fun h => Wp.now (he h).symm) (fun h => Wp.inside (by omega) (by omega) ?_)
      have ho := ho (by omega)
      unfold outV at ho
      refine Wp.ite (fun g6 => ?_) (fun g6 => Wp.now (by rw [ho, decide_eq_false g6]; simp))
      refine Wp.ite (fun g3 => ?_) (fun g3 => Wp.now (by rw [ho, decide_eq_false g3]; simp))
      refine Wp.bindIs (astate_is ls ss ds idle crit sw swE sems hor _) (Wp.ite (fun gi => ?_) (fun gi => Wp.now (by simp only [Bool.not_eq_true] at gi; rw [ho, gi]; simp)))
      refine Wp.inside (inn_yes gi).1 (inn_yes gi).2 (Wp.ite (fun ge => Wp.now (by rw [ho, decide_eq_true ge]; simp)) (fun ge => ?_))
      rw [hw j (by omega) hj1]
      rw [decide_eq_true g6, decide_eq_true g3, gi, decide_eq_false ge] at ho
      exact ih (j + 1) ⟨by omega, by omega, by rw [ho]; simp⟩ (by omega)
    have j1 : ∀ b : Bool, (b = true → (rd_T33 l i).f0 = 5 ∨ (rd_T33 l i).f0 = 6) → (b = false → (rd_T33 l i).f0 ≠ 5 ∧ (rd_T33 l i).f0 ≠ 6) → Wp (fun k => audit_Slept.j1 k l i (rd_T33 l i).f0 b ls ss ds idle crit sw swE sems hor (rd_T33 l i).f0 (rd_T33 l i).f1 (rd_T33 l i).f2 (rd_T33 l i).f3 (rd_T33 l i).f4 (rd_T33 l i).f5) (fun r => r = sleptV ss l) := by
      intro b hb hn
      refine Wp.succ ?_
      simp only [audit_Slept.j1]
      refine Wp.ite (fun g => Wp.now ?_) (fun g => ?_)
      · rcases hb g with h | h
        · rw [← hs, s_asleep ss _ _ h]
        · rw [← hs, s_exit ss _ _ h]
      obtain ⟨n5, n6⟩ := hn (by simpa using g)
      simp only [hw i i0 i1]
      refine Wp.ite (fun g4 => ?_) (fun g4 => ih (i + 1) ⟨by omega, by omega, by rw [← hs, s_else ss _ _ n5 n6 g4]⟩ (by omega))
      have plain : ∀ (h : i + 1 < (l.length : Int) → ¬ ((rd_T33 l (i + 1)).f0 = 5 ∧ (rd_T33 l (i + 1)).f3 = (rd_T33 l i).f3)), Wp (fun k => audit_Slept.j2 k l (i + 1) (rd_T33 l i).f2 false ls ss ds idle crit sw swE sems hor (rd_T33 l i).f0 (rd_T33 l i).f1 (rd_T33 l i).f2 (rd_T33 l i).f3 (rd_T33 l i).f4 (rd_T33 l i).f5) (fun r => r = sleptV ss l) := by
        intro h
        refine Wp.succ ?_
        simp only [audit_Slept.j2]
        refine Wp.no (by simp) (j3 (i + 1) _ (by omega) (by omega) (fun e => ?_) (fun e => ?_))
        · rw [drop_end l (i + 1) (by omega), s_one ss _ g4] at hs
          exact hs.symm
        · rw [drop_rd l (i + 1) (by omega) e, s_out ss _ _ _ g4 (h e)] at hs
          exact hs.symm
      refine Wp.ite (fun g => Wp.yes (by omega) (Wp.ite (fun g5 => ?_) (fun g5 => plain (fun _ h => g5 h.1)))) (fun g => plain (fun h => absurd h g))
      by_cases g3 : (rd_T33 l (i + 1)).f3 = (rd_T33 l i).f3
      · rw [beq_iff_eq.mpr g3]
        refine Wp.succ ?_
        simp only [audit_Slept.j2]
        refine Wp.yes (by simp) (Wp.inside (by omega) g ?_)
        rw [hw (i + 1) (by omega) (by omega)]
        rw [drop_rd l (i + 1) (by omega) g] at hs
        refine j3 (i + 1 + 1) _ (by omega) (by omega) (fun e => ?_) (fun e => ?_)
        · rw [drop_end l (i + 1 + 1) (by omega), s_two ss _ _ g4 g5 g3] at hs
          exact hs.symm
        · rw [drop_rd l (i + 1 + 1) (by omega) e, s_stay ss _ _ _ _ g4 g5 g3] at hs
          exact hs.symm
      · rw [beq_eq_false_iff_ne.mpr g3]
        exact plain (fun _ h => g3 h.2)
    refine Wp.ite (fun g5 => j1 _ (fun _ => Or.inl g5) (fun h => by rw [beq_iff_eq.mpr g5] at h; cases h)) (fun g5 => j1 _ (fun h => Or.inr (beq_iff_eq.mp h)) (fun h => ⟨g5, beq_eq_false_iff_ne.mp h⟩))
  exact key 0 ⟨by simp, by simp, by simp⟩
end
end Go.Proofs.Ytahdadmibmgpmaa.Wp
