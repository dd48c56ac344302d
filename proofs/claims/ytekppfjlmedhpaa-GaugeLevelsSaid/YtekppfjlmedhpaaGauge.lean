/- What the printed functions of chapter 21 (gauge) answer. -/
import Derived.Test.YtekppfjlmedhpaaWp
import Derived.Test.YtekppfjlmedhpaaPAllf25
import Derived.Test.YtekppfjlmedhpaaPAllf26
import Derived.Test.YtekppfjlmedhpaaPAllf28
import Derived.Test.YtekppfjlmedhpaaPAllf30
import Derived.Test.YtekppfjlmedhpaaPAllf32
namespace Go.Proofs.Ytekppfjlmedhpaa.Wp
open Go.RowKit Go.Proofs.YtekppfjlmedhpaaW.PrintWords Go.Proofs.YtekppfjlmedhpaaW.PrintMore Go.Proofs.Ytekppfjlmedhpaa.PAll

theorem ans21 {Q : Bool → Prop} (h : Q true) : Wp (fun k => dormouselaw21_answers.f k) Q := Wp.of dormouselaw21_answers.mono (k := 6) (r := true) (by decide +kernel) h
theorem ans21b : Wp (fun k => (dormouselaw21_answers.f k).bind fun t => some t) (fun b => b = true) := Wp.bind (ans21 (Q := fun b => b = true) rfl) (fun _ h => Wp.now h)
theorem near_is (n : Int) : ∃ b, dormouselaw21_near.f n = some b ∧ (b = true → 0 ≤ n ∧ n ≤ 1073741824) := by
  unfold dormouselaw21_near.f
  by_cases h : n ≥ 0
  · exact ⟨_, if_pos h, fun g => ⟨h, of_decide_eq_true g⟩⟩
  · exact ⟨_, if_neg h, fun g => by cases g⟩

theorem wrap_wrap (a b : Int) : wrap64 (wrap64 a + b) = wrap64 (a + b) := by unfold wrap64; omega
theorem wrap_two (a b : Int) : wrap64 (wrap64 a + wrap64 b) = wrap64 (a + b) := by unfold wrap64; omega

/-- A sum over a list. -/
def sumOf (p : S54 → Int) : List S54 → Int
  | [] => 0
  | x :: l => p x + sumOf p l
theorem sumOf_append (p : S54 → Int) : ∀ a b, sumOf p (a ++ b) = sumOf p a + sumOf p b
  | [], b => by simp [sumOf]
  | x :: a, b => by simp only [List.cons_append, sumOf, sumOf_append p a b]; omega
theorem sumOf_drop (p : S54 → Int) (l : List S54) (i : Int) (h0 : 0 ≤ i) (h1 : i < (l.length : Int)) : sumOf p (l.drop i.toNat) = p (rd_T54 l i) + sumOf p (l.drop (i + 1).toNat) := by
  have h : i.toNat < l.length := by omega
  have e : (i + 1).toNat = i.toNat + 1 := by omega
  rw [List.drop_eq_getElem_cons h, e]
  simp only [sumOf, rd_T54, List.getD_eq_getElem?_getD, List.getElem?_eq_getElem h, Option.getD_some]
theorem sumOf_end (p : S54 → Int) (l : List S54) (i : Int) (h : ¬ i < (l.length : Int)) : sumOf p (l.drop i.toNat) = 0 := by
  rw [List.drop_eq_nil_of_le (by omega)]; rfl

def pRun (x : S54) : Int := if x.f0 = 1 then x.f5 else 0
def pSwitch (x : S54) : Int := if x.f0 = 3 then 1 else 0

theorem cycles_is (l : List S54) (hl : l.length ≤ 9223372036854775000) : Wp (fun k => gauge_Cycles.f k l) (fun r => r = wrap64 (sumOf pRun l)) := by
  simp only [gauge_Cycles.f]
  have key : ∀ s : Int × Int, (wrap64 s.1 = s.1 ∧ 0 ≤ s.2 ∧ s.2 ≤ l.length ∧ wrap64 (s.1 + sumOf pRun (l.drop s.2.toNat)) = wrap64 (sumOf pRun l)) → Wp (fun k => gauge_Cycles.l0 k s.1 l (l.length : Int) s.2) (fun r => r = wrap64 (sumOf pRun l)) := by
    refine Wp.loop (fun k (s : Int × Int) => gauge_Cycles.l0 k s.1 l (l.length : Int) s.2) _ (fun s => (l.length - s.2).toNat) _ ?_
    rintro ⟨a, i⟩ ⟨ha, i0, i1, hs⟩ ih
    simp only at ha i0 i1 hs ih ⊢
    simp only [gauge_Cycles.l0]
    refine Wp.ite (fun hi => Wp.inside i0 hi ?_) (fun hi => Wp.now ?_)
    · have hw : wrap64 (i + 1) = i + 1 := wrap_id (by omega) (by omega)
      rw [sumOf_drop pRun l i i0 hi] at hs
      refine Wp.ite (fun g => ?_) (fun g => ?_)
      · have ep : pRun (rd_T54 l i) = (rd_T54 l i).f5 := if_pos g
        rw [hw]
        exact ih (wrap64 (a + (rd_T54 l i).f5), i + 1) ⟨by simp only; unfold wrap64; omega, by simp only; omega, by simp only; omega, by simp only; rw [wrap_wrap, ← hs, ep, Int.add_assoc]⟩ (by simp only; omega)
      · have ep : pRun (rd_T54 l i) = 0 := if_neg g
        rw [hw]
        exact ih (a, i + 1) ⟨ha, by simp only; omega, by simp only; omega, by simp only; rw [← hs, ep, Int.zero_add]⟩ (by simp only; omega)
    · rw [sumOf_end pRun l i hi, Int.add_zero, ha] at hs
      exact hs
  exact key (0, 0) ⟨wrap_id (x := 0) (by omega) (by omega), by simp, by simp, by simp⟩

theorem switches_is (l : List S54) (hl : l.length ≤ 9223372036854775000) : Wp (fun k => gauge_Switches.f k l) (fun r => r = wrap64 (sumOf pSwitch l)) := by
  simp only [gauge_Switches.f]
  have key : ∀ s : Int × Int, (wrap64 s.1 = s.1 ∧ 0 ≤ s.2 ∧ s.2 ≤ l.length ∧ wrap64 (s.1 + sumOf pSwitch (l.drop s.2.toNat)) = wrap64 (sumOf pSwitch l)) → Wp (fun k => gauge_Switches.l0 k s.1 l (l.length : Int) s.2) (fun r => r = wrap64 (sumOf pSwitch l)) := by
    refine Wp.loop (fun k (s : Int × Int) => gauge_Switches.l0 k s.1 l (l.length : Int) s.2) _ (fun s => (l.length - s.2).toNat) _ ?_
    rintro ⟨a, i⟩ ⟨ha, i0, i1, hs⟩ ih
    simp only at ha i0 i1 hs ih ⊢
    simp only [gauge_Switches.l0]
    refine Wp.ite (fun hi => Wp.inside i0 hi ?_) (fun hi => Wp.now ?_)
    · have hw : wrap64 (i + 1) = i + 1 := wrap_id (by omega) (by omega)
      rw [sumOf_drop pSwitch l i i0 hi] at hs
      refine Wp.ite (fun g => ?_) (fun g => ?_)
      · have ep : pSwitch (rd_T54 l i) = 1 := if_pos g
        rw [hw]
        exact ih (wrap64 (a + 1), i + 1) ⟨by simp only; unfold wrap64; omega, by simp only; omega, by simp only; omega, by simp only; rw [wrap_wrap, ← hs, ep, Int.add_assoc]⟩ (by simp only; omega)
      · have ep : pSwitch (rd_T54 l i) = 0 := if_neg g
        rw [hw]
        exact ih (a, i + 1) ⟨ha, by simp only; omega, by simp only; omega, by simp only; rw [← hs, ep, Int.zero_add]⟩ (by simp only; omega)
    · rw [sumOf_end pSwitch l i hi, Int.add_zero, ha] at hs
      exact hs
  exact key (0, 0) ⟨wrap_id (x := 0) (by omega) (by omega), by simp, by simp, by simp⟩

theorem cyclesR_eq (k : Nat) : ∀ (l : List S54) (a i : Int), dormouseref21_Cycles.l0 k l a i = gauge_Cycles.l0 k a l (l.length : Int) i := by
  induction k with
  | zero => intros; rfl
  | succ k ih =>
    intros
    simp only [dormouseref21_Cycles.l0, gauge_Cycles.l0, ih]
    split
    · rfl
    · rfl
theorem switchesR_eq (k : Nat) : ∀ (l : List S54) (a i : Int), dormouseref21_Switches.l0 k l a i = gauge_Switches.l0 k a l (l.length : Int) i := by
  induction k with
  | zero => intros; rfl
  | succ k ih =>
    intros
    simp only [dormouseref21_Switches.l0, gauge_Switches.l0, ih]
    split
    · rfl
    · rfl
theorem boundR_eq (ls : List S59) (ss : List S23) (ds : List S66) (a b c d e f x y : Int) : dormouseref21_Bound.f ls ss ds a b c d e f x y = gauge_Bound.f ls ss ds a b c d e f x y ∨ ¬ (∀ z : Int, -9223372036854775808 ≤ y - wrap64 (x * z) ∧ y - wrap64 (x * z) ≤ 9223372036854775807) := by
  by_cases h : ∀ z : Int, -9223372036854775808 ≤ y - wrap64 (x * z) ∧ y - wrap64 (x * z) ≤ 9223372036854775807
  · refine .inl ?_
    unfold dormouseref21_Bound.f gauge_Bound.f
    by_cases h0 : 0 < (ls.length : Int)
    · rw [if_pos h0, if_pos h0]
      obtain ⟨g0, g1⟩ := h (rd_T59 ls 0).f0
      rw [wrap_id (x := y - wrap64 (x * (rd_T59 ls 0).f0)) g0 g1, mx_def]
      by_cases g : y > wrap64 (x * (rd_T59 ls 0).f0)
      · rw [if_pos g, if_neg (by omega)]
      · rw [if_neg g]
        have e : (if y - wrap64 (x * (rd_T59 ls 0).f0) < 0 then 0 else y - wrap64 (x * (rd_T59 ls 0).f0)) = 0 := by split <;> omega
        rw [e, Int.zero_mul]
        have e0 : wrap64 0 = 0 := wrap_id (by omega) (by omega)
        rw [e0, Int.add_zero]
        have : wrap64 (wrap64 (x * (rd_T59 ls 0).f1)) = wrap64 (x * (rd_T59 ls 0).f1) := by unfold wrap64; omega
        rw [this]
    · rw [if_neg h0, if_neg h0]
  · exact .inr h
end Go.Proofs.Ytekppfjlmedhpaa.Wp
