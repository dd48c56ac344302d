/- What the printed functions of chapter 8 (nap) answer: the cost of a stay, the best state. -/
import Derived.Test.YtekppfjlmedhpaaTab
import Derived.Test.YtekppfjlmedhpaaPAllx3
namespace Go.Proofs.Ytekppfjlmedhpaa.Wp
open Go.RowKit Go.Proofs.YtekppfjlmedhpaaW.PrintWords Go.Proofs.YtekppfjlmedhpaaW.PrintMore Go.Proofs.Ytekppfjlmedhpaa.PAll

theorem ans08 {Q : Bool → Prop} (h : Q true) : Wp (fun k => dormouselaw08_answers.f k) Q := Wp.of dormouselaw08_answers.mono (k := 5) (r := true) (by decide +kernel) h
theorem ans08b : Wp (fun k => (dormouselaw08_answers.f k).bind fun t => some t) (fun b => b = true) := Wp.bind (ans08 (Q := fun b => b = true) rfl) (fun _ h => Wp.now h)

/-- The two costs are one. -/
theorem cost_eq (a0 a1 a2 a3 a4 a5 s : Int) : dormouseref01_Cost.f a0 a1 a2 a3 a4 a5 s = nap_Cost.f a0 a1 a2 a3 a4 a5 s := by
  unfold dormouseref01_Cost.f nap_Cost.f dormouseref01_Max.f
  have e : mx (wrap64 (wrap64 (s - a1) - a2)) 0 = if 0 > wrap64 (wrap64 (s - a1) - a2) then 0 else wrap64 (wrap64 (s - a1) - a2) := by unfold mx; rfl
  by_cases h : 0 > wrap64 (wrap64 (s - a1) - a2)
  · rw [if_pos h, e, if_pos h]; rfl
  · rw [if_neg h, e, if_neg h]; rfl

/-- What a stay costs. -/
def cst (x : S23) (stay : Int) : Int := x.f3 + x.f4 + x.f0 * (if stay - x.f1 - x.f2 < 0 then 0 else stay - x.f1 - x.f2)
theorem cost_is {x : S23} {idle stay : Int} (h : SleepOk x idle) (h0 : 0 ≤ stay) (h1 : stay ≤ 1073741824) : nap_Cost.f x.f0 x.f1 x.f2 x.f3 x.f4 x.f5 stay = some (cst x stay) ∧ 0 ≤ cst x stay ∧ cst x stay ≤ 70368744312832 := by
  obtain ⟨d0, d1, u0, u1, e0, e1, v0, v1, o0, o1, p0, p1, n0, n1, n2, _⟩ := h
  unfold nap_Cost.f
  rw [wrap_id (x := stay - x.f1) (by omega) (by omega), wrap_id (x := stay - x.f1 - x.f2) (by omega) (by omega), mx_def]
  have m := mul_bounds (a := x.f0) (b := if stay - x.f1 - x.f2 < 0 then 0 else stay - x.f1 - x.f2) (A := 65536) (B := 1073741824) (by omega) (by omega) (by split <;> omega) (by split <;> omega)
  rw [wrap_id (x := x.f3 + x.f4) (by omega) (by omega), wrap_id (x := x.f0 * _) (by omega) (by omega), wrap_id (by omega) (by omega)]
  refine ⟨rfl, ?_⟩
  unfold cst
  omega

/-- What is known of the best state among the first ones. -/
structure BestOf (ss : List S23) (stay : Int) (n : Int) (ok : Bool) (upto : Int) : Prop where
  yes : ok = true → 0 ≤ n ∧ n < upto ∧ (rd_T23 ss n).f5 ≤ stay ∧ ∀ j : Int, 0 ≤ j → j < upto → (rd_T23 ss j).f5 ≤ stay → cst (rd_T23 ss n) stay ≤ cst (rd_T23 ss j) stay
  no : ok = false → ∀ j : Int, 0 ≤ j → j < upto → ¬ (rd_T23 ss j).f5 ≤ stay

theorem best_is {ls : List S59} {ss : List S23} {ds : List S66} {idle crit sw swE sems hor stay : Int} (ht : TableOk ls ss ds idle crit sw swE sems hor) (h0 : 0 ≤ stay) (h1 : stay ≤ 1073741824) :
    Wp (fun k => nap_Best.f k ls ss ds idle crit sw swE sems hor stay) (fun r => BestOf ss stay r.1 r.2 ss.length) := by
  simp only [nap_Best.f]
  have key : ∀ s : Int × Bool × Int, (0 ≤ s.2.2 ∧ s.2.2 ≤ ss.length ∧ BestOf ss stay s.1 s.2.1 s.2.2) → Wp (fun k => nap_Best.l0 k stay s.1 s.2.1 ss (ss.length : Int) s.2.2 ls ss ds idle crit sw swE sems hor) (fun r => BestOf ss stay r.1 r.2 ss.length) := by
    refine Wp.loop (fun k (s : Int × Bool × Int) => nap_Best.l0 k stay s.1 s.2.1 ss (ss.length : Int) s.2.2 ls ss ds idle crit sw swE sems hor) _ (fun s => (ss.length - s.2.2).toNat) _ ?_
    rintro ⟨n, ok, i⟩ ⟨i0, i1, hb⟩ ih
    have hl := ht.ss1
    simp only at i0 i1 hb ih ⊢
    simp only [nap_Best.l0]
    refine Wp.ite (fun hi => ?_) (fun hi => ?_)
    · refine Wp.inside i0 hi ?_
      have hw : wrap64 (i + 1) = i + 1 := wrap_id (by omega) (by omega)
      refine Wp.ite (fun g1 => ?_) (fun g1 => ?_)
      · refine Wp.ite (fun g2 => ?_) (fun g2 => ?_)
        · obtain ⟨n0, n1, n2, n3⟩ := hb.yes g2
          obtain ⟨hc, _⟩ := cost_is (ht.sleeps i i0 hi) h0 h1
          obtain ⟨hc', _⟩ := cost_is (ht.sleeps n n0 (by omega)) h0 h1
          refine Wp.bindIs hc (Wp.inside n0 (by omega) (Wp.bindIs hc' (Wp.ite (fun g3 => ?_) (fun g3 => ?_))))
          · rw [hw]
            refine ih (i, true, i + 1) ⟨by show 0 ≤ i + 1; omega, by show i + 1 ≤ _; omega, fun _ => ⟨i0, by show i < i + 1; omega, g1, fun j j0 j1 j2 => ?_⟩, fun h => by cases h⟩ (by show (_ - (i + 1)).toNat < _; omega)
            by_cases e : j = i
            · subst e; exact Int.le_refl _
            · have := n3 j j0 (by simp only at j1; omega) j2; simp only; omega
          · rw [hw]
            refine ih (n, ok, i + 1) ⟨by show 0 ≤ i + 1; omega, by show i + 1 ≤ _; omega, fun _ => ⟨n0, by show n < i + 1; omega, n2, fun j j0 j1 j2 => ?_⟩, fun h => by rw [g2] at h; cases h⟩ (by show (_ - (i + 1)).toNat < _; omega)
            by_cases e : j = i
            · subst e; simp only; omega
            · exact n3 j j0 (by simp only at j1; omega) j2
        · rw [hw]
          have g2' : ok = false := by simpa using g2
          refine ih (i, true, i + 1) ⟨by show 0 ≤ i + 1; omega, by show i + 1 ≤ _; omega, fun _ => ⟨i0, by show i < i + 1; omega, g1, fun j j0 j1 j2 => ?_⟩, fun h => by cases h⟩ (by show (_ - (i + 1)).toNat < _; omega)
          by_cases e : j = i
          · subst e; exact Int.le_refl _
          · exact absurd j2 (hb.no g2' j j0 (by simp only at j1; omega))
      · rw [hw]
        refine ih (n, ok, i + 1) ⟨by show 0 ≤ i + 1; omega, by show i + 1 ≤ _; omega, fun g => ?_, fun g j j0 j1 => ?_⟩ (by show (_ - (i + 1)).toNat < _; omega)
        · obtain ⟨n0, n1, n2, n3⟩ := hb.yes g
          refine ⟨n0, by show n < i + 1; omega, n2, fun j j0 j1 j2 => ?_⟩
          by_cases e : j = i
          · subst e; exact absurd j2 g1
          · exact n3 j j0 (by simp only at j1; omega) j2
        · by_cases e : j = i
          · subst e; exact g1
          · exact hb.no g j j0 (by simp only at j1; omega)
    · have e : i = ss.length := by omega
      subst e
      exact Wp.now hb
  exact key (0, false, 0) ⟨by simp, by simp, fun h => (by cases h), fun _ j j0 j1 => (by simp only at j1; omega)⟩
end Go.Proofs.Ytekppfjlmedhpaa.Wp
