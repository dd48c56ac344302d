/- What the document's function of chapter 22 (audit) answers: whether the sleeps of any intervals are whole, and long enough. -/
import Derived.Test.YtahdadmibmgpmaaATake
import Derived.Test.YtahdadmibmgpmaaPAllf19
namespace Go.Proofs.Ytahdadmibmgpmaa.Wp
open Go.RowKit Go.Proofs.YtahdadmibmgpmaaW.PrintWords Go.Proofs.Ytahdadmibmgpmaa.PAll

section
variable (ls : List S45) (ss : List S48) (ds : List S51) (idle crit sw swE sems hor : Int)
/-- Where the document's walk stands: ahead of nothing open, or behind a beginning, or behind a beginning and its sleep. -/
structure At (l : List S33) (V : Bool) (i : Int) : Prop where
  here : ((0 < i → (rd_T33 l (i - 1)).f0 ≠ 4 ∧ (rd_T33 l (i - 1)).f0 ≠ 5) ∧ sleptV ss (l.drop i.toNat) = V)
    ∨ (1 ≤ i ∧ (rd_T33 l (i - 1)).f0 = 4 ∧ sleptV ss (rd_T33 l (i - 1) :: l.drop i.toNat) = V ∧ (i < l.length → (rd_T33 l i).f3 = (rd_T33 l (i - 1)).f3 ∧ ((rd_T33 l i).f0 = 5 ∨ (rd_T33 l i).f0 = 6)))
    ∨ (2 ≤ i ∧ (rd_T33 l (i - 2)).f0 = 4 ∧ (rd_T33 l (i - 1)).f0 = 5 ∧ (rd_T33 l (i - 1)).f3 = (rd_T33 l (i - 2)).f3 ∧ sleptV ss (rd_T33 l (i - 2) :: rd_T33 l (i - 1) :: l.drop i.toNat) = V ∧ (i < l.length → (rd_T33 l i).f3 = (rd_T33 l (i - 1)).f3 ∧ (rd_T33 l i).f0 = 6))
theorem rslept_is (l : List S33) (hl : l.length ≤ 9223372036854775000) : Wp (fun k => dormouseref21_Slept.f k ls ss ds idle crit sw swE sems hor l) (fun r => r = sleptV ss l) := by
  simp only [dormouseref21_Slept.f]
  have key : ∀ i : Int, (0 ≤ i ∧ i ≤ l.length ∧ At ss l (sleptV ss l) i) → Wp (fun k => dormouseref21_Slept.l0 k l i ls ss ds idle crit sw swE sems hor) (fun r => r = sleptV ss l) := by
    refine Wp.loop (fun k i => dormouseref21_Slept.l0 k l i ls ss ds idle crit sw swE sems hor) _ (fun i => (l.length - i).toNat) _ ?_
    rintro i ⟨i0, i1, ⟨ha⟩⟩ ih
    simp only [dormouseref21_Slept.l0]
    refine Wp.ite (fun hi => ?_) (fun hi => Wp.now ?_)
    case refine_2 =>
      rw [drop_end l i hi] at ha
      rcases ha with ⟨_, ha⟩ | ⟨_, h4, ha, _⟩ | ⟨_, h4, h5, h3, ha, _⟩
      · exact ha
      · rw [← ha, s_one ss _ h4]
      · rw [← ha, s_two ss _ _ h4 h5 h3]
    have hw : wrap64 (i + 1) = i + 1 := wrap_id (by omega) (by omega)
    rw [drop_rd l i i0 hi] at ha
    have go : At ss l (sleptV ss l) (i + 1) → Wp (fun k => dormouseref21_Slept.l0 k l (i + 1) ls ss ds idle crit sw swE sems hor) (fun r => r = sleptV ss l) := fun h => ih (i + 1) ⟨by omega, by omega, h⟩ (by omega)
    have e1 : i + 1 - 1 = i := by omega
    have e2 : i + 1 - 2 = i - 1 := by omega
    -- the interval behind, where there is one
    have nxt : i + 1 < (l.length : Int) → l.drop (i + 1).toNat = rd_T33 l (i + 1) :: l.drop (i + 1 + 1).toNat := fun h => drop_rd l (i + 1) (by omega) h
    have j2 : ∀ (b0 b1 b2 b3 b4 b5 a0 a1 a2 a3 a4 a5 : Int), (0 < i → b0 = (rd_T33 l (i - 1)).f0 ∧ b2 = (rd_T33 l (i - 1)).f2 ∧ b3 = (rd_T33 l (i - 1)).f3) → (¬ 0 < i → b0 = 0) → (i + 1 < l.length → a0 = (rd_T33 l (i + 1)).f0 ∧ a3 = (rd_T33 l (i + 1)).f3) → ∀ last : Bool, (last = true → i + 1 = l.length) → (last = false → i + 1 < l.length) → Wp (fun k => dormouseref21_Slept.j2 k l i last ls ss ds idle crit sw swE sems hor b0 b1 b2 b3 b4 b5 a0 a1 a2 a3 a4 a5) (fun r => r = sleptV ss l) := by
      intro b0 b1 b2 b3 b4 b5 a0 a1 a2 a3 a4 a5 hb hz hn last hl1 hl0
      refine Wp.succ ?_
      simp only [dormouseref21_Slept.j2, hw]
      refine Wp.inside i0 hi ?_
      have no : ∀ {P : Prop}, P → (P → sleptV ss l = false) → false = sleptV ss l := fun h k => (k h).symm
      have endj3 : sleptV ss l = false → Wp (fun k => dormouseref21_Slept.j3 k l i true ls ss ds idle crit sw swE sems hor b0 b1 b2 b3 b4 b5) (fun r => r = sleptV ss l) := fun h => by
        refine Wp.succ ?_
        simp only [dormouseref21_Slept.j3]
        exact Wp.yes (by simp) (Wp.now h.symm)
      refine Wp.ite (fun g4 => ?_) (fun g4 => Wp.ite (fun g5 => ?_) (fun g5 => Wp.ite (fun g6 => ?_) (fun g6 => ?_)))
      · -- a beginning
        have hs : sleptV ss (rd_T33 l i :: l.drop (i + 1).toNat) = sleptV ss l := by
          rcases ha with ⟨_, ha⟩ | ⟨_, _, _, ha⟩ | ⟨_, _, _, _, _, ha⟩
          · exact ha
          · have := (ha hi).2; omega
          · have := (ha hi).2; omega
        refine Wp.ite (fun hlast => ?_) (fun hlast => ?_)
        · have := hl1 hlast
          exact go ⟨Or.inr (Or.inl ⟨by omega, by rw [e1]; exact g4, by rw [e1]; exact hs, fun h => by omega⟩)⟩
        · have hlt := hl0 (by simpa using hlast)
          obtain ⟨ea0, ea3⟩ := hn hlt
          have yes : a3 = (rd_T33 l i).f3 → (a0 = 5 ∨ a0 = 6) → At ss l (sleptV ss l) (i + 1) := fun h3 h => ⟨Or.inr (Or.inl ⟨by omega, by rw [e1]; exact g4, by rw [e1]; exact hs, fun _ => ⟨by rw [e1]; omega, by omega⟩⟩)⟩
          have bad : ¬ (a3 = (rd_T33 l i).f3 ∧ (a0 = 5 ∨ a0 = 6)) → false = sleptV ss l := fun h => by
            rw [nxt hlt, s_out ss _ _ _ g4 (fun q => h ⟨by omega, by omega⟩)] at hs
            rw [← hs]
            unfold outV
            by_cases q6 : (rd_T33 l (i + 1)).f0 = 6
            · rw [decide_eq_false (p := (rd_T33 l (i + 1)).f3 = (rd_T33 l i).f3) (fun q => h ⟨by omega, by omega⟩)]; simp
            · rw [decide_eq_false q6]; simp
          exact Wp.ite (fun h3 => Wp.ite (fun h5 => go (yes h3 (Or.inl h5))) (fun h5 => Wp.ite (fun h6 => go (yes h3 (Or.inr h6))) (fun h6 => Wp.now (bad (fun q => by omega))))) (fun h3 => Wp.now (bad (fun q => h3 q.1)))
      · -- a sleep
        rcases ha with ⟨hp, ha⟩ | ⟨p0, h4, hs, hx⟩ | ⟨_, _, _, _, _, ha⟩
        · rw [s_asleep ss _ _ g5] at ha
          refine Wp.ite (fun _ => Wp.no (fun h => ?_) (Wp.now ha)) (fun _ => Wp.now ha)
          by_cases h0 : 0 < i
          · have := (hp h0).1; have := (hb h0).1; omega
          · have := hz h0; omega
        · obtain ⟨eb0, eb2, eb3⟩ := hb (by omega)
          obtain ⟨hx3, _⟩ := hx hi
          refine Wp.yes (by omega) (Wp.yes (by omega) (Wp.ite (fun hlast => ?_) (fun hlast => ?_)))
          · have := hl1 hlast
            exact go ⟨Or.inr (Or.inr ⟨by omega, by rw [e2]; exact h4, by rw [e1]; exact g5, by rw [e1, e2]; exact hx3, by rw [e1, e2]; exact hs, fun h => by omega⟩)⟩
          · have hlt := hl0 (by simpa using hlast)
            obtain ⟨ea0, ea3⟩ := hn hlt
            have bad : ¬ (a3 = (rd_T33 l i).f3 ∧ a0 = 6) → false = sleptV ss l := fun h => by
              rw [nxt hlt, s_stay ss _ _ _ _ h4 g5 hx3] at hs
              rw [← hs]
              unfold outV
              by_cases q6 : (rd_T33 l (i + 1)).f0 = 6
              · rw [decide_eq_false (p := (rd_T33 l (i + 1)).f3 = (rd_T33 l (i - 1)).f3) (fun q => h ⟨by omega, by omega⟩)]; simp
              · rw [decide_eq_false q6]; simp
            exact Wp.ite (fun h3 => Wp.ite (fun h6 => go ⟨Or.inr (Or.inr ⟨by omega, by rw [e2]; exact h4, by rw [e1]; exact g5, by rw [e1, e2]; exact hx3, by rw [e1, e2]; exact hs, fun h => ⟨by rw [e1]; omega, by omega⟩⟩)⟩) (fun h6 => Wp.now (bad (fun q => h6 q.2)))) (fun h3 => Wp.now (bad (fun q => h3 q.1)))
        · have := (ha hi).2; omega
      · -- an end
        have fresh : sleptV ss (l.drop (i + 1).toNat) = sleptV ss l → At ss l (sleptV ss l) (i + 1) := fun h => ⟨Or.inl ⟨fun _ => by rw [e1]; exact ⟨g4, g5⟩, h⟩⟩
        rcases ha with ⟨hp, ha⟩ | ⟨p0, h4, hs, hx⟩ | ⟨p0, h4, h5, h3, hs, hx⟩
        · rw [s_exit ss _ _ g6] at ha
          have nb : b0 ≠ 4 ∧ b0 ≠ 5 := by
            by_cases h0 : 0 < i
            · have := hp h0; have := (hb h0).1; omega
            · have := hz h0; omega
          exact Wp.ite (fun _ => Wp.no nb.1 (Wp.no nb.2 (endj3 ha.symm))) (fun _ => endj3 ha.symm)
        · obtain ⟨eb0, eb2, eb3⟩ := hb (by omega)
          obtain ⟨hx3, _⟩ := hx hi
          refine Wp.yes (by omega) (Wp.yes (by omega) ?_)
          rw [s_out ss _ _ _ h4 (fun q => g5 q.1)] at hs
          unfold outV at hs
          refine Wp.ite (fun c => endj3 ?_) (fun c => ?_)
          · rw [← hs]; unfold inn; rw [decide_eq_false (p := 0 ≤ (rd_T33 l (i - 1)).f3) (by omega)]; simp
          refine Wp.succ ?_
          simp only [dormouseref21_Slept.j3, hw]
          refine Wp.ite (fun c2 => Wp.now ?_) (fun c2 => ?_)
          · have c2 := of_decide_eq_true c2
            rw [← hs]; unfold inn; rw [decide_eq_false (p := (rd_T33 l (i - 1)).f3 < (ss.length : Int)) (by omega)]; simp
          have c2 : ¬ (rd_T33 l i).f3 ≥ (ss.length : Int) := fun h => c2 (decide_eq_true h)
          refine Wp.inside i0 hi (Wp.no (by omega) (Wp.inside (by omega) (by omega) ?_))
          have hin : inn ss.length (rd_T33 l (i - 1)).f3 = true := by unfold inn; rw [decide_eq_true (p := 0 ≤ (rd_T33 l (i - 1)).f3) (by omega), decide_eq_true (p := (rd_T33 l (i - 1)).f3 < (ss.length : Int)) (by omega)]; rfl
          rw [decide_eq_true g6, decide_eq_true hx3, hin, ← hx3, ← eb2] at hs
          refine Wp.ite (fun c3 => Wp.now ?_) (fun c3 => go (fresh ?_))
          · rw [← hs, decide_eq_true c3]; simp
          · rw [← hs, decide_eq_false c3]; simp
        · obtain ⟨eb0, eb2, eb3⟩ := hb (by omega)
          obtain ⟨hx3, _⟩ := hx hi
          refine Wp.yes (by omega) (Wp.no (by omega) (Wp.yes (by omega) ?_))
          rw [s_stay ss _ _ _ _ h4 h5 h3] at hs
          unfold outV at hs
          refine Wp.ite (fun c => endj3 ?_) (fun c => ?_)
          · rw [← hs]; unfold inn; rw [decide_eq_false (p := 0 ≤ (rd_T33 l (i - 2)).f3) (by omega)]; simp
          refine Wp.succ ?_
          simp only [dormouseref21_Slept.j3, hw]
          refine Wp.ite (fun c2 => Wp.now ?_) (fun c2 => ?_)
          · have c2 := of_decide_eq_true c2
            rw [← hs]; unfold inn; rw [decide_eq_false (p := (rd_T33 l (i - 2)).f3 < (ss.length : Int)) (by omega)]; simp
          have c2 : ¬ (rd_T33 l i).f3 ≥ (ss.length : Int) := fun h => c2 (decide_eq_true h)
          have hw2 : wrap64 (i - 2) = i - 2 := wrap_id (by omega) (by omega)
          rw [hw2]
          refine Wp.inside i0 hi (Wp.yes (by omega) (Wp.inside (by omega) (by omega) (Wp.inside (by omega) (by omega) ?_)))
          have hin : inn ss.length (rd_T33 l (i - 2)).f3 = true := by unfold inn; rw [decide_eq_true (p := 0 ≤ (rd_T33 l (i - 2)).f3) (by omega), decide_eq_true (p := (rd_T33 l (i - 2)).f3 < (ss.length : Int)) (by omega)]; rfl
          have hx2 : (rd_T33 l i).f3 = (rd_T33 l (i - 2)).f3 := by omega
          have ew : wrap64 (wrap64 ((rd_T33 l (i - 2)).f2 + (rd_T33 l (i - 1)).f2) + (rd_T33 l i).f2) = wrap64 (wrap64 (b2 + (rd_T33 l i).f2) + (rd_T33 l (i - 2)).f2) := by rw [eb2]; unfold wrap64; omega
          rw [decide_eq_true g6, decide_eq_true hx2, hin, ← hx2, ew] at hs
          refine Wp.ite (fun c3 => Wp.now ?_) (fun c3 => go (fresh ?_))
          · rw [← hs, decide_eq_true c3]; simp
          · rw [← hs, decide_eq_false c3]; simp
      · -- else
        have hs : sleptV ss (rd_T33 l i :: l.drop (i + 1).toNat) = sleptV ss l := by
          rcases ha with ⟨_, ha⟩ | ⟨_, _, _, ha⟩ | ⟨_, _, _, _, _, ha⟩
          · exact ha
          · have := (ha hi).2; omega
          · have := (ha hi).2; omega
        rw [s_else ss _ _ g5 g6 g4] at hs
        exact go ⟨Or.inl ⟨fun _ => by rw [e1]; exact ⟨g4, g5⟩, hs⟩⟩
    have j1 : ∀ (b0 b1 b2 b3 b4 b5 : Int), (0 < i → b0 = (rd_T33 l (i - 1)).f0 ∧ b2 = (rd_T33 l (i - 1)).f2 ∧ b3 = (rd_T33 l (i - 1)).f3) → (¬ 0 < i → b0 = 0) → Wp (fun k => dormouseref21_Slept.j1 k l i ls ss ds idle crit sw swE sems hor b0 b1 b2 b3 b4 b5 0 0 0 0 0 0) (fun r => r = sleptV ss l) := by
      intro b0 b1 b2 b3 b4 b5 hb hz
      refine Wp.succ ?_
      simp only [dormouseref21_Slept.j1, hw]
      refine Wp.ite (fun g => j2 _ _ _ _ _ _ _ _ _ _ _ _ hb hz (fun h => by omega) _ (fun _ => g) (fun h => absurd g (beq_eq_false_iff_ne.mp h))) (fun g => Wp.inside (by omega) (by omega) (j2 _ _ _ _ _ _ _ _ _ _ _ _ hb hz (fun h => ⟨rfl, rfl⟩) _ (fun h => absurd (beq_iff_eq.mp h) g) (fun h => by omega)))
    refine Wp.ite (fun g => ?_) (fun g => j1 _ _ _ _ _ _ (fun h => absurd h g) (fun _ => rfl))
    have hw1 : wrap64 (i - 1) = i - 1 := wrap_id (by omega) (by omega)
    rw [hw1]
    exact Wp.inside (by omega) (by omega) (j1 _ _ _ _ _ _ (fun _ => ⟨rfl, rfl, rfl⟩) (fun h => absurd g h))
  exact key 0 ⟨by simp, by simp, ⟨Or.inl ⟨fun h => by omega, by simp⟩⟩⟩
end
end Go.Proofs.Ytahdadmibmgpmaa.Wp
