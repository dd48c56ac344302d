/- GaugeLevels, over the printed functions: at every machine and counts the law answers true. No condition. -/
import Derived.Test.YtekppfjlmedhpaaQGaugeLevels
import Derived.Test.YtekppfjlmedhpaaGauge
import Derived.Test.YtekppfjlmedhpaaTab
namespace Go.Proofs.Ytekppfjlmedhpaa.Pure
open Go.RowKit Go.Proofs.YtekppfjlmedhpaaW.PrintWords Go.Proofs.Ytekppfjlmedhpaa.PAll Go.Proofs.Ytekppfjlmedhpaa.Opens Go.Proofs.Ytekppfjlmedhpaa.Wp Go.Proofs.Ytekppfjlmedhpaa.Arr

theorem wf_u16 {x : Int} (h : (Lit.int .u16 x).wf = true) : 0 ≤ x ∧ x ≤ 65535 := by
  simp only [Lit.wf, Bool.and_eq_true, decide_eq_true_eq] at h
  have h1 : IntKind.min .u16 = 0 := by decide
  have h2 : IntKind.max .u16 = 65535 := by decide
  omega

theorem crit_le {ls : List S59} {ss : List S23} {ds : List S66} {idle crit sw swE sems hor : Int} (h : TableOk ls ss ds idle crit sw swE sems hor) :
    ∀ n : Nat, (n : Int) ≤ crit → (rd_T59 ls 0).f0 ≤ (rd_T59 ls n).f0 ∧ (rd_T59 ls n).f1 - (rd_T59 ls n).f0 * idle ≤ (rd_T59 ls 0).f1 - (rd_T59 ls 0).f0 * idle := by
  intro n
  induction n with
  | zero => intro _; exact ⟨Int.le_refl _, Int.le_refl _⟩
  | succ n ih =>
    intro hn
    have c := h.crit1
    have i := ih (by omega)
    have u := h.levels.up ((n + 1 : Nat) : Int) (by omega) (by omega)
    have v := h.levels.crit ((n + 1 : Nat) : Int) (by omega) (by omega) hn
    rw [show ((n + 1 : Nat) : Int) - 1 = (n : Int) by omega] at u v
    exact ⟨by omega, by omega⟩

structure Inv (c0 idle E0 P0 crit : Int) (s : Int × Int × Int × Int) : Prop where
  n0 : 0 ≤ s.2.2.2
  n1 : s.2.2.2 ≤ crit + 1
  cyc0 : 0 ≤ s.2.1
  cyc1 : s.2.1 ≤ s.2.2.2 * 65535
  end0 : 0 ≤ s.2.2.1 - s.2.1 * P0
  end1 : s.2.2.1 ≤ 65535 + s.2.2.2 * 16776960
  cost0 : 0 ≤ s.1
  cost1 : s.1 ≤ 4294901760 + s.2.2.2 * 4294901760
  low : s.1 ≤ s.2.1 * E0 + (s.2.2.1 - s.2.1 * P0) * idle
  first : s.2.2.2 = 0 → s.2.1 = 0 ∧ s.1 = s.2.2.1 * idle
  later : 1 ≤ s.2.2.2 → c0 < s.2.1 ∨ (s.2.1 = c0 ∧ s.1 = s.2.1 * E0 + (s.2.2.1 - s.2.1 * P0) * idle)

theorem step (c0 idle E0 P0 crit cost cyc en n c E P : Int) (h : Inv c0 idle E0 P0 crit (cost, cyc, en, n)) (hn : n ≤ crit) (hc0 : 0 ≤ c) (hc1 : c ≤ 65535) (hE0 : 0 ≤ E) (hE1 : E ≤ 65536) (hP0 : 1 ≤ P) (hP1 : P ≤ 256) (_ : 0 ≤ idle)
    (hz : n = 0 → c = c0 ∧ E = E0 ∧ P = P0) (hup : P0 ≤ P) (hcr : E - P * idle ≤ E0 - P0 * idle) :
    Inv c0 idle E0 P0 crit (cost + c * E, cyc + c, en + c * P, n + 1) := by
  have mE := mul_bounds hc0 hc1 hE0 hE1
  have mP := mul_bounds (a := c) (b := P) (A := 65535) (B := 256) hc0 hc1 (by omega) hP1
  have ha : n ≥ 0 := h.n0
  have hb : cyc ≥ 0 := h.cyc0
  have hcc : cyc ≤ n * 65535 := h.cyc1
  have hd : 0 ≤ en - cyc * P0 := h.end0
  have he : en ≤ 65535 + n * 16776960 := h.end1
  have hf : 0 ≤ cost := h.cost0
  have hg : cost ≤ 4294901760 + n * 4294901760 := h.cost1
  have hl : cost ≤ cyc * E0 + (en - cyc * P0) * idle := h.low
  have h1 : n = 0 → cyc = 0 ∧ cost = en * idle := h.first
  have h2 : 1 ≤ n → c0 < cyc ∨ (cyc = c0 ∧ cost = cyc * E0 + (en - cyc * P0) * idle) := h.later
  have id1 : en + c * P - (cyc + c) * P0 = (en - cyc * P0) + c * (P - P0) := by grind
  have id2 : (cyc + c) * E0 + (en + c * P - (cyc + c) * P0) * idle = (cyc * E0 + (en - cyc * P0) * idle) + c * (E0 + (P - P0) * idle) := by grind
  have g1 : 0 ≤ c * (P - P0) := Int.mul_nonneg hc0 (by omega)
  have g2 : E ≤ E0 + (P - P0) * idle := by
    have : (P - P0) * idle = P * idle - P0 * idle := by grind
    omega
  have g3 : c * E ≤ c * (E0 + (P - P0) * idle) := Int.mul_le_mul_of_nonneg_left g2 hc0
  refine ⟨?_, ?_, ?_, ?_, ?_, ?_, ?_, ?_, ?_, ?_, ?_⟩ <;> dsimp only
  · omega
  · omega
  · omega
  · omega
  · rw [id1]; omega
  · omega
  · omega
  · omega
  · rw [id2]; omega
  · intro k; omega
  · intro _
    by_cases z : n = 0
    · right
      obtain ⟨e1, e2, e3⟩ := hz z
      obtain ⟨e4, e5⟩ := h1 z
      rw [id2]
      subst e1 e2 e3
      refine ⟨by omega, ?_⟩
      have i1 : c * (E + (P - P) * idle) = c * E := by grind
      have i2 : cyc * E + (en - cyc * P) * idle = en * idle := by rw [e4]; grind
      omega
    · rcases h2 (by omega) with g | ⟨g, k⟩
      · left; omega
      · by_cases y : c = 0
        · right
          rw [id2, y, Int.zero_mul, Int.zero_mul]
          omega
        · left; omega

theorem levels_loop {ls : List S59} {ss : List S23} {ds : List S66} {idle crit sw swE sems hor : Int} (h : TableOk ls ss ds idle crit sw swE sems hor) (c0 c1 c2 c3 : Int) (hc : ∀ j, 0 ≤ j → j < 4 → 0 ≤ rd4 c0 c1 c2 c3 j ∧ rd4 c0 c1 c2 c3 j ≤ 65535) :
    ∀ s : Int × Int × Int × Int, Inv c0 idle (rd_T59 ls 0).f1 (rd_T59 ls 0).f0 crit s → Wp (fun k => dormouselaw21_GaugeLevels.l0 k s.1 s.2.1 s.2.2.1 s.2.2.2 ls ss ds idle crit sw swE sems hor c0 c1 c2 c3) (fun x => x = true) := by
  refine Wp.loop (fun k (s : Int × Int × Int × Int) => dormouselaw21_GaugeLevels.l0 k s.1 s.2.1 s.2.2.1 s.2.2.2 ls ss ds idle crit sw swE sems hor c0 c1 c2 c3) _ (fun s => (crit + 1 - s.2.2.2).toNat) _ ?_
  rintro ⟨cost, cyc, en, n⟩ hI ih
  dsimp only at ih ⊢
  have cr0 := h.crit0
  have cr1 := h.crit1
  have ln := h.len1
  have id0 := h.idle0
  have id1 := h.idle1
  have ha : n ≥ 0 := hI.n0
  have hb : cyc ≥ 0 := hI.cyc0
  have hn1 : n ≤ crit + 1 := hI.n1
  have hcc : cyc ≤ n * 65535 := hI.cyc1
  have hd : 0 ≤ en - cyc * (rd_T59 ls 0).f0 := hI.end0
  have he : en ≤ 65535 + n * 16776960 := hI.end1
  have hf : 0 ≤ cost := hI.cost0
  have hg : cost ≤ 4294901760 + n * 4294901760 := hI.cost1
  have q0 := h.levels.p0 0 (by omega) (by omega)
  have mc := mul_bounds (a := cyc) (b := (rd_T59 ls 0).f0) (A := 262140) (B := 256) hb (by omega) (by omega) (by omega)
  have me := mul_bounds (a := cyc) (b := (rd_T59 ls 0).f1) (A := 262140) (B := 65536) hb (by omega) (by omega) (by omega)
  simp only [dormouselaw21_GaugeLevels.l0]
  refine Wp.ite (fun hi => Wp.yes ha (Wp.yes (by omega) (Wp.yes (by omega) ?_))) (fun hi => ?_)
  · have q := h.levels.p0 n (by omega) (by omega)
    have c := hc n (by omega) (by omega)
    have w := crit_le h n.toNat (by omega)
    rw [show ((n.toNat : Nat) : Int) = n by omega] at w
    have mE := mul_bounds c.1 c.2 q.2.2.1 q.2.2.2
    have mP := mul_bounds (a := rd4 c0 c1 c2 c3 n) (b := (rd_T59 ls n).f0) (A := 65535) (B := 256) c.1 c.2 (by omega) (by omega)
    have st := step c0 idle (rd_T59 ls 0).f1 (rd_T59 ls 0).f0 crit cost cyc en n (rd4 c0 c1 c2 c3 n) (rd_T59 ls n).f1 (rd_T59 ls n).f0 hI hi c.1 c.2 (by omega) (by omega) (by omega) (by omega) id0
      (fun z => by subst z; exact ⟨rfl, rfl, rfl⟩) w.1 w.2
    rw [wrap_id (x := rd4 c0 c1 c2 c3 n * (rd_T59 ls n).f1) (by omega) (by omega), wrap_id (x := rd4 c0 c1 c2 c3 n * (rd_T59 ls n).f0) (by omega) (by omega), wrap_id (x := cost + _) (by omega) (by omega), wrap_id (x := cyc + _) (by omega) (by omega),
      wrap_id (x := en + _) (by omega) (by omega), wrap_id (x := n + 1) (by omega) (by omega)]
    exact ih (cost + rd4 c0 c1 c2 c3 n * (rd_T59 ls n).f1, cyc + rd4 c0 c1 c2 c3 n, en + rd4 c0 c1 c2 c3 n * (rd_T59 ls n).f0, n + 1) st (by dsimp only; omega)
  · have mi := mul_bounds (a := en - cyc * (rd_T59 ls 0).f0) (b := idle) (A := 200000000) (B := 65536) hd (by omega) id0 id1
    have hl : cost ≤ cyc * (rd_T59 ls 0).f1 + (en - cyc * (rd_T59 ls 0).f0) * idle := hI.low
    have hb2 : c0 < cyc ∨ (cyc = c0 ∧ cost = cyc * (rd_T59 ls 0).f1 + (en - cyc * (rd_T59 ls 0).f0) * idle) := hI.later (by dsimp only; omega)
    have hv : gauge_Bound.f ls ss ds idle crit sw swE sems hor cyc en = some (cyc * (rd_T59 ls 0).f1 + (en - cyc * (rd_T59 ls 0).f0) * idle) := by
      unfold gauge_Bound.f
      rw [if_pos (by omega), wrap_id (x := cyc * (rd_T59 ls 0).f0) (by omega) (by omega), wrap_id (x := en - cyc * (rd_T59 ls 0).f0) (by omega) (by omega), mx_def, if_neg (by omega),
        wrap_id (x := cyc * (rd_T59 ls 0).f1) (by omega) (by omega), wrap_id (x := (en - cyc * (rd_T59 ls 0).f0) * idle) (by omega) (by omega), wrap_id (by omega) (by omega)]
    refine Wp.bindIs hv (Wp.bind (ans21 (Q := fun b => b = true) rfl) (fun t ht => Wp.yes ht (Wp.yes hl (Wp.ite (fun _ => Wp.now rfl) (fun g => Wp.now ?_)))))
    rcases hb2 with y | ⟨_, y⟩
    · exact absurd y g
    · rw [← y]; simp

theorem GaugeLevels : QGaugeLevels.Pure := by
  intro ls ss ds idle crit sw swE sems hor a b c d e _ ga gb gc gd ge
  have wa := wf_u16 ga
  have wb := wf_u16 gb
  have wc := wf_u16 gc
  have wd := wf_u16 gd
  have we := wf_u16 ge
  refine Wp.rounds ?_
  simp only [dormouselaw21_GaugeLevels.f]
  refine Wp.bind (table_tells ls ss ds idle crit sw swE sems hor) (fun t ht => Wp.ite (fun h => ?_) (fun _ => ans21b))
  have hT := ht h
  have i0 := hT.idle0
  have i1 := hT.idle1
  have cr0 := hT.crit0
  have m := mul_bounds (a := e) (b := idle) (A := 65535) (B := 65536) we.1 we.2 i0 i1
  rw [wrap_id (x := a) (by omega) (by omega), wrap_id (x := b) (by omega) (by omega), wrap_id (x := c) (by omega) (by omega), wrap_id (x := d) (by omega) (by omega), wrap_id (x := e) (by omega) (by omega), wrap_id (x := e * idle) (by omega) (by omega)]
  refine levels_loop hT a b c d (fun j j0 j1 => ?_) (e * idle, 0, e, 0) ⟨by dsimp only; omega, by dsimp only; omega, by dsimp only; omega, by dsimp only; omega, by dsimp only; omega, by dsimp only; omega, by dsimp only; omega, by dsimp only; omega, by simp, fun _ => ⟨rfl, rfl⟩, fun k => by dsimp only at k; omega⟩
  rcases idx4 j0 j1 with rfl | rfl | rfl | rfl
  · exact wa
  · exact wb
  · exact wc
  · exact wd

end Go.Proofs.Ytekppfjlmedhpaa.Pure
