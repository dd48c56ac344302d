/- MeterOne, over the printed functions: at every machine, meter and interval the law answers true. No condition. -/
import Derived.Test.YtfimgecceneagaaQMeterOne
import Derived.Test.YtfimgecceneagaaMeterB
import Derived.Test.YtfimgecceneagaaTab
namespace Go.Proofs.Ytfimgecceneagaa.Pure
open Go.RowKit Go.Proofs.YtfimgecceneagaaW.PrintWords Go.Proofs.Ytfimgecceneagaa.PAll Go.Proofs.Ytfimgecceneagaa.Opens Go.Proofs.Ytfimgecceneagaa.Wp Go.Proofs.Ytfimgecceneagaa.Arr

theorem rd4_up (a b c d x j t : Int) (h0 : 0 ≤ j) (h1 : j < 4) (g0 : 0 ≤ t) (g1 : t < 4) : rd4 (up 0 t a x) (up 1 t b x) (up 2 t c x) (up 3 t d x) j = if j = t then x else rd4 a b c d j := by
  rcases idx4 h0 h1 with rfl | rfl | rfl | rfl <;> rcases idx4 g0 g1 with rfl | rfl | rfl | rfl <;> rfl

/-- What an interval costs on a machine that may be. -/
theorem of_bounds {ls : List S66} {ss : List S69} {ds : List S72} {idle crit sw swE sems hor kind len arg cyc : Int} (h : TableOk ls ss ds idle crit sw swE sems hor)
    (l0 : 0 ≤ len) (l1 : len ≤ 1073741824) (c0 : 0 ≤ cyc) (c1 : cyc ≤ 1073741824) : 0 ≤ ofW ls ss idle swE kind len arg cyc ∧ ofW ls ss idle swE kind len arg cyc ≤ 70368744177664 := by
  have i0 := h.idle0
  have i1 := h.idle1
  have s0 := h.swE0
  have s1 := h.swE1
  unfold ofW
  by_cases k1 : kind = 1
  · rw [if_pos k1]
    by_cases g : 0 ≤ arg ∧ arg < (ls.length : Int)
    · rw [if_pos g]
      have p := h.levels.p0 arg g.1 g.2
      have m := mul_bounds c0 c1 p.2.2.1 p.2.2.2
      rw [wrap_id (by omega) (by omega)]
      omega
    · rw [if_neg g]; omega
  rw [if_neg k1]
  by_cases k2 : kind = 2
  · rw [if_pos k2]
    have m := mul_bounds l0 l1 i0 i1
    rw [wrap_id (by omega) (by omega)]
    omega
  rw [if_neg k2]
  by_cases k3 : kind = 3
  · rw [if_pos k3]; omega
  rw [if_neg k3]
  by_cases g : 0 ≤ arg ∧ arg < (ss.length : Int)
  · have p := h.sleeps arg g.1 g.2
    have p1 := p.downE0
    have p2 := p.downE1
    have p3 := p.upE0
    have p4 := p.upE1
    have p5 := p.off0
    have p6 := p.off1
    have m := mul_bounds l0 l1 p5 (Int.le_trans p6 i1)
    simp only [if_pos g]
    rw [wrap_id (by omega) (by omega)]
    repeat' split
    all_goals omega
  · simp only [if_neg g]
    repeat' split
    all_goals omega
theorem of_none {ls : List S66} {ss : List S69} {idle swE kind len arg cyc : Int} (h : ¬ (1 ≤ kind ∧ kind ≤ 6)) : ofW ls ss idle swE kind len arg cyc = 0 := by
  unfold ofW
  rw [if_neg (by omega), if_neg (by omega), if_neg (by omega), if_neg (by omega), if_neg (by omega), if_neg (by omega)]

section
variable (ls : List S66) (ss : List S69) (ds : List S72) (idle crit sw swE sems hor m0 m1 m2 m3 kind from_ len arg task cyc : Int)
theorem one_end (b0 b1 b2 b3 T B : Int) (hT : T ≤ 1) (hB : 0 ≤ B) (hn : B = ofW ls ss idle swE kind len arg cyc) :
    Wp (fun k => dormouselaw05_MeterOne.l1 k T B 4 ls ss ds idle crit sw swE sems hor m0 m1 m2 m3 kind from_ len arg task cyc m0 m1 m2 m3 b0 b1 b2 b3) (fun x => x = true) := by
  refine Wp.succ ?_
  simp only [dormouselaw05_MeterOne.l1]
  have fin : Wp (fun _ => (dormouselaw05_four.f m0 m1 m2 m3).bind fun bt => some (bt.1 == m0 && (bt.2.1 == m1 && (bt.2.2.1 == m2 && (bt.2.2.2 == m3))))) (fun x => x = true) :=
    Wp.bindIs (a := (m0, m1, m2, m3)) rfl (Wp.now (by simp))
  refine Wp.no (by omega) (Wp.ite (fun h1 => ?_) (fun h1 => ?_))
  · refine Wp.bindIs (of_is ls ss ds idle crit sw swE sems hor kind from_ len arg task cyc) (Wp.bindIs ans05 (Wp.yes rfl (Wp.yes hT (Wp.yes hB (Wp.ite (fun h2 => Wp.yes hn fin) (fun h2 => ?_))))))
    have z := of_none (ls := ls) (ss := ss) (idle := idle) (swE := swE) (len := len) (arg := arg) (cyc := cyc) (kind := kind) (by omega)
    exact Wp.yes (by omega) (Wp.yes z fin)
  · have z := of_none (ls := ls) (ss := ss) (idle := idle) (swE := swE) (len := len) (arg := arg) (cyc := cyc) (kind := kind) (by omega)
    exact Wp.bindIs (of_is ls ss ds idle crit sw swE sems hor kind from_ len arg task cyc) (Wp.bindIs ans05 (Wp.yes rfl (Wp.yes hT (Wp.yes hB (Wp.yes (by omega) (Wp.yes z fin))))))
theorem one_upto (b0 b1 b2 b3 T B t : Int) (ht : t ≤ 4) (h : Wp (fun k => dormouselaw05_MeterOne.l1 k T B t ls ss ds idle crit sw swE sems hor m0 m1 m2 m3 kind from_ len arg task cyc m0 m1 m2 m3 b0 b1 b2 b3) (fun x => x = true)) :
    ∀ (n : Nat) (i : Int), 0 ≤ i → i + n = t → (∀ j, i ≤ j → j < t → rd4 m0 m1 m2 m3 j = rd4 b0 b1 b2 b3 j) →
      Wp (fun k => dormouselaw05_MeterOne.l1 k T B i ls ss ds idle crit sw swE sems hor m0 m1 m2 m3 kind from_ len arg task cyc m0 m1 m2 m3 b0 b1 b2 b3) (fun x => x = true) := by
  intro n
  induction n with
  | zero =>
    intro i h0 hi _
    have : i = t := by omega
    rw [this]; exact h
  | succ n ih =>
    intro i h0 hi he
    refine Wp.succ ?_
    simp only [dormouselaw05_MeterOne.l1]
    refine Wp.yes (by omega) (Wp.yes h0 (Wp.yes (he i (by omega) (by omega)) ?_))
    rw [wrap_id (x := i + 1) (by omega) (by omega)]
    exact ih (i + 1) (by omega) (by omega) (fun j hj0 hj1 => he j (by omega) hj1)
theorem one_loop (hm : 0 ≤ ofW ls ss idle swE kind len arg cyc ∧ ofW ls ss idle swE kind len arg cyc ≤ 70368744177664) (ha : ∀ j, 0 ≤ j → j < 4 → 0 ≤ rd4 m0 m1 m2 m3 j ∧ rd4 m0 m1 m2 m3 j ≤ 1152921504606846976) (b : Int × Int × Int × Int)
    (hb : b = addR kind (ofW ls ss idle swE kind len arg cyc) m0 m1 m2 m3) :
    Wp (fun k => dormouselaw05_MeterOne.l1 k 0 0 0 ls ss ds idle crit sw swE sems hor m0 m1 m2 m3 kind from_ len arg task cyc m0 m1 m2 m3 b.1 b.2.1 b.2.2.1 b.2.2.2) (fun x => x = true) := by
  by_cases hk : 1 ≤ kind ∧ kind ≤ 6
  · obtain ⟨t, _, ht, he⟩ := add_up kind (ofW ls ss idle swE kind len arg cyc) m0 m1 m2 m3 hk.1 hk.2
    generalize hn : ofW ls ss idle swE kind len arg cyc = n at *
    have hat := ha t ht.1 ht.2
    rw [wrap_id (by omega) (by omega)] at he
    rw [he] at hb
    subst hb
    dsimp only
    have other : ∀ j, 0 ≤ j → j < 4 → j ≠ t → rd4 m0 m1 m2 m3 j = rd4 (up 0 t m0 (rd4 m0 m1 m2 m3 t + n)) (up 1 t m1 (rd4 m0 m1 m2 m3 t + n)) (up 2 t m2 (rd4 m0 m1 m2 m3 t + n)) (up 3 t m3 (rd4 m0 m1 m2 m3 t + n)) j := by
      intro j j0 j1 hj
      rw [rd4_up _ _ _ _ _ j t j0 j1 ht.1 ht.2, if_neg hj]
    have it := rd4_up m0 m1 m2 m3 (rd4 m0 m1 m2 m3 t + n) t t ht.1 ht.2 ht.1 ht.2
    rw [if_pos rfl] at it
    by_cases z : n = 0
    · refine one_upto ls ss ds idle crit sw swE sems hor m0 m1 m2 m3 kind from_ len arg task cyc _ _ _ _ 0 0 4 (by omega) (one_end ls ss ds idle crit sw swE sems hor m0 m1 m2 m3 kind from_ len arg task cyc _ _ _ _ 0 0 (by omega) (by omega) (by omega)) 4 0 (by omega) (by omega) (fun j j0 j1 => ?_)
      by_cases e : j = t
      · rw [e, it]; omega
      · exact other j j0 j1 e
    · refine one_upto ls ss ds idle crit sw swE sems hor m0 m1 m2 m3 kind from_ len arg task cyc _ _ _ _ 0 0 t (by omega) ?_ t.toNat 0 (by omega) (by omega) (fun j j0 j1 => other j j0 (by omega) (by omega))
      refine Wp.succ ?_
      simp only [dormouselaw05_MeterOne.l1]
      refine Wp.yes ht.2 (Wp.yes ht.1 (Wp.no (by rw [it]; omega) ?_))
      rw [it, wrap_id (x := t + 1) (by omega) (by omega), wrap_id (x := rd4 m0 m1 m2 m3 t + n - rd4 m0 m1 m2 m3 t) (by omega) (by omega), wrap_id (x := 0 + 1) (by omega) (by omega)]
      exact one_upto ls ss ds idle crit sw swE sems hor m0 m1 m2 m3 kind from_ len arg task cyc _ _ _ _ (0 + 1) (rd4 m0 m1 m2 m3 t + n - rd4 m0 m1 m2 m3 t) 4 (by omega) (one_end ls ss ds idle crit sw swE sems hor m0 m1 m2 m3 kind from_ len arg task cyc _ _ _ _ _ _ (by omega) (by omega) (by omega)) (3 - t).toNat (t + 1) (by omega) (by omega) (fun j j0 j1 => other j (by omega) (by omega) (by omega))
  · rw [add_none kind _ m0 m1 m2 m3 hk] at hb
    subst hb
    exact one_upto ls ss ds idle crit sw swE sems hor m0 m1 m2 m3 kind from_ len arg task cyc m0 m1 m2 m3 0 0 4 (by omega) (one_end ls ss ds idle crit sw swE sems hor m0 m1 m2 m3 kind from_ len arg task cyc m0 m1 m2 m3 0 0 (by omega) (by omega) (of_none hk).symm) 4 0 (by omega) (by omega) (fun j _ _ => rfl)
theorem one_l0 (hm : 0 ≤ ofW ls ss idle swE kind len arg cyc ∧ ofW ls ss idle swE kind len arg cyc ≤ 70368744177664) :
    ∀ (n : Nat) (i : Int), 0 ≤ i → i + n = 4 → (∀ j, 0 ≤ j → j < i → 0 ≤ rd4 m0 m1 m2 m3 j ∧ rd4 m0 m1 m2 m3 j ≤ 1152921504606846976) →
      Wp (fun k => dormouselaw05_MeterOne.l0 k i ls ss ds idle crit sw swE sems hor m0 m1 m2 m3 kind from_ len arg task cyc m0 m1 m2 m3) (fun x => x = true) := by
  intro n
  induction n with
  | zero =>
    intro i h0 hi ha
    refine Wp.succ ?_
    simp only [dormouselaw05_MeterOne.l0]
    refine Wp.no (by omega) (Wp.bindIs (add_is m0 m1 m2 m3 ls ss ds idle crit sw swE sems hor kind from_ len arg task cyc) (Wp.bindIs rfl ?_))
    exact one_loop ls ss ds idle crit sw swE sems hor m0 m1 m2 m3 kind from_ len arg task cyc hm (fun j j0 j1 => ha j j0 (by omega)) (addR kind (ofW ls ss idle swE kind len arg cyc) m0 m1 m2 m3) rfl
  | succ n ih =>
    intro i h0 hi ha
    refine Wp.succ ?_
    simp only [dormouselaw05_MeterOne.l0]
    refine Wp.yes (by omega) (Wp.yes h0 (Wp.ite (fun _ => ans05b) (fun g0 => Wp.ite (fun _ => ans05b) (fun g1 => ?_))))
    rw [wrap_id (x := i + 1) (by omega) (by omega)]
    refine ih (i + 1) (by omega) (by omega) (fun j j0 j1 => ?_)
    by_cases e : j = i
    · rw [e]; omega
    · exact ha j j0 (by omega)
end

theorem MeterOne : QMeterOne.Pure := by
  intro ls ss ds idle crit sw swE sems hor m0 m1 m2 m3 kind from_ len arg task cyc _ _ _
  refine Wp.rounds ?_
  have key : ∀ b, (b = false → 0 ≤ ofW ls ss idle swE kind len arg cyc ∧ ofW ls ss idle swE kind len arg cyc ≤ 70368744177664) → Wp (fun k => dormouselaw05_MeterOne.j0 k b ls ss ds idle crit sw swE sems hor m0 m1 m2 m3 kind from_ len arg task cyc) (fun x => x = true) := by
    intro b hb
    refine Wp.succ ?_
    simp only [dormouselaw05_MeterOne.j0]
    refine Wp.ite (fun _ => ans05b) (fun h => Wp.bindIs (a := (m0, m1, m2, m3)) rfl ?_)
    exact one_l0 ls ss ds idle crit sw swE sems hor m0 m1 m2 m3 kind from_ len arg task cyc (hb (Bool.eq_false_iff.mpr h)) 4 0 (by omega) (by omega) (fun j j0 j1 => by omega)
  simp only [dormouselaw05_MeterOne.f]
  obtain ⟨x, hx, hs⟩ := small_tells kind from_ len arg task cyc
  refine Wp.bind (table_tells ls ss ds idle crit sw swE sems hor) (fun t ht => Wp.ite (fun h => Wp.bindIs hx (key _ (fun g => ?_))) (fun _ => key _ (fun h => by cases h)))
  have hx1 : x = true := by cases x <;> simp_all
  have s := hs hx1
  exact of_bounds (ht h) s.1 s.2.1 s.2.2.1 s.2.2.2

end Go.Proofs.Ytfimgecceneagaa.Pure
