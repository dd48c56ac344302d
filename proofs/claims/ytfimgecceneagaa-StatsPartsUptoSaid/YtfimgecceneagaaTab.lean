/- What a machine that may be is like (chapter 4), of the printed functions away, Sleep, Device and Table: they answer at every machine, and where the answer is yes all bounds hold. -/
import Derived.Test.YtfimgecceneagaaWp
import Derived.Test.YtfimgecceneagaaPAllf11d
namespace Go.Proofs.Ytfimgecceneagaa.Wp
open Go.RowKit Go.Proofs.YtfimgecceneagaaW.PrintWords Go.Proofs.Ytfimgecceneagaa.PAll

structure AwayOk (down up downE upE off on even : Int) : Prop where
  down0 : 0 ≤ down
  down1 : down ≤ 256
  up0 : 0 ≤ up
  up1 : up ≤ 256
  downE0 : 0 ≤ downE
  downE1 : downE ≤ 65536
  upE0 : 0 ≤ upE
  upE1 : upE ≤ 65536
  on0 : 0 ≤ on
  on1 : on ≤ 65536
  off0 : 0 ≤ off
  off1 : off ≤ on
  even0 : down + up ≤ even
  even1 : 1 ≤ even
  even2 : even ≤ 16384
  saves : downE + upE + off * (even - down - up) ≤ on * even

theorem away_tells (a0 a1 a2 a3 a4 a5 a6 : Int) : ∃ b, dormouseref01_away.f a0 a1 a2 a3 a4 a5 a6 = some b ∧ (b = true → AwayOk a0 a1 a2 a3 a4 a5 a6) := by
  unfold dormouseref01_away.f
  by_cases c1 : a0 < 0
  · exact ⟨false, if_pos c1, fun h => by cases h⟩
  rw [if_neg c1]
  by_cases c2 : a0 > 256
  · exact ⟨false, if_pos c2, fun h => by cases h⟩
  rw [if_neg c2]
  by_cases c3 : a1 < 0
  · exact ⟨false, if_pos c3, fun h => by cases h⟩
  rw [if_neg c3]
  by_cases c4 : a1 > 256
  · exact ⟨false, if_pos c4, fun h => by cases h⟩
  rw [if_neg c4]
  by_cases c5 : a2 < 0
  · exact ⟨false, if_pos c5, fun h => by cases h⟩
  rw [if_neg c5]
  by_cases c6 : a2 > 65536
  · exact ⟨false, if_pos c6, fun h => by cases h⟩
  rw [if_neg c6]
  by_cases c7 : a3 < 0
  · exact ⟨false, if_pos c7, fun h => by cases h⟩
  rw [if_neg c7]
  by_cases c8 : a3 > 65536
  · exact ⟨false, if_pos c8, fun h => by cases h⟩
  rw [if_neg c8]
  by_cases c9 : a5 < 0
  · exact ⟨false, if_pos c9, fun h => by cases h⟩
  rw [if_neg c9]
  by_cases c10 : a5 > 65536
  · exact ⟨false, if_pos c10, fun h => by cases h⟩
  rw [if_neg c10]
  by_cases c11 : a4 < 0
  · exact ⟨false, if_pos c11, fun h => by cases h⟩
  rw [if_neg c11]
  by_cases c12 : a4 > a5
  · exact ⟨false, if_pos c12, fun h => by cases h⟩
  rw [if_neg c12]
  by_cases d1 : a6 ≥ wrap64 (a0 + a1)
  case neg => exact ⟨false, if_neg d1, fun h => by cases h⟩
  rw [if_pos d1]
  by_cases d2 : a6 ≥ 1
  case neg => exact ⟨false, if_neg d2, fun h => by cases h⟩
  rw [if_pos d2]
  by_cases d3 : a6 ≤ 16384
  case neg => exact ⟨false, if_neg d3, fun h => by cases h⟩
  rw [if_pos d3]
  refine ⟨_, rfl, fun h => ?_⟩
  have h := of_decide_eq_true h
  rw [wrap_id (x := a0 + a1) (by omega) (by omega)] at d1
  have m1 := mul_bounds (a := a4) (b := a6 - a0 - a1) (A := 65536) (B := 16384) (by omega) (by omega) (by omega) (by omega)
  have m2 := mul_bounds (a := a5) (b := a6) (A := 65536) (B := 16384) (by omega) (by omega) (by omega) (by omega)
  rw [wrap_id (x := a2 + a3) (by omega) (by omega), wrap_id (x := a6 - a0) (by omega) (by omega), wrap_id (x := a6 - a0 - a1) (by omega) (by omega), wrap_id (x := a4 * (a6 - a0 - a1)) (by omega) (by omega), wrap_id (x := a5 * a6) (by omega) (by omega), wrap_id (by omega) (by omega)] at h
  exact ⟨by omega, by omega, by omega, by omega, by omega, by omega, by omega, by omega, by omega, by omega, by omega, by omega, by omega, by omega, by omega, h⟩

/-- A sleep state, a device, that may be. -/
abbrev SleepOk (x : S69) (idle : Int) : Prop := AwayOk x.f1 x.f2 x.f3 x.f4 x.f0 idle x.f5
abbrev DeviceOk (x : S72) : Prop := AwayOk x.f2 x.f3 x.f4 x.f5 x.f1 x.f0 x.f6
theorem sleep_tells (a0 a1 a2 a3 a4 a5 idle : Int) : ∃ b, dormouseref01_Sleep.f a0 a1 a2 a3 a4 a5 idle = some b ∧ (b = true → AwayOk a1 a2 a3 a4 a0 idle a5) := by
  obtain ⟨b, hb, h⟩ := away_tells a1 a2 a3 a4 a0 idle a5
  exact ⟨b, by unfold dormouseref01_Sleep.f; rw [hb]; rfl, h⟩
theorem device_tells (a0 a1 a2 a3 a4 a5 a6 : Int) : ∃ b, dormouseref01_Device.f a0 a1 a2 a3 a4 a5 a6 = some b ∧ (b = true → AwayOk a2 a3 a4 a5 a1 a0 a6) := by
  obtain ⟨b, hb, h⟩ := away_tells a2 a3 a4 a5 a1 a0 a6
  exact ⟨b, by unfold dormouseref01_Device.f; rw [hb]; rfl, h⟩

structure LevelsOk (ls : List S66) (idle crit : Int) (n : Int) : Prop where
  p0 : ∀ i : Int, 0 ≤ i → i < n → 1 ≤ (rd_T66 ls i).f0 ∧ (rd_T66 ls i).f0 ≤ 256 ∧ 0 ≤ (rd_T66 ls i).f1 ∧ (rd_T66 ls i).f1 ≤ 65536
  up : ∀ i : Int, 0 < i → i < n → (rd_T66 ls (i - 1)).f0 < (rd_T66 ls i).f0
  crit : ∀ i : Int, 0 < i → i < n → i ≤ crit → (rd_T66 ls i).f1 - (rd_T66 ls i).f0 * idle ≤ (rd_T66 ls (i - 1)).f1 - (rd_T66 ls (i - 1)).f0 * idle
structure HeadOk (ls : List S66) (ss : List S69) (ds : List S72) (idle crit sw swE sems hor : Int) : Prop where
  len0 : 1 ≤ (ls.length : Int)
  len1 : (ls.length : Int) ≤ 4
  idle0 : 0 ≤ idle
  idle1 : idle ≤ 65536
  crit0 : 0 ≤ crit
  crit1 : crit < (ls.length : Int)
  sw0 : 0 ≤ sw
  sw1 : sw ≤ 256
  swE0 : 0 ≤ swE
  swE1 : swE ≤ 65536
  ss1 : (ss.length : Int) ≤ 3
  ds1 : (ds.length : Int) ≤ 3
  sems0 : 0 ≤ sems
  sems1 : sems ≤ 3
  hor0 : 1 ≤ hor
  hor1 : hor ≤ 16384
structure TableOk (ls : List S66) (ss : List S69) (ds : List S72) (idle crit sw swE sems hor : Int) : Prop extends HeadOk ls ss ds idle crit sw swE sems hor where
  levels : LevelsOk ls idle crit ls.length
  sleeps : ∀ i : Int, 0 ≤ i → i < ss.length → SleepOk (rd_T69 ss i) idle
  devices : ∀ i : Int, 0 ≤ i → i < ds.length → DeviceOk (rd_T72 ds i)

section
variable {ls : List S66} {ss : List S69} {ds : List S72} {idle crit sw swE sems hor : Int}
theorem table_l2 (hh : HeadOk ls ss ds idle crit sw swE sems hor) (hl : LevelsOk ls idle crit ls.length) (hs : ∀ i : Int, 0 ≤ i → i < ss.length → SleepOk (rd_T69 ss i) idle) :
    ∀ i : Int, (0 ≤ i ∧ i ≤ ds.length ∧ ∀ j : Int, 0 ≤ j → j < i → DeviceOk (rd_T72 ds j)) → Wp (fun k => dormouseref01_Table.l2 k i ls ss ds idle crit sw swE sems hor) (fun b => b = true → TableOk ls ss ds idle crit sw swE sems hor) := by
  refine Wp.loop (fun k i => dormouseref01_Table.l2 k i ls ss ds idle crit sw swE sems hor) _ (fun i => (ds.length - i).toNat) _ ?_
  rintro i ⟨h0, h1, hd⟩ ih
  have := hh.ds1
  simp only [dormouseref01_Table.l2]
  refine Wp.ite (fun hi => ?_) (fun hi => ?_)
  · refine Wp.yes h0 ?_
    obtain ⟨b, hb, hok⟩ := device_tells (rd_T72 ds i).f0 (rd_T72 ds i).f1 (rd_T72 ds i).f2 (rd_T72 ds i).f3 (rd_T72 ds i).f4 (rd_T72 ds i).f5 (rd_T72 ds i).f6
    refine Wp.bindIs hb (Wp.ite (fun hbt => ?_) (fun _ => Wp.now (fun h => by cases h)))
    rw [wrap_id (by omega) (by omega)]
    refine ih (i + 1) ⟨by omega, by omega, fun j hj0 hj1 => ?_⟩ (by omega)
    by_cases e : j = i
    · subst e; exact hok hbt
    · exact hd j hj0 (by omega)
  · exact Wp.now fun _ => ⟨hh, hl, hs, fun j hj0 hj1 => hd j hj0 (by omega)⟩
theorem table_l1 (hh : HeadOk ls ss ds idle crit sw swE sems hor) (hl : LevelsOk ls idle crit ls.length) :
    ∀ i : Int, (0 ≤ i ∧ i ≤ ss.length ∧ ∀ j : Int, 0 ≤ j → j < i → SleepOk (rd_T69 ss j) idle) → Wp (fun k => dormouseref01_Table.l1 k i ls ss ds idle crit sw swE sems hor) (fun b => b = true → TableOk ls ss ds idle crit sw swE sems hor) := by
  refine Wp.loop (fun k i => dormouseref01_Table.l1 k i ls ss ds idle crit sw swE sems hor) _ (fun i => (ss.length - i).toNat) _ ?_
  rintro i ⟨h0, h1, hd⟩ ih
  have := hh.ss1
  simp only [dormouseref01_Table.l1]
  refine Wp.ite (fun hi => ?_) (fun hi => ?_)
  · refine Wp.yes h0 ?_
    obtain ⟨b, hb, hok⟩ := sleep_tells (rd_T69 ss i).f0 (rd_T69 ss i).f1 (rd_T69 ss i).f2 (rd_T69 ss i).f3 (rd_T69 ss i).f4 (rd_T69 ss i).f5 idle
    refine Wp.bindIs hb (Wp.ite (fun hbt => ?_) (fun _ => Wp.now (fun h => by cases h)))
    rw [wrap_id (by omega) (by omega)]
    refine ih (i + 1) ⟨by omega, by omega, fun j hj0 hj1 => ?_⟩ (by omega)
    by_cases e : j = i
    · subst e; exact hok hbt
    · exact hd j hj0 (by omega)
  · exact table_l2 hh hl (fun j hj0 hj1 => hd j hj0 (by omega)) 0 ⟨by omega, by omega, fun j _ _ => by omega⟩
theorem table_l0 (hh : HeadOk ls ss ds idle crit sw swE sems hor) :
    ∀ i : Int, (0 ≤ i ∧ i ≤ ls.length ∧ LevelsOk ls idle crit i) → Wp (fun k => dormouseref01_Table.l0 k i ls ss ds idle crit sw swE sems hor) (fun b => b = true → TableOk ls ss ds idle crit sw swE sems hor) := by
  refine Wp.loop (fun k i => dormouseref01_Table.l0 k i ls ss ds idle crit sw swE sems hor) _ (fun i => (ls.length - i).toNat) _ ?_
  rintro i ⟨h0, h1, hd⟩ ih
  have := hh.len1
  have := hh.idle0
  have := hh.idle1
  simp only [dormouseref01_Table.l0]
  refine Wp.ite (fun hi => ?_) (fun hi => ?_)
  · refine Wp.yes h0 ?_
    have no : ∀ (p q : Int), Wp (fun k => dormouseref01_Table.j3 k i true ls ss ds idle crit sw swE sems hor p q) (fun b => b = true → TableOk ls ss ds idle crit sw swE sems hor) := by
      intro p q
      refine Wp.succ ?_
      simp only [dormouseref01_Table.j3]
      exact Wp.yes (by simp) (Wp.now (fun h => by cases h))
    refine Wp.ite (fun _ => no _ _) (fun g1 => Wp.ite (fun _ => no _ _) (fun g2 => Wp.ite (fun _ => no _ _) (fun g3 => Wp.ite (fun _ => no _ _) (fun g4 => ?_))))
    refine Wp.ite (fun g5 => ?_) (fun g5 => ?_)
    · rw [wrap_id (x := i - 1) (by omega) (by omega)]
      refine Wp.inside (by omega) (by omega) (Wp.succ ?_)
      simp only [dormouseref01_Table.j3]
      refine Wp.ite (fun _ => Wp.now (fun h => by cases h)) (fun g6 => ?_)
      have g6 : ¬ (rd_T66 ls i).f0 ≤ (rd_T66 ls (i - 1)).f0 := fun h => g6 (decide_eq_true h)
      have up : ∀ j : Int, 0 < j → j < i + 1 → (rd_T66 ls (j - 1)).f0 < (rd_T66 ls j).f0 := fun j hj0 hj1 => by
        by_cases e : j = i
        · subst e; omega
        · exact hd.up j hj0 (by omega)
      have p0 : ∀ j : Int, 0 ≤ j → j < i + 1 → 1 ≤ (rd_T66 ls j).f0 ∧ (rd_T66 ls j).f0 ≤ 256 ∧ 0 ≤ (rd_T66 ls j).f1 ∧ (rd_T66 ls j).f1 ≤ 65536 := fun j hj0 hj1 => by
        by_cases e : j = i
        · subst e; exact ⟨by omega, by omega, by omega, by omega⟩
        · exact hd.p0 j hj0 (by omega)
      have q0 := p0 (i - 1) (by omega) (by omega)
      have m1 := mul_bounds (a := (rd_T66 ls i).f0) (b := idle) (A := 256) (B := 65536) (by omega) (by omega) (by omega) (by omega)
      have m2 := mul_bounds (a := (rd_T66 ls (i - 1)).f0) (b := idle) (A := 256) (B := 65536) (by omega) (by omega) (by omega) (by omega)
      refine Wp.yes (by omega) (Wp.ite (fun g7 => ?_) (fun g7 => ?_))
      · rw [wrap_id (x := i - 1) (by omega) (by omega)]
        refine Wp.inside (by omega) (by omega) (Wp.ite (fun _ => Wp.now (fun h => by cases h)) (fun g8 => ?_))
        rw [wrap_id (x := (rd_T66 ls i).f0 * idle) (by omega) (by omega), wrap_id (x := (rd_T66 ls (i - 1)).f0 * idle) (by omega) (by omega), wrap_id (by omega) (by omega), wrap_id (by omega) (by omega)] at g8
        rw [wrap_id (by omega) (by omega)]
        refine ih (i + 1) ⟨by omega, by omega, p0, up, fun j hj0 hj1 hj2 => ?_⟩ (by omega)
        by_cases e : j = i
        · subst e; omega
        · exact hd.crit j hj0 (by omega) hj2
      · rw [wrap_id (by omega) (by omega)]
        refine ih (i + 1) ⟨by omega, by omega, p0, up, fun j hj0 hj1 hj2 => hd.crit j hj0 (by omega) hj2⟩ (by omega)
    · refine Wp.succ ?_
      simp only [dormouseref01_Table.j3]
      refine Wp.no (by simp) (Wp.no g5 ?_)
      rw [wrap_id (by omega) (by omega)]
      have e0 : i = 0 := by omega
      subst e0
      exact ih (0 + 1) ⟨by omega, by omega, fun j hj0 hj1 => by
        have : j = 0 := by omega
        subst this; exact ⟨by omega, by omega, by omega, by omega⟩, fun j hj0 hj1 => by omega, fun j hj0 hj1 => by omega⟩ (by omega)
  · have e : i = ls.length := by omega
    subst e
    exact table_l1 hh hd 0 ⟨by omega, by omega, fun j _ _ => by omega⟩
/-- Table answers; where it answers yes, all bounds hold. -/
theorem table_tells (ls : List S66) (ss : List S69) (ds : List S72) (idle crit sw swE sems hor : Int) :
    Wp (fun k => dormouseref01_Table.f k ls ss ds idle crit sw swE sems hor) (fun b => b = true → TableOk ls ss ds idle crit sw swE sems hor) := by
  have no : Wp (fun k => dormouseref01_Table.j0 k true ls ss ds idle crit sw swE sems hor) (fun b => b = true → TableOk ls ss ds idle crit sw swE sems hor) := by
    refine Wp.succ ?_
    simp only [dormouseref01_Table.j0]
    exact Wp.yes (by simp) (Wp.now (fun h => by cases h))
  have no1 : Wp (fun k => dormouseref01_Table.j1 k true ls ss ds idle crit sw swE sems hor) (fun b => b = true → TableOk ls ss ds idle crit sw swE sems hor) := by
    refine Wp.succ ?_
    simp only [dormouseref01_Table.j1]
    exact Wp.yes (by simp) (Wp.now (fun h => by cases h))
  simp only [dormouseref01_Table.f]
  refine Wp.ite (fun _ => no) (fun c1 => Wp.ite (fun _ => no) (fun c2 => Wp.ite (fun _ => no) (fun c3 => Wp.ite (fun _ => no) (fun c4 => Wp.ite (fun _ => no) (fun c5 => Wp.ite (fun _ => no) (fun c6 => Wp.ite (fun _ => no) (fun c7 => Wp.ite (fun _ => no) (fun c8 => Wp.ite (fun _ => no) (fun c9 => Wp.succ ?_)))))))))
  simp only [dormouseref01_Table.j0]
  refine Wp.ite (fun _ => Wp.now (fun h => by cases h)) (fun d0 => ?_)
  have d0 : ¬ swE > 65536 := fun h => d0 (decide_eq_true h)
  refine Wp.ite (fun _ => no1) (fun d1 => Wp.ite (fun _ => no1) (fun d2 => Wp.ite (fun _ => no1) (fun d3 => Wp.ite (fun _ => no1) (fun d4 => Wp.ite (fun _ => no1) (fun d5 => Wp.succ ?_)))))
  simp only [dormouseref01_Table.j1]
  refine Wp.ite (fun _ => Wp.now (fun h => by cases h)) (fun e0 => ?_)
  have e0 : ¬ hor > 16384 := fun h => e0 (decide_eq_true h)
  exact table_l0 ⟨by omega, by omega, by omega, by omega, by omega, by omega, by omega, by omega, by omega, by omega, by omega, by omega, by omega, by omega, by omega, by omega⟩ 0 ⟨by omega, by omega, fun j _ _ => by omega, fun j _ _ => by omega, fun j _ _ => by omega⟩
end
end Go.Proofs.Ytfimgecceneagaa.Wp
