/- What the printed functions of chapter 7 (dev) answer: the state, going away, being called, the energy of a device. -/
import Derived.Test.YtmalhnmiaccgpaaWp
import Derived.Test.YtmalhnmiaccgpaaPAllx5
import Derived.Test.YtmalhnmiaccgpaaPAllx6
import Derived.Test.YtmalhnmiaccgpaaPAllx8
import Derived.Test.YtmalhnmiaccgpaaPAllx10
namespace Go.Proofs.Ytmalhnmiaccgpaa.Wp
open Go.RowKit Go.Proofs.YtmalhnmiaccgpaaW.PrintWords Go.Proofs.YtmalhnmiaccgpaaW.PrintMore Go.Proofs.Ytmalhnmiaccgpaa.PAll

structure AwayOk (down up downE upE off on even : Int) : Prop where
  down0 : 0 ≤ down
  down1 : down ≤ 256
  up0 : 0 ≤ up
  up1 : up ≤ 256
  downE0 : 0 ≤ downE
  downE1 : downE ≤ 65536
  upE0 : 0 ≤ upE
  upE1 : upE ≤ 65536
  on0 : 0 ≤ on
  on1 : on ≤ 65536
  off0 : 0 ≤ off
  off1 : off ≤ on
  even0 : down + up ≤ even
  even1 : 1 ≤ even
  even2 : even ≤ 16384
  saves : downE + upE + off * (even - down - up) ≤ on * even

theorem away_tells (a0 a1 a2 a3 a4 a5 a6 : Int) : ∃ b, dormouseref01_away.f a0 a1 a2 a3 a4 a5 a6 = some b ∧ (b = true → AwayOk a0 a1 a2 a3 a4 a5 a6) := by
  unfold dormouseref01_away.f
  by_cases c1 : a0 < 0
  · exact ⟨false, if_pos c1, fun h => by cases h⟩
  rw [if_neg c1]
  by_cases c2 : a0 > 256
  · exact ⟨false, if_pos c2, fun h => by cases h⟩
  rw [if_neg c2]
  by_cases c3 : a1 < 0
  · exact ⟨false, if_pos c3, fun h => by cases h⟩
  rw [if_neg c3]
  by_cases c4 : a1 > 256
  · exact ⟨false, if_pos c4, fun h => by cases h⟩
  rw [if_neg c4]
  by_cases c5 : a2 < 0
  · exact ⟨false, if_pos c5, fun h => by cases h⟩
  rw [if_neg c5]
  by_cases c6 : a2 > 65536
  · exact ⟨false, if_pos c6, fun h => by cases h⟩
  rw [if_neg c6]
  by_cases c7 : a3 < 0
  · exact ⟨false, if_pos c7, fun h => by cases h⟩
  rw [if_neg c7]
  by_cases c8 : a3 > 65536
  · exact ⟨false, if_pos c8, fun h => by cases h⟩
  rw [if_neg c8]
  by_cases c9 : a5 < 0
  · exact ⟨false, if_pos c9, fun h => by cases h⟩
  rw [if_neg c9]
  by_cases c10 : a5 > 65536
  · exact ⟨false, if_pos c10, fun h => by cases h⟩
  rw [if_neg c10]
  by_cases c11 : a4 < 0
  · exact ⟨false, if_pos c11, fun h => by cases h⟩
  rw [if_neg c11]
  by_cases c12 : a4 > a5
  · exact ⟨false, if_pos c12, fun h => by cases h⟩
  rw [if_neg c12]
  by_cases d1 : a6 ≥ wrap64 (a0 + a1)
  case neg => exact ⟨false, if_neg d1, fun h => by cases h⟩
  rw [if_pos d1]
  by_cases d2 : a6 ≥ 1
  case neg => exact ⟨false, if_neg d2, fun h => by cases h⟩
  rw [if_pos d2]
  by_cases d3 : a6 ≤ 16384
  case neg => exact ⟨false, if_neg d3, fun h => by cases h⟩
  rw [if_pos d3]
  refine ⟨_, rfl, fun h => ?_⟩
  have h := of_decide_eq_true h
  rw [wrap_id (x := a0 + a1) (by omega) (by omega)] at d1
  have m1 := mul_bounds (a := a4) (b := a6 - a0 - a1) (A := 65536) (B := 16384) (by omega) (by omega) (by omega) (by omega)
  have m2 := mul_bounds (a := a5) (b := a6) (A := 65536) (B := 16384) (by omega) (by omega) (by omega) (by omega)
  rw [wrap_id (x := a2 + a3) (by omega) (by omega), wrap_id (x := a6 - a0) (by omega) (by omega), wrap_id (x := a6 - a0 - a1) (by omega) (by omega), wrap_id (x := a4 * (a6 - a0 - a1)) (by omega) (by omega), wrap_id (x := a5 * a6) (by omega) (by omega), wrap_id (by omega) (by omega)] at h
  exact ⟨by omega, by omega, by omega, by omega, by omega, by omega, by omega, by omega, by omega, by omega, by omega, by omega, by omega, by omega, by omega, h⟩

theorem device_tells (a0 a1 a2 a3 a4 a5 a6 : Int) : ∃ b, dormouseref01_Device.f a0 a1 a2 a3 a4 a5 a6 = some b ∧ (b = true → AwayOk a2 a3 a4 a5 a1 a0 a6) := by
  obtain ⟨b, hb, h⟩ := away_tells a2 a3 a4 a5 a1 a0 a6
  exact ⟨b, by unfold dormouseref01_Device.f; rw [hb]; rfl, h⟩


theorem ans07 {Q : Bool → Prop} (h : Q true) : Wp (fun k => dormouselaw07_answers.f k) Q := Wp.of dormouselaw07_answers.mono (k := 5) (r := true) (by decide +kernel) h
theorem ans07b : Wp (fun k => (dormouselaw07_answers.f k).bind fun t => some t) (fun b => b = true) := Wp.bind (ans07 (Q := fun b => b = true) rfl) (fun _ h => Wp.now h)

/-- A Dev of which chapter 7 speaks, of a device that may be. -/
structure RightOk (on off down up downE upE even fr un : Int) : Prop where
  dev : AwayOk down up downE upE off on even
  fr0 : 0 ≤ fr
  fr1 : fr ≤ 1099511627776
  un0 : 0 ≤ un
  un1 : un ≤ 1099511627776
  right : (fr = 0 ∧ un = 0) ∨ fr ≤ un - down - up
theorem right_tells (on off down up downE upE even fr un : Int) (hu : -9223372036854775808 ≤ un) : ∃ b, dormouseref01_RightDev.f on off down up downE upE even fr un = some b ∧ (b = true → RightOk on off down up downE upE even fr un) := by
  obtain ⟨b, hb, h⟩ := device_tells on off down up downE upE even
  unfold dormouseref01_RightDev.f
  rw [hb]
  simp only [Option.bind_some]
  by_cases c0 : b = true
  case neg => exact ⟨false, if_neg c0, fun h => by cases h⟩
  have d := h c0
  have d0 := d.down0; have d1 := d.down1; have d2 := d.up0; have d3 := d.up1
  rw [if_pos c0]
  by_cases c1 : fr < 0
  · exact ⟨false, if_pos c1, fun h => by cases h⟩
  rw [if_neg c1]
  by_cases c2 : fr > 1099511627776
  · exact ⟨false, if_pos c2, fun h => by cases h⟩
  rw [if_neg c2]
  by_cases c3 : un > 1099511627776
  · exact ⟨false, if_pos c3, fun h => by cases h⟩
  rw [if_neg c3]
  have last : ∃ b, (if wrap64 (wrap64 (un - down) - up) ≥ fr then some (decide (un ≥ 0)) else some false) = some b ∧ (b = true → RightOk on off down up downE upE even fr un) := by
    by_cases c4 : wrap64 (wrap64 (un - down) - up) ≥ fr
    · refine ⟨_, if_pos c4, fun g => ?_⟩
      have g := of_decide_eq_true g
      rw [wrap_id (x := un - down) (by omega) (by omega), wrap_id (by omega) (by omega)] at c4
      exact ⟨d, by omega, by omega, by omega, by omega, .inr (by omega)⟩
    · exact ⟨false, if_neg c4, fun h => by cases h⟩
  by_cases c5 : fr = 0
  · rw [if_pos c5]
    by_cases c6 : un = 0
    · exact ⟨true, if_pos c6, fun _ => ⟨d, by omega, by omega, by omega, by omega, .inl ⟨c5, c6⟩⟩⟩
    · rw [if_neg c6]; exact last
  · rw [if_neg c5]; exact last
theorem moment_tells (n : Int) : ∃ b, dormouseref01_Moment.f n = some b ∧ (b = true → 0 ≤ n ∧ n ≤ 1099511627776) := by
  unfold dormouseref01_Moment.f
  by_cases h : n ≥ 0
  · exact ⟨_, if_pos h, fun g => ⟨h, of_decide_eq_true g⟩⟩
  · exact ⟨_, if_neg h, fun g => by cases g⟩
theorem never_is (fr un : Int) : dev_Dev_never.f fr un = some (fr == 0 && un == 0) := rfl
theorem from_is (fr un : Int) : dormouselaw07_from.f fr un = some (fr, un) := rfl

/-- The state. -/
def stt (down up fr un now : Int) : Int := if (fr = 0 ∧ un = 0) ∨ now < fr ∨ un ≤ now then 1 else if now < fr + down then 3 else if now < un - up then 2 else 4
theorem state_is {on off down up downE upE even fr un now : Int} (d0 : 0 ≤ down) (d1 : down ≤ 256) (u0 : 0 ≤ up) (u1 : up ≤ 256) (f0 : 0 ≤ fr) (f1 : fr ≤ 1152921504606846976) (n0 : 0 ≤ un) (n1 : un ≤ 1152921504606846976) :
    Wp (fun k => dev_State.f k on off down up downE upE even fr un now) (fun r => r = stt down up fr un now) := by
  simp only [dev_State.f]
  have key : ∀ b, b = decide ((fr = 0 ∧ un = 0) ∨ now < fr ∨ un ≤ now) → Wp (fun k => dev_State.j0 k now b on off down up downE upE even fr un) (fun r => r = stt down up fr un now) := by
    intro b hb
    refine Wp.succ ?_
    simp only [dev_State.j0]
    rw [wrap_id (x := fr + down) (by omega) (by omega), wrap_id (x := un - up) (by omega) (by omega)]
    by_cases c : (fr = 0 ∧ un = 0) ∨ now < fr ∨ un ≤ now
    · rw [decide_eq_true c] at hb; subst hb
      exact Wp.yes rfl (Wp.now (by unfold stt; rw [if_pos c]))
    · rw [decide_eq_false c] at hb; subst hb
      refine Wp.no (by simp) (Wp.ite (fun g => Wp.now (by unfold stt; rw [if_neg c, if_pos g])) (fun g => Wp.ite (fun g1 => Wp.now (by unfold stt; rw [if_neg c, if_neg g, if_pos g1])) (fun g1 => Wp.now (by unfold stt; rw [if_neg c, if_neg g, if_neg g1]))))
  refine Wp.bindIs (never_is fr un) (Wp.ite (fun g => key _ ?_) (fun g => Wp.ite (fun g1 => key _ ?_) (fun g1 => key _ ?_)))
  · have : fr = 0 ∧ un = 0 := by simpa using g
    rw [decide_eq_true (.inl this)]
  · rw [decide_eq_true (.inr (.inl g1))]
  · have g' : ¬ (fr = 0 ∧ un = 0) := by simpa using g
    by_cases g2 : now ≥ un
    · rw [decide_eq_true g2, decide_eq_true (.inr (.inr g2))]
    · rw [decide_eq_false g2, decide_eq_false (by omega)]
theorem stateR_is {on off down up downE upE even fr un now : Int} (d0 : 0 ≤ down) (d1 : down ≤ 256) (u0 : 0 ≤ up) (u1 : up ≤ 256) (f0 : 0 ≤ fr) (f1 : fr ≤ 1152921504606846976) (n0 : 0 ≤ un) (n1 : un ≤ 1152921504606846976) :
    Wp (fun k => dormouseref01_State.f k on off down up downE upE even fr un now) (fun r => r = stt down up fr un now) := by
  simp only [dormouseref01_State.f]
  have key : ∀ b, b = decide ((fr = 0 ∧ un = 0) ∨ now < fr ∨ un ≤ now) → Wp (fun k => dormouseref01_State.j0 k now b on off down up downE upE even fr un) (fun r => r = stt down up fr un now) := by
    intro b hb
    refine Wp.succ ?_
    simp only [dormouseref01_State.j0]
    rw [wrap_id (x := fr + down) (by omega) (by omega), wrap_id (x := un - up) (by omega) (by omega)]
    by_cases c : (fr = 0 ∧ un = 0) ∨ now < fr ∨ un ≤ now
    · rw [decide_eq_true c] at hb; subst hb
      exact Wp.yes rfl (Wp.now (by unfold stt; rw [if_pos c]))
    · rw [decide_eq_false c] at hb; subst hb
      refine Wp.no (by simp) (Wp.ite (fun g => Wp.now (by unfold stt; rw [if_neg c, if_pos g])) (fun g => Wp.ite (fun g1 => Wp.now (by unfold stt; rw [if_neg c, if_neg g, if_neg (by omega)])) (fun g1 => Wp.now (by unfold stt; rw [if_neg c, if_neg g, if_pos (by omega)]))))
  have rest : ¬ (fr = 0 ∧ un = 0) → Wp (fun k => if now < fr then dormouseref01_State.j0 k now true on off down up downE upE even fr un else dormouseref01_State.j0 k now (decide (now ≥ un)) on off down up downE upE even fr un) (fun r => r = stt down up fr un now) := fun g => by
    refine Wp.ite (fun g1 => key _ ?_) (fun g1 => key _ ?_)
    · rw [decide_eq_true (.inr (.inl g1))]
    · by_cases g2 : now ≥ un
      · rw [decide_eq_true g2, decide_eq_true (.inr (.inr g2))]
      · rw [decide_eq_false g2, decide_eq_false (by omega)]
  refine Wp.ite (fun g => Wp.ite (fun g1 => key _ ?_) (fun g1 => rest (by omega))) (fun g => rest (by omega))
  rw [decide_eq_true (.inl ⟨g, g1⟩)]

/-- Going away. -/
def awy (down up even fr un now until_ : Int) : Int × Int × Bool := if stt down up fr un now = 1 ∧ even ≤ until_ - now then (now, until_, true) else (fr, un, false)
theorem away_is {on off down up downE upE even fr un now until_ : Int} (d0 : 0 ≤ down) (d1 : down ≤ 256) (u0 : 0 ≤ up) (u1 : up ≤ 256) (f0 : 0 ≤ fr) (f1 : fr ≤ 1152921504606846976) (n0 : 0 ≤ un) (n1 : un ≤ 1152921504606846976)
    (w0 : 0 ≤ now) (w1 : now ≤ 1152921504606846976) (t0 : 0 ≤ until_) (t1 : until_ ≤ 1152921504606846976) : Wp (fun k => dev_Away.f k on off down up downE upE even fr un now until_) (fun r => r = awy down up even fr un now until_) := by
  simp only [dev_Away.f]
  refine Wp.bind (state_is (now := now) d0 d1 u0 u1 f0 f1 n0 n1) (fun r hr => ?_)
  subst hr
  rw [wrap_id (x := until_ - now) (by omega) (by omega)]
  refine Wp.ite (fun g => Wp.ite (fun g1 => Wp.now ?_) (fun g1 => Wp.now ?_)) (fun g => Wp.now ?_)
  · unfold awy; rw [if_neg (by omega)]
  · unfold awy; rw [if_pos ⟨g, by omega⟩]
  · unfold awy; rw [if_neg (fun h => g h.1)]
theorem awayR_is {on off down up downE upE even fr un now until_ : Int} (d0 : 0 ≤ down) (d1 : down ≤ 256) (u0 : 0 ≤ up) (u1 : up ≤ 256) (f0 : 0 ≤ fr) (f1 : fr ≤ 1152921504606846976) (n0 : 0 ≤ un) (n1 : un ≤ 1152921504606846976)
    (w0 : 0 ≤ now) (w1 : now ≤ 1152921504606846976) (t0 : 0 ≤ until_) (t1 : until_ ≤ 1152921504606846976) : Wp (fun k => dormouseref01_Away.f k on off down up downE upE even fr un now until_) (fun r => r = awy down up even fr un now until_) := by
  simp only [dormouseref01_Away.f]
  refine Wp.bind (stateR_is (now := now) d0 d1 u0 u1 f0 f1 n0 n1) (fun r hr => ?_)
  subst hr
  rw [wrap_id (x := until_ - now) (by omega) (by omega)]
  refine Wp.ite (fun g => Wp.ite (fun g1 => Wp.now ?_) (fun g1 => Wp.now ?_)) (fun g => Wp.now ?_)
  · unfold awy; rw [if_neg (by omega)]
  · unfold awy; rw [if_pos ⟨g, by omega⟩]
  · unfold awy; rw [if_neg (fun h => g h.1)]

/-- The energy: the part of each. -/
def nrg (on off down up downE upE fr un now : Int) : Int :=
  if fr = 0 ∧ un = 0 then on * (if now < 0 then 0 else now)
  else (if now ≥ fr then downE else 0) + (if now ≥ un - up then upE else 0) + off * (mx (mn (un - up) now - (fr + down)) 0) + on * (mx (now - un) 0)
theorem energy_is {on off down up downE upE even fr un now : Int} (h : RightOk on off down up downE upE even fr un) (w0 : 0 ≤ now) (w1 : now ≤ 1152921504606) :
    dev_Energy.f on off down up downE upE even fr un now = some (nrg on off down up downE upE fr un now) ∧ -1 ≤ nrg on off down up downE upE fr un now ∧ nrg on off down up downE upE fr un now ≤ 1152921504606846976 := by
  obtain ⟨⟨d0, d1, u0, u1, e0, e1, v0, v1, o0, o1, p0, p1, n0, n1, n2, _⟩, f0, f1, g0, g1, _⟩ := h
  unfold dev_Energy.f
  rw [never_is]
  simp only [Option.bind_some]
  have m0 := mul_bounds (a := on) (b := if now < 0 then 0 else now) (A := 65536) (B := 1152921504606) (by omega) (by omega) (by split <;> omega) (by split <;> omega)
  have m1 := mul_bounds (a := off) (b := mx (mn (un - up) now - (fr + down)) 0) (A := 65536) (B := 1152921504606) (by omega) (by omega) (by unfold mx; split <;> omega) (by unfold mx mn; split <;> split <;> omega)
  have m2 := mul_bounds (a := on) (b := mx (now - un) 0) (A := 65536) (B := 1152921504606) (by omega) (by omega) (by unfold mx; split <;> omega) (by unfold mx; split <;> omega)
  by_cases c : fr = 0 ∧ un = 0
  · have cb : (fr == 0 && un == 0) = true := by simpa using c
    rw [if_pos cb]
    unfold nrg
    rw [if_pos c, mx_def, wrap_id (by omega) (by omega)]
    exact ⟨rfl, by omega, by omega⟩
  · have cb : ¬ (fr == 0 && un == 0) = true := by simpa using c
    rw [if_neg cb]
    have sp : dev_span.f (wrap64 (fr + down)) (wrap64 (un - up)) now = some (mx (mn (un - up) now - (fr + down)) 0) := by
      unfold dev_span.f
      rw [wrap_id (x := fr + down) (by omega) (by omega), wrap_id (x := un - up) (by omega) (by omega), wrap_id (x := _ - _) (by unfold mn; split <;> omega) (by unfold mn; split <;> omega)]
    rw [sp]
    simp only [Option.bind_some]
    rw [wrap_id (x := un - up) (by omega) (by omega), wrap_id (x := now - un) (by omega) (by omega), wrap_id (x := off * _) (by omega) (by omega), wrap_id (x := on * mx (now - un) 0) (by omega) (by omega), wrap_id (x := 0 + downE) (by omega) (by omega), wrap_id (x := 0 + upE) (by omega) (by omega)]
    have e : nrg on off down up downE upE fr un now = (if now ≥ fr then downE else 0) + (if now ≥ un - up then upE else 0) + off * (mx (mn (un - up) now - (fr + down)) 0) + on * (mx (now - un) 0) := by unfold nrg; rw [if_neg c]
    rw [e]
    generalize off * (mx (mn (un - up) now - (fr + down)) 0) = X at m1 ⊢
    generalize on * (mx (now - un) 0) = Y at m2 ⊢
    by_cases c1 : now ≥ fr <;> by_cases c2 : now ≥ un - up
    · rw [if_pos c1, if_pos c2, if_pos c1, if_pos c2, wrap_id (x := 0 + downE + upE) (by omega) (by omega), wrap_id (x := 0 + downE + upE + X) (by omega) (by omega), wrap_id (by omega) (by omega)]
      exact ⟨by first | done | rfl | (congr 1; omega), by omega, by omega⟩
    · rw [if_pos c1, if_neg c2, if_pos c1, if_neg c2, wrap_id (x := 0 + downE + X) (by omega) (by omega), wrap_id (by omega) (by omega)]
      exact ⟨by first | done | rfl | (congr 1; omega), by omega, by omega⟩
    · rw [if_neg c1, if_pos c2, if_neg c1, if_pos c2, wrap_id (x := 0 + upE + X) (by omega) (by omega), wrap_id (by omega) (by omega)]
      exact ⟨by first | done | rfl | (congr 1; omega), by omega, by omega⟩
    · rw [if_neg c1, if_neg c2, if_neg c1, if_neg c2, wrap_id (x := 0 + X) (by omega) (by omega), wrap_id (by omega) (by omega)]
      exact ⟨by first | done | rfl | (congr 1; omega), by omega, by omega⟩
end Go.Proofs.Ytmalhnmiaccgpaa.Wp
