-- PRINTED by print.py (a twelfth state) out of the translation. Not trusted: Lean checks it.
import Derived.Test.YtekppfjlmedhpaaPAllx0
namespace Go.Proofs.Ytekppfjlmedhpaa.PAll
open Go.RowKit Go.Proofs.YtekppfjlmedhpaaW.PrintWords Go.Proofs.YtekppfjlmedhpaaW.PrintLast Go.Proofs.YtekppfjlmedhpaaW.PrintMore
attribute [local go_sem] max2_int min2_int max_two min_two max_three min_three max_four min_four   -- for this text's walks alone
set_option linter.unusedVariables false
set_option linter.unusedSimpArgs false

/-! ### dormouseref09_Choose: function 23 -/
def dormouseref09_Choose.j0 : Nat → List (S47) → List (S45) → List Int → Int → Int → Bool → Option (Int × Bool)
  | 0, _, _, _, _, _, _ => none
  | k + 1, x0, x1, x2, x3, x10, x27 => if x27 = true then (if 0 < (x1.length : Int) then (if 0 ≤ ((rd_T45 x1 0).f0) then (if ((rd_T45 x1 0).f0) < (x0.length : Int) then (if (rd_T45 x1 0).f5 = true then (some ((rd_T45 x1 0).f0, true)) else (if (x2.length : Int) = 0 then (some ((rd_T45 x1 0).f0, true)) else (if ((rd_T47 x0 ((rd_T45 x1 0).f0)).f0) < x3 then (some ((rd_T45 x1 0).f0, true)) else (if 0 ≤ (wrap64 ((x2.length : Int) - 1)) then (if (wrap64 ((x2.length : Int) - 1)) < (x2.length : Int) then (some (rd x2 (wrap64 ((x2.length : Int) - 1)), true)) else (none)) else (none))))) else (none)) else (none)) else (none)) else (if 0 < (x1.length : Int) then (if (rd_T45 x1 0).f5 = true then (some ((rd_T45 x1 0).f0, true)) else (if (x2.length : Int) = 0 then (some ((rd_T45 x1 0).f0, true)) else (if x10 < x3 then (some ((rd_T45 x1 0).f0, true)) else (if 0 ≤ (wrap64 ((x2.length : Int) - 1)) then (if (wrap64 ((x2.length : Int) - 1)) < (x2.length : Int) then (some (rd x2 (wrap64 ((x2.length : Int) - 1)), true)) else (none)) else (none))))) else (none))
def dormouseref09_Choose.f (k : Nat) (l0 : List (S47)) (l1 : List (S45)) (l2 : List Int) (a3 : Int) : Option (Int × Bool) := if (l1.length : Int) = 0 then (some (0, false)) else (if 0 < (l1.length : Int) then (if ((rd_T45 l1 0).f0) ≥ 0 then (dormouseref09_Choose.j0 k l0 l1 l2 a3 0 (decide (((rd_T45 l1 0).f0) < (l0.length : Int)))) else (dormouseref09_Choose.j0 k l0 l1 l2 a3 0 false)) else (none))
theorem dormouseref09_Choose.mono_l : ∀ k, (∀ y0 y1 y2 y3 y4 y5, LeO (dormouseref09_Choose.j0 k y0 y1 y2 y3 y4 y5) (dormouseref09_Choose.j0 (k + 1) y0 y1 y2 y3 y4 y5))
  | 0 => fun _ _ _ _ _ _ r h => by simp [dormouseref09_Choose.j0] at h
  | k + 1 => by
    have ih0 := dormouseref09_Choose.mono_l k
    · intro y0 y1 y2 y3 y4 y5
      unfold dormouseref09_Choose.j0
      repeat' first
      | (with_reducible exact ih0 _ _ _ _ _ _)
      | (with_reducible exact LeO.refl _)
      | (with_reducible exact LeO.none _)
      | (with_reducible refine LeO.ite ?_ ?_)
      | (with_reducible refine LeO.bind ?_ (fun _ => ?_))
      | exact ih0 _ _ _ _ _ _
      | exact LeO.none _
      | refine LeO.ite ?_ ?_
      | refine LeO.bind ?_ (fun _ => ?_)
theorem dormouseref09_Choose.mono : ∀ a0 a1 a2 a3 k, LeO (dormouseref09_Choose.f k a0 a1 a2 a3) (dormouseref09_Choose.f (k + 1) a0 a1 a2 a3) := by
  intro a0 a1 a2 a3 k
  have ih0 := dormouseref09_Choose.mono_l k
  unfold dormouseref09_Choose.f
  repeat' first
      | (with_reducible exact ih0 _ _ _ _ _ _)
      | (with_reducible exact LeO.refl _)
      | (with_reducible exact LeO.none _)
      | (with_reducible refine LeO.ite ?_ ?_)
      | (with_reducible refine LeO.bind ?_ (fun _ => ?_))
      | exact ih0 _ _ _ _ _ _
      | exact LeO.none _
      | refine LeO.ite ?_ ?_
      | refine LeO.bind ?_ (fun _ => ?_)
set_option maxHeartbeats 8000000 in
set_option maxRecDepth 100000 in
theorem dormouseref09_Choose.calls (k : Nat) (A0 : Option Addr) (c0 : Nat) (l0 : List (S47)) (A1 : Option Addr) (c1 : Nat) (l1 : List (S45)) (A2 : Option Addr) (c2 : Nat) (l2 : List Int) (a3 : Int) (r1 : Int) (r2 : Bool) (w : World) (hr0 : Kd.C k47 w A0 l0.length l0) (hc0 : l0.length ≤ c0) (hr1 : Kd.C k45 w A1 l1.length l1) (hc1 : l1.length ≤ c1) (hr2 : Kd.C (Kd.int .i64) w A2 l2.length l2) (hc2 : l2.length ≤ c2) (h : dormouseref09_Choose.f k l0 l1 l2 a3 = some (r1, r2)) :
    Calls Try.prog 23 #[.slice A0 l0.length c0, .slice A1 l1.length c1, .slice A2 l2.length c2, .int .i64 a3] w fun e w' => e = .returned (.tuple #[.int .i64 r1, .bool r2]) ∧ Drawn0 w w' := by
  have HR0 := Aside0.mk hr0
  have HC0 := Aside0.mk hc0
  clear hr0 hc0
  have HR1 := Aside0.mk hr1
  have HC1 := Aside0.mk hc1
  clear hr1 hc1
  have HR2 := Aside0.mk hr2
  have HC2 := Aside0.mk hc2
  clear hr2 hc2
  have H : (if (l1.length : Int) = 0 then (some (0, false)) else (if 0 < (l1.length : Int) then (if ((rd_T45 l1 0).f0) ≥ 0 then (dormouseref09_Choose.j0 k l0 l1 l2 a3 0 (decide (((rd_T45 l1 0).f0) < (l0.length : Int)))) else (dormouseref09_Choose.j0 k l0 l1 l2 a3 0 false)) else (none))) = some (r1, r2) := h
  clear h
  by_cases c5 : (l1.length : Int) = 0
  · rw [if_pos c5] at H
    have c5b0 : ((l1.length : Int) == 0) = true := beq_iff_eq.mpr c5
    have c5b1 : ((l1.length : Int) != 0) = false := bne_eq_false_iff_eq.mpr c5
    clear c5
    simp only [Option.some.injEq, Prod.mk.injEq] at H
    obtain ⟨rfl, rfl⟩ := H
    go_enter Try.func23, Try.ntmps23
    go_wp2
    go_ret2
    exact ⟨by first | rfl | (simp; done) | (simp [*]; done), by repeat (first | exact Drawn0.refl _ | apply Drawn0.step)⟩
  · rw [if_neg c5] at H
    have c5b0 : ((l1.length : Int) == 0) = false := beq_eq_false_iff_ne.mpr c5
    have c5b1 : ((l1.length : Int) != 0) = true := bne_iff_ne.mpr c5
    have c5b2 : ¬ (l1 = []) := fun h_ => c5 (by rw [h_]; rfl)
    have HC6 := Aside0.mk H
    clear H
    go_enter Try.func23, Try.ntmps23
    go_upto_region 4 with (fail)
    go_cut [27] (fun v27 wc => ∃ (kq : Nat) (x27_5 : Bool), v27 = .bool x27_5 ∧ Aside0 (dormouseref09_Choose.j0 kq l0 l1 l2 a3 0 x27_5 = some (r1, r2)) ∧ Aside0 (kq ≤ k) ∧ Drawn0 w wc)
    case first =>
      have H := HC6.out
      clear HC6
      by_cases c7 : 0 < (l1.length : Int)
      · rw [if_pos c7] at H
        have c7b0 : decide (0 < (l1.length : Int)) = true := decide_eq_true c7
        have c7b1 : decide (0 < l1.length) = true := decide_eq_true (by omega)
        clear c7
        (first | rw [c7b0] | (simp only [i64_w, i32_w]; rw [c7b0]) | skip)
        by_cases c8 : ((rd_T45 l1 0).f0) ≥ 0
        · rw [if_pos c8] at H
          have c8b0 : decide (0 ≤ ((rd_T45 l1 0).f0)) = true := decide_eq_true c8
          clear c8
          have H' := Aside0.mk H
          clear H
          have p188 : 0 ≤ (0 : Int) := (by omega)
          have q188 : 0 < (l1.length : Int) := of_decide_eq_true (by first | (with_reducible assumption) | assumption)
          obtain ⟨ad188, e188, hx188_0, hx188_1, hx188_2, hx188_3, hx188_4, hx188_5⟩ := at_T45 HR1.out 0 p188 q188
          cases e188
          have qi188 : (0 < l1.length) = True := eq_true (by omega)
          (try rw [show ((0 : Int)).toNat = 0 from rfl] at hx188_0)
          (try rw [show 0 * 6 = 0 from rfl] at hx188_0)
          (try rw [Addr.add_zero'] at hx188_0)
          (try rw [show ((0 : Int)).toNat = 0 from rfl] at hx188_1)
          (try rw [show 0 * 6 = 0 from rfl] at hx188_1)
          (try rw [Addr.add_zero'] at hx188_1)
          (try rw [show ((0 : Int)).toNat = 0 from rfl] at hx188_2)
          (try rw [show 0 * 6 = 0 from rfl] at hx188_2)
          (try rw [Addr.add_zero'] at hx188_2)
          (try rw [show ((0 : Int)).toNat = 0 from rfl] at hx188_3)
          (try rw [show 0 * 6 = 0 from rfl] at hx188_3)
          (try rw [Addr.add_zero'] at hx188_3)
          (try rw [show ((0 : Int)).toNat = 0 from rfl] at hx188_4)
          (try rw [show 0 * 6 = 0 from rfl] at hx188_4)
          (try rw [Addr.add_zero'] at hx188_4)
          (try rw [show ((0 : Int)).toNat = 0 from rfl] at hx188_5)
          (try rw [show 0 * 6 = 0 from rfl] at hx188_5)
          (try rw [Addr.add_zero'] at hx188_5)
          replace p188 := eq_true p188
          replace q188 := eq_true q188
          have p189 : 0 ≤ (0 : Int) := (by omega)
          have q189 : 0 < (l1.length : Int) := of_decide_eq_true (by first | (with_reducible assumption) | assumption)
          obtain ⟨ad189, e189, hx189_0, hx189_1, hx189_2, hx189_3, hx189_4, hx189_5⟩ := at_T45 HR1.out 0 p189 q189
          obtain rfl : ad188 = ad189 := (by injection e189)
          have qi189 : (0 < l1.length) = True := eq_true (by omega)
          (try rw [show ((0 : Int)).toNat = 0 from rfl] at hx189_0)
          (try rw [show 0 * 6 = 0 from rfl] at hx189_0)
          (try rw [Addr.add_zero'] at hx189_0)
          (try rw [show ((0 : Int)).toNat = 0 from rfl] at hx189_1)
          (try rw [show 0 * 6 = 0 from rfl] at hx189_1)
          (try rw [Addr.add_zero'] at hx189_1)
          (try rw [show ((0 : Int)).toNat = 0 from rfl] at hx189_2)
          (try rw [show 0 * 6 = 0 from rfl] at hx189_2)
          (try rw [Addr.add_zero'] at hx189_2)
          (try rw [show ((0 : Int)).toNat = 0 from rfl] at hx189_3)
          (try rw [show 0 * 6 = 0 from rfl] at hx189_3)
          (try rw [Addr.add_zero'] at hx189_3)
          (try rw [show ((0 : Int)).toNat = 0 from rfl] at hx189_4)
          (try rw [show 0 * 6 = 0 from rfl] at hx189_4)
          (try rw [Addr.add_zero'] at hx189_4)
          (try rw [show ((0 : Int)).toNat = 0 from rfl] at hx189_5)
          (try rw [show 0 * 6 = 0 from rfl] at hx189_5)
          (try rw [Addr.add_zero'] at hx189_5)
          replace p189 := eq_true p189
          replace q189 := eq_true q189
          go_wp2
          go_meet
          case rel => exact ⟨_, (decide (((rd_T45 l1 0).f0) < (l0.length : Int))), (by first | rfl | (simp; done) | (simp [*]; done)), H', ⟨by first | omega | exact Nat.le_refl _⟩, by repeat (first | exact Drawn0.refl _ | apply Drawn0.step)⟩
        · rw [if_neg c8] at H
          have c8b0 : decide (0 ≤ ((rd_T45 l1 0).f0)) = false := decide_eq_false c8
          clear c8
          have H' := Aside0.mk H
          clear H
          have p188 : 0 ≤ (0 : Int) := (by omega)
          have q188 : 0 < (l1.length : Int) := of_decide_eq_true (by first | (with_reducible assumption) | assumption)
          obtain ⟨ad188, e188, hx188_0, hx188_1, hx188_2, hx188_3, hx188_4, hx188_5⟩ := at_T45 HR1.out 0 p188 q188
          cases e188
          have qi188 : (0 < l1.length) = True := eq_true (by omega)
          (try rw [show ((0 : Int)).toNat = 0 from rfl] at hx188_0)
          (try rw [show 0 * 6 = 0 from rfl] at hx188_0)
          (try rw [Addr.add_zero'] at hx188_0)
          (try rw [show ((0 : Int)).toNat = 0 from rfl] at hx188_1)
          (try rw [show 0 * 6 = 0 from rfl] at hx188_1)
          (try rw [Addr.add_zero'] at hx188_1)
          (try rw [show ((0 : Int)).toNat = 0 from rfl] at hx188_2)
          (try rw [show 0 * 6 = 0 from rfl] at hx188_2)
          (try rw [Addr.add_zero'] at hx188_2)
          (try rw [show ((0 : Int)).toNat = 0 from rfl] at hx188_3)
          (try rw [show 0 * 6 = 0 from rfl] at hx188_3)
          (try rw [Addr.add_zero'] at hx188_3)
          (try rw [show ((0 : Int)).toNat = 0 from rfl] at hx188_4)
          (try rw [show 0 * 6 = 0 from rfl] at hx188_4)
          (try rw [Addr.add_zero'] at hx188_4)
          (try rw [show ((0 : Int)).toNat = 0 from rfl] at hx188_5)
          (try rw [show 0 * 6 = 0 from rfl] at hx188_5)
          (try rw [Addr.add_zero'] at hx188_5)
          replace p188 := eq_true p188
          replace q188 := eq_true q188
          go_wp2
          go_meet
          case rel => exact ⟨_, (false), (by first | rfl | (simp; done) | (simp [*]; done)), H', ⟨by first | omega | exact Nat.le_refl _⟩, by repeat (first | exact Drawn0.refl _ | apply Drawn0.step)⟩
      · rw [if_neg c7] at H
        exact absurd H (by simp)
    case rest =>
      clear HC6
      try clear c1
      try clear p1
      try clear q1
      try clear hx1
      try clear qi1
      try clear c2
      try clear p2
      try clear c5
      try clear c5b0
      try clear c5b1
      try clear c5b2
      try clear c7
      try clear c7b0
      try clear c7b1
      try clear c8
      try clear c8b0
      try clear hx188_0
      try clear hx188_1
      try clear hx188_2
      try clear hx188_3
      try clear hx188_4
      try clear hx188_5
      try clear hx189_0
      try clear hx189_1
      try clear hx189_2
      try clear hx189_3
      try clear hx189_4
      try clear hx189_5
      try clear p188
      try clear p189
      try clear q188
      try clear q189
      obtain ⟨kq, x27_5, rfl, HA, HJ5, ⟨mc5, rfl⟩⟩ := hcut
      cases kq with
      | zero => exact absurd HA.out (by simp [dormouseref09_Choose.j0])
      | succ kj5 =>
        have H := HA.out
        clear HA
        simp only [dormouseref09_Choose.j0] at H
        by_cases c9 : x27_5 = true
        · subst c9
          have H1 : (if 0 < (l1.length : Int) then (if 0 ≤ ((rd_T45 l1 0).f0) then (if ((rd_T45 l1 0).f0) < (l0.length : Int) then (if (rd_T45 l1 0).f5 = true then (some ((rd_T45 l1 0).f0, true)) else (if (l2.length : Int) = 0 then (some ((rd_T45 l1 0).f0, true)) else (if ((rd_T47 l0 ((rd_T45 l1 0).f0)).f0) < a3 then (some ((rd_T45 l1 0).f0, true)) else (if 0 ≤ (wrap64 ((l2.length : Int) - 1)) then (if (wrap64 ((l2.length : Int) - 1)) < (l2.length : Int) then (some (rd l2 (wrap64 ((l2.length : Int) - 1)), true)) else (none)) else (none))))) else (none)) else (none)) else (none)) = some (r1, r2) := by rw [if_pos rfl] at H; exact H
          clear H
          have H := H1
          clear H1
          by_cases c10 : 0 < (l1.length : Int)
          · rw [if_pos c10] at H
            have c10b0 : decide (0 < (l1.length : Int)) = true := decide_eq_true c10
            have c10b1 : decide (0 < l1.length) = true := decide_eq_true (by omega)
            clear c10
            by_cases c11 : 0 ≤ ((rd_T45 l1 0).f0)
            · rw [if_pos c11] at H
              have c11b0 : decide (0 ≤ ((rd_T45 l1 0).f0)) = true := decide_eq_true c11
              clear c11
              by_cases c12 : ((rd_T45 l1 0).f0) < (l0.length : Int)
              · rw [if_pos c12] at H
                have c12b0 : decide (((rd_T45 l1 0).f0) < (l0.length : Int)) = true := decide_eq_true c12
                clear c12
                obtain ⟨bq13, hbq13⟩ : ∃ b_ : Bool, b_ = ((rd_T45 l1 0).f5) := ⟨_, rfl⟩
                replace H : (if bq13 = true then (some ((rd_T45 l1 0).f0, true)) else (if (l2.length : Int) = 0 then (some ((rd_T45 l1 0).f0, true)) else (if ((rd_T47 l0 ((rd_T45 l1 0).f0)).f0) < a3 then (some ((rd_T45 l1 0).f0, true)) else (if 0 ≤ (wrap64 ((l2.length : Int) - 1)) then (if (wrap64 ((l2.length : Int) - 1)) < (l2.length : Int) then (some (rd l2 (wrap64 ((l2.length : Int) - 1)), true)) else (none)) else (none))))) = some (r1, r2) := by rw [← hbq13] at H; exact H
                have Nbq13 := Aside0.mk hbq13
                clear hbq13
                by_cases c14 : bq13 = true
                · subst c14
                  have H1 : (some ((rd_T45 l1 0).f0, true)) = some (r1, r2) := by rw [if_pos rfl] at H; exact H
                  clear H
                  have H := H1
                  clear H1
                  simp only [Option.some.injEq, Prod.mk.injEq] at H
                  obtain ⟨rfl, rfl⟩ := H
                  have p190 : 0 ≤ (0 : Int) := (by omega)
                  have q190 : 0 < (l1.length : Int) := of_decide_eq_true (by first | (with_reducible assumption) | assumption)
                  obtain ⟨ad190, e190, hx190_0, hx190_1, hx190_2, hx190_3, hx190_4, hx190_5⟩ := at_T45 HR1.out 0 p190 q190
                  (try rw [← Nbq13.out] at hx190_5)
                  cases e190
                  have qi190 : (0 < l1.length) = True := eq_true (by omega)
                  (try rw [show ((0 : Int)).toNat = 0 from rfl] at hx190_0)
                  (try rw [show 0 * 6 = 0 from rfl] at hx190_0)
                  (try rw [Addr.add_zero'] at hx190_0)
                  (try rw [show ((0 : Int)).toNat = 0 from rfl] at hx190_1)
                  (try rw [show 0 * 6 = 0 from rfl] at hx190_1)
                  (try rw [Addr.add_zero'] at hx190_1)
                  (try rw [show ((0 : Int)).toNat = 0 from rfl] at hx190_2)
                  (try rw [show 0 * 6 = 0 from rfl] at hx190_2)
                  (try rw [Addr.add_zero'] at hx190_2)
                  (try rw [show ((0 : Int)).toNat = 0 from rfl] at hx190_3)
                  (try rw [show 0 * 6 = 0 from rfl] at hx190_3)
                  (try rw [Addr.add_zero'] at hx190_3)
                  (try rw [show ((0 : Int)).toNat = 0 from rfl] at hx190_4)
                  (try rw [show 0 * 6 = 0 from rfl] at hx190_4)
                  (try rw [Addr.add_zero'] at hx190_4)
                  (try rw [show ((0 : Int)).toNat = 0 from rfl] at hx190_5)
                  (try rw [show 0 * 6 = 0 from rfl] at hx190_5)
                  (try rw [Addr.add_zero'] at hx190_5)
                  replace p190 := eq_true p190
                  replace q190 := eq_true q190
                  have p191 : 0 ≤ (((rd_T45 l1 0).f0) : Int) := of_decide_eq_true (by first | (with_reducible assumption) | assumption)
                  have q191 : ((rd_T45 l1 0).f0) < (l0.length : Int) := of_decide_eq_true (by first | (with_reducible assumption) | assumption)
                  obtain ⟨ad191, A191_2, c191_2, A191_3, c191_3, e191, hx191_0, hx191_1, hx191_2, hx191_3, hl191_2, hi191_2, hl191_3, hi191_3⟩ := at_T47 HR0.out ((rd_T45 l1 0).f0) p191 q191
                  cases e191
                  have HR191_2 := Aside0.mk hi191_2
                  have HC191_2 := Aside0.mk hl191_2
                  clear hi191_2 hl191_2
                  have HR191_3 := Aside0.mk hi191_3
                  have HC191_3 := Aside0.mk hl191_3
                  clear hi191_3 hl191_3
                  replace p191 := eq_true p191
                  replace q191 := eq_true q191
                  have p192 : 0 ≤ (0 : Int) := (by omega)
                  have q192 : 0 < (l1.length : Int) := of_decide_eq_true (by first | (with_reducible assumption) | assumption)
                  obtain ⟨ad192, e192, hx192_0, hx192_1, hx192_2, hx192_3, hx192_4, hx192_5⟩ := at_T45 HR1.out 0 p192 q192
                  (try rw [← Nbq13.out] at hx192_5)
                  obtain rfl : ad190 = ad192 := (by injection e192)
                  have qi192 : (0 < l1.length) = True := eq_true (by omega)
                  (try rw [show ((0 : Int)).toNat = 0 from rfl] at hx192_0)
                  (try rw [show 0 * 6 = 0 from rfl] at hx192_0)
                  (try rw [Addr.add_zero'] at hx192_0)
                  (try rw [show ((0 : Int)).toNat = 0 from rfl] at hx192_1)
                  (try rw [show 0 * 6 = 0 from rfl] at hx192_1)
                  (try rw [Addr.add_zero'] at hx192_1)
                  (try rw [show ((0 : Int)).toNat = 0 from rfl] at hx192_2)
                  (try rw [show 0 * 6 = 0 from rfl] at hx192_2)
                  (try rw [Addr.add_zero'] at hx192_2)
                  (try rw [show ((0 : Int)).toNat = 0 from rfl] at hx192_3)
                  (try rw [show 0 * 6 = 0 from rfl] at hx192_3)
                  (try rw [Addr.add_zero'] at hx192_3)
                  (try rw [show ((0 : Int)).toNat = 0 from rfl] at hx192_4)
                  (try rw [show 0 * 6 = 0 from rfl] at hx192_4)
                  (try rw [Addr.add_zero'] at hx192_4)
                  (try rw [show ((0 : Int)).toNat = 0 from rfl] at hx192_5)
                  (try rw [show 0 * 6 = 0 from rfl] at hx192_5)
                  (try rw [Addr.add_zero'] at hx192_5)
                  replace p192 := eq_true p192
                  replace q192 := eq_true q192
                  have p193 : 0 ≤ (0 : Int) := (by omega)
                  have q193 : 0 < (l1.length : Int) := of_decide_eq_true (by first | (with_reducible assumption) | assumption)
                  obtain ⟨ad193, e193, hx193_0, hx193_1, hx193_2, hx193_3, hx193_4, hx193_5⟩ := at_T45 HR1.out 0 p193 q193
                  (try rw [← Nbq13.out] at hx193_5)
                  obtain rfl : ad190 = ad193 := (by injection e193)
                  have qi193 : (0 < l1.length) = True := eq_true (by omega)
                  (try rw [show ((0 : Int)).toNat = 0 from rfl] at hx193_0)
                  (try rw [show 0 * 6 = 0 from rfl] at hx193_0)
                  (try rw [Addr.add_zero'] at hx193_0)
                  (try rw [show ((0 : Int)).toNat = 0 from rfl] at hx193_1)
                  (try rw [show 0 * 6 = 0 from rfl] at hx193_1)
                  (try rw [Addr.add_zero'] at hx193_1)
                  (try rw [show ((0 : Int)).toNat = 0 from rfl] at hx193_2)
                  (try rw [show 0 * 6 = 0 from rfl] at hx193_2)
                  (try rw [Addr.add_zero'] at hx193_2)
                  (try rw [show ((0 : Int)).toNat = 0 from rfl] at hx193_3)
                  (try rw [show 0 * 6 = 0 from rfl] at hx193_3)
                  (try rw [Addr.add_zero'] at hx193_3)
                  (try rw [show ((0 : Int)).toNat = 0 from rfl] at hx193_4)
                  (try rw [show 0 * 6 = 0 from rfl] at hx193_4)
                  (try rw [Addr.add_zero'] at hx193_4)
                  (try rw [show ((0 : Int)).toNat = 0 from rfl] at hx193_5)
                  (try rw [show 0 * 6 = 0 from rfl] at hx193_5)
                  (try rw [Addr.add_zero'] at hx193_5)
                  replace p193 := eq_true p193
                  replace q193 := eq_true q193
                  go_wp2
                  go_ret2
                  exact ⟨by first | rfl | (simp; done) | (simp [*]; done), by repeat (first | exact Drawn0.refl _ | apply Drawn0.step)⟩
                · replace c14 := Bool.eq_false_iff.mpr c14
                  subst c14
                  have H1 : (if (l2.length : Int) = 0 then (some ((rd_T45 l1 0).f0, true)) else (if ((rd_T47 l0 ((rd_T45 l1 0).f0)).f0) < a3 then (some ((rd_T45 l1 0).f0, true)) else (if 0 ≤ (wrap64 ((l2.length : Int) - 1)) then (if (wrap64 ((l2.length : Int) - 1)) < (l2.length : Int) then (some (rd l2 (wrap64 ((l2.length : Int) - 1)), true)) else (none)) else (none)))) = some (r1, r2) := by rw [if_neg (show ¬ (false = true) by decide)] at H; exact H
                  clear H
                  have H := H1
                  clear H1
                  by_cases c15 : (l2.length : Int) = 0
                  · rw [if_pos c15] at H
                    have c15b0 : ((l2.length : Int) == 0) = true := beq_iff_eq.mpr c15
                    have c15b1 : ((l2.length : Int) != 0) = false := bne_eq_false_iff_eq.mpr c15
                    clear c15
                    simp only [Option.some.injEq, Prod.mk.injEq] at H
                    obtain ⟨rfl, rfl⟩ := H
                    have p190 : 0 ≤ (0 : Int) := (by omega)
                    have q190 : 0 < (l1.length : Int) := of_decide_eq_true (by first | (with_reducible assumption) | assumption)
                    obtain ⟨ad190, e190, hx190_0, hx190_1, hx190_2, hx190_3, hx190_4, hx190_5⟩ := at_T45 HR1.out 0 p190 q190
                    (try rw [← Nbq13.out] at hx190_5)
                    cases e190
                    have qi190 : (0 < l1.length) = True := eq_true (by omega)
                    (try rw [show ((0 : Int)).toNat = 0 from rfl] at hx190_0)
                    (try rw [show 0 * 6 = 0 from rfl] at hx190_0)
                    (try rw [Addr.add_zero'] at hx190_0)
                    (try rw [show ((0 : Int)).toNat = 0 from rfl] at hx190_1)
                    (try rw [show 0 * 6 = 0 from rfl] at hx190_1)
                    (try rw [Addr.add_zero'] at hx190_1)
                    (try rw [show ((0 : Int)).toNat = 0 from rfl] at hx190_2)
                    (try rw [show 0 * 6 = 0 from rfl] at hx190_2)
                    (try rw [Addr.add_zero'] at hx190_2)
                    (try rw [show ((0 : Int)).toNat = 0 from rfl] at hx190_3)
                    (try rw [show 0 * 6 = 0 from rfl] at hx190_3)
                    (try rw [Addr.add_zero'] at hx190_3)
                    (try rw [show ((0 : Int)).toNat = 0 from rfl] at hx190_4)
                    (try rw [show 0 * 6 = 0 from rfl] at hx190_4)
                    (try rw [Addr.add_zero'] at hx190_4)
                    (try rw [show ((0 : Int)).toNat = 0 from rfl] at hx190_5)
                    (try rw [show 0 * 6 = 0 from rfl] at hx190_5)
                    (try rw [Addr.add_zero'] at hx190_5)
                    replace p190 := eq_true p190
                    replace q190 := eq_true q190
                    have p191 : 0 ≤ (((rd_T45 l1 0).f0) : Int) := of_decide_eq_true (by first | (with_reducible assumption) | assumption)
                    have q191 : ((rd_T45 l1 0).f0) < (l0.length : Int) := of_decide_eq_true (by first | (with_reducible assumption) | assumption)
                    obtain ⟨ad191, A191_2, c191_2, A191_3, c191_3, e191, hx191_0, hx191_1, hx191_2, hx191_3, hl191_2, hi191_2, hl191_3, hi191_3⟩ := at_T47 HR0.out ((rd_T45 l1 0).f0) p191 q191
                    cases e191
                    have HR191_2 := Aside0.mk hi191_2
                    have HC191_2 := Aside0.mk hl191_2
                    clear hi191_2 hl191_2
                    have HR191_3 := Aside0.mk hi191_3
                    have HC191_3 := Aside0.mk hl191_3
                    clear hi191_3 hl191_3
                    replace p191 := eq_true p191
                    replace q191 := eq_true q191
                    have p192 : 0 ≤ (0 : Int) := (by omega)
                    have q192 : 0 < (l1.length : Int) := of_decide_eq_true (by first | (with_reducible assumption) | assumption)
                    obtain ⟨ad192, e192, hx192_0, hx192_1, hx192_2, hx192_3, hx192_4, hx192_5⟩ := at_T45 HR1.out 0 p192 q192
                    (try rw [← Nbq13.out] at hx192_5)
                    obtain rfl : ad190 = ad192 := (by injection e192)
                    have qi192 : (0 < l1.length) = True := eq_true (by omega)
                    (try rw [show ((0 : Int)).toNat = 0 from rfl] at hx192_0)
                    (try rw [show 0 * 6 = 0 from rfl] at hx192_0)
                    (try rw [Addr.add_zero'] at hx192_0)
                    (try rw [show ((0 : Int)).toNat = 0 from rfl] at hx192_1)
                    (try rw [show 0 * 6 = 0 from rfl] at hx192_1)
                    (try rw [Addr.add_zero'] at hx192_1)
                    (try rw [show ((0 : Int)).toNat = 0 from rfl] at hx192_2)
                    (try rw [show 0 * 6 = 0 from rfl] at hx192_2)
                    (try rw [Addr.add_zero'] at hx192_2)
                    (try rw [show ((0 : Int)).toNat = 0 from rfl] at hx192_3)
                    (try rw [show 0 * 6 = 0 from rfl] at hx192_3)
                    (try rw [Addr.add_zero'] at hx192_3)
                    (try rw [show ((0 : Int)).toNat = 0 from rfl] at hx192_4)
                    (try rw [show 0 * 6 = 0 from rfl] at hx192_4)
                    (try rw [Addr.add_zero'] at hx192_4)
                    (try rw [show ((0 : Int)).toNat = 0 from rfl] at hx192_5)
                    (try rw [show 0 * 6 = 0 from rfl] at hx192_5)
                    (try rw [Addr.add_zero'] at hx192_5)
                    replace p192 := eq_true p192
                    replace q192 := eq_true q192
                    have p194 : 0 ≤ (0 : Int) := (by omega)
                    have q194 : 0 < (l1.length : Int) := of_decide_eq_true (by first | (with_reducible assumption) | assumption)
                    obtain ⟨ad194, e194, hx194_0, hx194_1, hx194_2, hx194_3, hx194_4, hx194_5⟩ := at_T45 HR1.out 0 p194 q194
                    (try rw [← Nbq13.out] at hx194_5)
                    obtain rfl : ad190 = ad194 := (by injection e194)
                    have qi194 : (0 < l1.length) = True := eq_true (by omega)
                    (try rw [show ((0 : Int)).toNat = 0 from rfl] at hx194_0)
                    (try rw [show 0 * 6 = 0 from rfl] at hx194_0)
                    (try rw [Addr.add_zero'] at hx194_0)
                    (try rw [show ((0 : Int)).toNat = 0 from rfl] at hx194_1)
                    (try rw [show 0 * 6 = 0 from rfl] at hx194_1)
                    (try rw [Addr.add_zero'] at hx194_1)
                    (try rw [show ((0 : Int)).toNat = 0 from rfl] at hx194_2)
                    (try rw [show 0 * 6 = 0 from rfl] at hx194_2)
                    (try rw [Addr.add_zero'] at hx194_2)
                    (try rw [show ((0 : Int)).toNat = 0 from rfl] at hx194_3)
                    (try rw [show 0 * 6 = 0 from rfl] at hx194_3)
                    (try rw [Addr.add_zero'] at hx194_3)
                    (try rw [show ((0 : Int)).toNat = 0 from rfl] at hx194_4)
                    (try rw [show 0 * 6 = 0 from rfl] at hx194_4)
                    (try rw [Addr.add_zero'] at hx194_4)
                    (try rw [show ((0 : Int)).toNat = 0 from rfl] at hx194_5)
                    (try rw [show 0 * 6 = 0 from rfl] at hx194_5)
                    (try rw [Addr.add_zero'] at hx194_5)
                    replace p194 := eq_true p194
                    replace q194 := eq_true q194
                    go_wp2
                    go_ret2
                    exact ⟨by first | rfl | (simp; done) | (simp [*]; done), by repeat (first | exact Drawn0.refl _ | apply Drawn0.step)⟩
                  · rw [if_neg c15] at H
                    have c15b0 : ((l2.length : Int) == 0) = false := beq_eq_false_iff_ne.mpr c15
                    have c15b1 : ((l2.length : Int) != 0) = true := bne_iff_ne.mpr c15
                    have c15b2 : ¬ (l2 = []) := fun h_ => c15 (by rw [h_]; rfl)
                    by_cases c16 : ((rd_T47 l0 ((rd_T45 l1 0).f0)).f0) < a3
                    · rw [if_pos c16] at H
                      have c16b0 : decide (((rd_T47 l0 ((rd_T45 l1 0).f0)).f0) < a3) = true := decide_eq_true c16
                      clear c16
                      simp only [Option.some.injEq, Prod.mk.injEq] at H
                      obtain ⟨rfl, rfl⟩ := H
                      have p190 : 0 ≤ (0 : Int) := (by omega)
                      have q190 : 0 < (l1.length : Int) := of_decide_eq_true (by first | (with_reducible assumption) | assumption)
                      obtain ⟨ad190, e190, hx190_0, hx190_1, hx190_2, hx190_3, hx190_4, hx190_5⟩ := at_T45 HR1.out 0 p190 q190
                      (try rw [← Nbq13.out] at hx190_5)
                      cases e190
                      have qi190 : (0 < l1.length) = True := eq_true (by omega)
                      (try rw [show ((0 : Int)).toNat = 0 from rfl] at hx190_0)
                      (try rw [show 0 * 6 = 0 from rfl] at hx190_0)
                      (try rw [Addr.add_zero'] at hx190_0)
                      (try rw [show ((0 : Int)).toNat = 0 from rfl] at hx190_1)
                      (try rw [show 0 * 6 = 0 from rfl] at hx190_1)
                      (try rw [Addr.add_zero'] at hx190_1)
                      (try rw [show ((0 : Int)).toNat = 0 from rfl] at hx190_2)
                      (try rw [show 0 * 6 = 0 from rfl] at hx190_2)
                      (try rw [Addr.add_zero'] at hx190_2)
                      (try rw [show ((0 : Int)).toNat = 0 from rfl] at hx190_3)
                      (try rw [show 0 * 6 = 0 from rfl] at hx190_3)
                      (try rw [Addr.add_zero'] at hx190_3)
                      (try rw [show ((0 : Int)).toNat = 0 from rfl] at hx190_4)
                      (try rw [show 0 * 6 = 0 from rfl] at hx190_4)
                      (try rw [Addr.add_zero'] at hx190_4)
                      (try rw [show ((0 : Int)).toNat = 0 from rfl] at hx190_5)
                      (try rw [show 0 * 6 = 0 from rfl] at hx190_5)
                      (try rw [Addr.add_zero'] at hx190_5)
                      replace p190 := eq_true p190
                      replace q190 := eq_true q190
                      have p191 : 0 ≤ (((rd_T45 l1 0).f0) : Int) := of_decide_eq_true (by first | (with_reducible assumption) | assumption)
                      have q191 : ((rd_T45 l1 0).f0) < (l0.length : Int) := of_decide_eq_true (by first | (with_reducible assumption) | assumption)
                      obtain ⟨ad191, A191_2, c191_2, A191_3, c191_3, e191, hx191_0, hx191_1, hx191_2, hx191_3, hl191_2, hi191_2, hl191_3, hi191_3⟩ := at_T47 HR0.out ((rd_T45 l1 0).f0) p191 q191
                      cases e191
                      have HR191_2 := Aside0.mk hi191_2
                      have HC191_2 := Aside0.mk hl191_2
                      clear hi191_2 hl191_2
                      have HR191_3 := Aside0.mk hi191_3
                      have HC191_3 := Aside0.mk hl191_3
                      clear hi191_3 hl191_3
                      replace p191 := eq_true p191
                      replace q191 := eq_true q191
                      have p192 : 0 ≤ (0 : Int) := (by omega)
                      have q192 : 0 < (l1.length : Int) := of_decide_eq_true (by first | (with_reducible assumption) | assumption)
                      obtain ⟨ad192, e192, hx192_0, hx192_1, hx192_2, hx192_3, hx192_4, hx192_5⟩ := at_T45 HR1.out 0 p192 q192
                      (try rw [← Nbq13.out] at hx192_5)
                      obtain rfl : ad190 = ad192 := (by injection e192)
                      have qi192 : (0 < l1.length) = True := eq_true (by omega)
                      (try rw [show ((0 : Int)).toNat = 0 from rfl] at hx192_0)
                      (try rw [show 0 * 6 = 0 from rfl] at hx192_0)
                      (try rw [Addr.add_zero'] at hx192_0)
                      (try rw [show ((0 : Int)).toNat = 0 from rfl] at hx192_1)
                      (try rw [show 0 * 6 = 0 from rfl] at hx192_1)
                      (try rw [Addr.add_zero'] at hx192_1)
                      (try rw [show ((0 : Int)).toNat = 0 from rfl] at hx192_2)
                      (try rw [show 0 * 6 = 0 from rfl] at hx192_2)
                      (try rw [Addr.add_zero'] at hx192_2)
                      (try rw [show ((0 : Int)).toNat = 0 from rfl] at hx192_3)
                      (try rw [show 0 * 6 = 0 from rfl] at hx192_3)
                      (try rw [Addr.add_zero'] at hx192_3)
                      (try rw [show ((0 : Int)).toNat = 0 from rfl] at hx192_4)
                      (try rw [show 0 * 6 = 0 from rfl] at hx192_4)
                      (try rw [Addr.add_zero'] at hx192_4)
                      (try rw [show ((0 : Int)).toNat = 0 from rfl] at hx192_5)
                      (try rw [show 0 * 6 = 0 from rfl] at hx192_5)
                      (try rw [Addr.add_zero'] at hx192_5)
                      replace p192 := eq_true p192
                      replace q192 := eq_true q192
                      have p195 : 0 ≤ (0 : Int) := (by omega)
                      have q195 : 0 < (l1.length : Int) := of_decide_eq_true (by first | (with_reducible assumption) | assumption)
                      obtain ⟨ad195, e195, hx195_0, hx195_1, hx195_2, hx195_3, hx195_4, hx195_5⟩ := at_T45 HR1.out 0 p195 q195
                      (try rw [← Nbq13.out] at hx195_5)
                      obtain rfl : ad190 = ad195 := (by injection e195)
                      have qi195 : (0 < l1.length) = True := eq_true (by omega)
                      (try rw [show ((0 : Int)).toNat = 0 from rfl] at hx195_0)
                      (try rw [show 0 * 6 = 0 from rfl] at hx195_0)
                      (try rw [Addr.add_zero'] at hx195_0)
                      (try rw [show ((0 : Int)).toNat = 0 from rfl] at hx195_1)
                      (try rw [show 0 * 6 = 0 from rfl] at hx195_1)
                      (try rw [Addr.add_zero'] at hx195_1)
                      (try rw [show ((0 : Int)).toNat = 0 from rfl] at hx195_2)
                      (try rw [show 0 * 6 = 0 from rfl] at hx195_2)
                      (try rw [Addr.add_zero'] at hx195_2)
                      (try rw [show ((0 : Int)).toNat = 0 from rfl] at hx195_3)
                      (try rw [show 0 * 6 = 0 from rfl] at hx195_3)
                      (try rw [Addr.add_zero'] at hx195_3)
                      (try rw [show ((0 : Int)).toNat = 0 from rfl] at hx195_4)
                      (try rw [show 0 * 6 = 0 from rfl] at hx195_4)
                      (try rw [Addr.add_zero'] at hx195_4)
                      (try rw [show ((0 : Int)).toNat = 0 from rfl] at hx195_5)
                      (try rw [show 0 * 6 = 0 from rfl] at hx195_5)
                      (try rw [Addr.add_zero'] at hx195_5)
                      replace p195 := eq_true p195
                      replace q195 := eq_true q195
                      go_wp2
                      go_ret2
                      exact ⟨by first | rfl | (simp; done) | (simp [*]; done), by repeat (first | exact Drawn0.refl _ | apply Drawn0.step)⟩
                    · rw [if_neg c16] at H
                      have c16b0 : decide (((rd_T47 l0 ((rd_T45 l1 0).f0)).f0) < a3) = false := decide_eq_false c16
                      clear c16
                      obtain ⟨ji17, hji17⟩ : ∃ j_ : Int, (wrap64 ((l2.length : Int) - 1)) = j_ := ⟨_, rfl⟩
                      replace H : (if 0 ≤ (ji17) then (if (ji17) < (l2.length : Int) then (some (rd l2 (ji17), true)) else (none)) else (none)) = some (r1, r2) := by first | (rw [hji17] at H; exact H) | (simp only [hji17] at H ⊢; exact H)
                      have hji17w : (IntKind.i64.wrap ((l2.length : Int) - 1)) = ji17 := (i64_w _).trans hji17
                      by_cases c18 : 0 ≤ (ji17)
                      · rw [if_pos c18] at H
                        have c18b0 : decide (0 ≤ (ji17)) = true := decide_eq_true c18
                        clear c18
                        by_cases c19 : (ji17) < (l2.length : Int)
                        · rw [if_pos c19] at H
                          have c19b0 : decide ((ji17) < (l2.length : Int)) = true := decide_eq_true c19
                          clear c19
                          simp only [Option.some.injEq, Prod.mk.injEq] at H
                          obtain ⟨rfl, rfl⟩ := H
                          have p190 : 0 ≤ (0 : Int) := (by omega)
                          have q190 : 0 < (l1.length : Int) := of_decide_eq_true (by first | (with_reducible assumption) | assumption)
                          obtain ⟨ad190, e190, hx190_0, hx190_1, hx190_2, hx190_3, hx190_4, hx190_5⟩ := at_T45 HR1.out 0 p190 q190
                          (try rw [← Nbq13.out] at hx190_5)
                          cases e190
                          have qi190 : (0 < l1.length) = True := eq_true (by omega)
                          (try rw [show ((0 : Int)).toNat = 0 from rfl] at hx190_0)
                          (try rw [show 0 * 6 = 0 from rfl] at hx190_0)
                          (try rw [Addr.add_zero'] at hx190_0)
                          (try rw [show ((0 : Int)).toNat = 0 from rfl] at hx190_1)
                          (try rw [show 0 * 6 = 0 from rfl] at hx190_1)
                          (try rw [Addr.add_zero'] at hx190_1)
                          (try rw [show ((0 : Int)).toNat = 0 from rfl] at hx190_2)
                          (try rw [show 0 * 6 = 0 from rfl] at hx190_2)
                          (try rw [Addr.add_zero'] at hx190_2)
                          (try rw [show ((0 : Int)).toNat = 0 from rfl] at hx190_3)
                          (try rw [show 0 * 6 = 0 from rfl] at hx190_3)
                          (try rw [Addr.add_zero'] at hx190_3)
                          (try rw [show ((0 : Int)).toNat = 0 from rfl] at hx190_4)
                          (try rw [show 0 * 6 = 0 from rfl] at hx190_4)
                          (try rw [Addr.add_zero'] at hx190_4)
                          (try rw [show ((0 : Int)).toNat = 0 from rfl] at hx190_5)
                          (try rw [show 0 * 6 = 0 from rfl] at hx190_5)
                          (try rw [Addr.add_zero'] at hx190_5)
                          replace p190 := eq_true p190
                          replace q190 := eq_true q190
                          have p191 : 0 ≤ (((rd_T45 l1 0).f0) : Int) := of_decide_eq_true (by first | (with_reducible assumption) | assumption)
                          have q191 : ((rd_T45 l1 0).f0) < (l0.length : Int) := of_decide_eq_true (by first | (with_reducible assumption) | assumption)
                          obtain ⟨ad191, A191_2, c191_2, A191_3, c191_3, e191, hx191_0, hx191_1, hx191_2, hx191_3, hl191_2, hi191_2, hl191_3, hi191_3⟩ := at_T47 HR0.out ((rd_T45 l1 0).f0) p191 q191
                          cases e191
                          have HR191_2 := Aside0.mk hi191_2
                          have HC191_2 := Aside0.mk hl191_2
                          clear hi191_2 hl191_2
                          have HR191_3 := Aside0.mk hi191_3
                          have HC191_3 := Aside0.mk hl191_3
                          clear hi191_3 hl191_3
                          replace p191 := eq_true p191
                          replace q191 := eq_true q191
                          have p192 : 0 ≤ (0 : Int) := (by omega)
                          have q192 : 0 < (l1.length : Int) := of_decide_eq_true (by first | (with_reducible assumption) | assumption)
                          obtain ⟨ad192, e192, hx192_0, hx192_1, hx192_2, hx192_3, hx192_4, hx192_5⟩ := at_T45 HR1.out 0 p192 q192
                          (try rw [← Nbq13.out] at hx192_5)
                          obtain rfl : ad190 = ad192 := (by injection e192)
                          have qi192 : (0 < l1.length) = True := eq_true (by omega)
                          (try rw [show ((0 : Int)).toNat = 0 from rfl] at hx192_0)
                          (try rw [show 0 * 6 = 0 from rfl] at hx192_0)
                          (try rw [Addr.add_zero'] at hx192_0)
                          (try rw [show ((0 : Int)).toNat = 0 from rfl] at hx192_1)
                          (try rw [show 0 * 6 = 0 from rfl] at hx192_1)
                          (try rw [Addr.add_zero'] at hx192_1)
                          (try rw [show ((0 : Int)).toNat = 0 from rfl] at hx192_2)
                          (try rw [show 0 * 6 = 0 from rfl] at hx192_2)
                          (try rw [Addr.add_zero'] at hx192_2)
                          (try rw [show ((0 : Int)).toNat = 0 from rfl] at hx192_3)
                          (try rw [show 0 * 6 = 0 from rfl] at hx192_3)
                          (try rw [Addr.add_zero'] at hx192_3)
                          (try rw [show ((0 : Int)).toNat = 0 from rfl] at hx192_4)
                          (try rw [show 0 * 6 = 0 from rfl] at hx192_4)
                          (try rw [Addr.add_zero'] at hx192_4)
                          (try rw [show ((0 : Int)).toNat = 0 from rfl] at hx192_5)
                          (try rw [show 0 * 6 = 0 from rfl] at hx192_5)
                          (try rw [Addr.add_zero'] at hx192_5)
                          replace p192 := eq_true p192
                          replace q192 := eq_true q192
                          have p196 : 0 ≤ ((ji17) : Int) := of_decide_eq_true (by first | (with_reducible assumption) | assumption)
                          have q196 : (ji17) < (l2.length : Int) := of_decide_eq_true (by first | (with_reducible assumption) | assumption)
                          obtain ⟨ad196, e196, hx196_0⟩ := Kd.at_int HR2.out (ji17) p196 q196
                          cases e196
                          replace p196 := eq_true p196
                          replace q196 := eq_true q196
                          go_wp2
                          go_ret2
                          exact ⟨by first | rfl | (simp; done) | (simp only [← hji17] <;> (first | rfl | simp)) | (simp [*]; done), by repeat (first | exact Drawn0.refl _ | apply Drawn0.step)⟩
                        · rw [if_neg c19] at H
                          exact absurd H (by simp)
                      · rw [if_neg c18] at H
                        exact absurd H (by simp)
              · rw [if_neg c12] at H
                exact absurd H (by simp)
            · rw [if_neg c11] at H
              exact absurd H (by simp)
          · rw [if_neg c10] at H
            exact absurd H (by simp)
        · replace c9 := Bool.eq_false_iff.mpr c9
          subst c9
          have H1 : (if 0 < (l1.length : Int) then (if (rd_T45 l1 0).f5 = true then (some ((rd_T45 l1 0).f0, true)) else (if (l2.length : Int) = 0 then (some ((rd_T45 l1 0).f0, true)) else (if 0 < a3 then (some ((rd_T45 l1 0).f0, true)) else (if 0 ≤ (wrap64 ((l2.length : Int) - 1)) then (if (wrap64 ((l2.length : Int) - 1)) < (l2.length : Int) then (some (rd l2 (wrap64 ((l2.length : Int) - 1)), true)) else (none)) else (none))))) else (none)) = some (r1, r2) := by rw [if_neg (show ¬ (false = true) by decide)] at H; exact H
          clear H
          have H := H1
          clear H1
          by_cases c20 : 0 < (l1.length : Int)
          · rw [if_pos c20] at H
            have c20b0 : decide (0 < (l1.length : Int)) = true := decide_eq_true c20
            have c20b1 : decide (0 < l1.length) = true := decide_eq_true (by omega)
            clear c20
            obtain ⟨bq21, hbq21⟩ : ∃ b_ : Bool, b_ = ((rd_T45 l1 0).f5) := ⟨_, rfl⟩
            replace H : (if bq21 = true then (some ((rd_T45 l1 0).f0, true)) else (if (l2.length : Int) = 0 then (some ((rd_T45 l1 0).f0, true)) else (if 0 < a3 then (some ((rd_T45 l1 0).f0, true)) else (if 0 ≤ (wrap64 ((l2.length : Int) - 1)) then (if (wrap64 ((l2.length : Int) - 1)) < (l2.length : Int) then (some (rd l2 (wrap64 ((l2.length : Int) - 1)), true)) else (none)) else (none))))) = some (r1, r2) := by rw [← hbq21] at H; exact H
            have Nbq21 := Aside0.mk hbq21
            clear hbq21
            by_cases c22 : bq21 = true
            · subst c22
              have H1 : (some ((rd_T45 l1 0).f0, true)) = some (r1, r2) := by rw [if_pos rfl] at H; exact H
              clear H
              have H := H1
              clear H1
              simp only [Option.some.injEq, Prod.mk.injEq] at H
              obtain ⟨rfl, rfl⟩ := H
              have p197 : 0 ≤ (0 : Int) := (by omega)
              have q197 : 0 < (l1.length : Int) := of_decide_eq_true (by first | (with_reducible assumption) | assumption)
              obtain ⟨ad197, e197, hx197_0, hx197_1, hx197_2, hx197_3, hx197_4, hx197_5⟩ := at_T45 HR1.out 0 p197 q197
              (try rw [← Nbq21.out] at hx197_5)
              cases e197
              have qi197 : (0 < l1.length) = True := eq_true (by omega)
              (try rw [show ((0 : Int)).toNat = 0 from rfl] at hx197_0)
              (try rw [show 0 * 6 = 0 from rfl] at hx197_0)
              (try rw [Addr.add_zero'] at hx197_0)
              (try rw [show ((0 : Int)).toNat = 0 from rfl] at hx197_1)
              (try rw [show 0 * 6 = 0 from rfl] at hx197_1)
              (try rw [Addr.add_zero'] at hx197_1)
              (try rw [show ((0 : Int)).toNat = 0 from rfl] at hx197_2)
              (try rw [show 0 * 6 = 0 from rfl] at hx197_2)
              (try rw [Addr.add_zero'] at hx197_2)
              (try rw [show ((0 : Int)).toNat = 0 from rfl] at hx197_3)
              (try rw [show 0 * 6 = 0 from rfl] at hx197_3)
              (try rw [Addr.add_zero'] at hx197_3)
              (try rw [show ((0 : Int)).toNat = 0 from rfl] at hx197_4)
              (try rw [show 0 * 6 = 0 from rfl] at hx197_4)
              (try rw [Addr.add_zero'] at hx197_4)
              (try rw [show ((0 : Int)).toNat = 0 from rfl] at hx197_5)
              (try rw [show 0 * 6 = 0 from rfl] at hx197_5)
              (try rw [Addr.add_zero'] at hx197_5)
              replace p197 := eq_true p197
              replace q197 := eq_true q197
              have p198 : 0 ≤ (0 : Int) := (by omega)
              have q198 : 0 < (l1.length : Int) := of_decide_eq_true (by first | (with_reducible assumption) | assumption)
              obtain ⟨ad198, e198, hx198_0, hx198_1, hx198_2, hx198_3, hx198_4, hx198_5⟩ := at_T45 HR1.out 0 p198 q198
              (try rw [← Nbq21.out] at hx198_5)
              obtain rfl : ad197 = ad198 := (by injection e198)
              have qi198 : (0 < l1.length) = True := eq_true (by omega)
              (try rw [show ((0 : Int)).toNat = 0 from rfl] at hx198_0)
              (try rw [show 0 * 6 = 0 from rfl] at hx198_0)
              (try rw [Addr.add_zero'] at hx198_0)
              (try rw [show ((0 : Int)).toNat = 0 from rfl] at hx198_1)
              (try rw [show 0 * 6 = 0 from rfl] at hx198_1)
              (try rw [Addr.add_zero'] at hx198_1)
              (try rw [show ((0 : Int)).toNat = 0 from rfl] at hx198_2)
              (try rw [show 0 * 6 = 0 from rfl] at hx198_2)
              (try rw [Addr.add_zero'] at hx198_2)
              (try rw [show ((0 : Int)).toNat = 0 from rfl] at hx198_3)
              (try rw [show 0 * 6 = 0 from rfl] at hx198_3)
              (try rw [Addr.add_zero'] at hx198_3)
              (try rw [show ((0 : Int)).toNat = 0 from rfl] at hx198_4)
              (try rw [show 0 * 6 = 0 from rfl] at hx198_4)
              (try rw [Addr.add_zero'] at hx198_4)
              (try rw [show ((0 : Int)).toNat = 0 from rfl] at hx198_5)
              (try rw [show 0 * 6 = 0 from rfl] at hx198_5)
              (try rw [Addr.add_zero'] at hx198_5)
              replace p198 := eq_true p198
              replace q198 := eq_true q198
              go_wp2
              go_ret2
              exact ⟨by first | rfl | (simp; done) | (simp [*]; done), by repeat (first | exact Drawn0.refl _ | apply Drawn0.step)⟩
            · replace c22 := Bool.eq_false_iff.mpr c22
              subst c22
              have H1 : (if (l2.length : Int) = 0 then (some ((rd_T45 l1 0).f0, true)) else (if 0 < a3 then (some ((rd_T45 l1 0).f0, true)) else (if 0 ≤ (wrap64 ((l2.length : Int) - 1)) then (if (wrap64 ((l2.length : Int) - 1)) < (l2.length : Int) then (some (rd l2 (wrap64 ((l2.length : Int) - 1)), true)) else (none)) else (none)))) = some (r1, r2) := by rw [if_neg (show ¬ (false = true) by decide)] at H; exact H
              clear H
              have H := H1
              clear H1
              by_cases c23 : (l2.length : Int) = 0
              · rw [if_pos c23] at H
                have c23b0 : ((l2.length : Int) == 0) = true := beq_iff_eq.mpr c23
                have c23b1 : ((l2.length : Int) != 0) = false := bne_eq_false_iff_eq.mpr c23
                clear c23
                simp only [Option.some.injEq, Prod.mk.injEq] at H
                obtain ⟨rfl, rfl⟩ := H
                have p197 : 0 ≤ (0 : Int) := (by omega)
                have q197 : 0 < (l1.length : Int) := of_decide_eq_true (by first | (with_reducible assumption) | assumption)
                obtain ⟨ad197, e197, hx197_0, hx197_1, hx197_2, hx197_3, hx197_4, hx197_5⟩ := at_T45 HR1.out 0 p197 q197
                (try rw [← Nbq21.out] at hx197_5)
                cases e197
                have qi197 : (0 < l1.length) = True := eq_true (by omega)
                (try rw [show ((0 : Int)).toNat = 0 from rfl] at hx197_0)
                (try rw [show 0 * 6 = 0 from rfl] at hx197_0)
                (try rw [Addr.add_zero'] at hx197_0)
                (try rw [show ((0 : Int)).toNat = 0 from rfl] at hx197_1)
                (try rw [show 0 * 6 = 0 from rfl] at hx197_1)
                (try rw [Addr.add_zero'] at hx197_1)
                (try rw [show ((0 : Int)).toNat = 0 from rfl] at hx197_2)
                (try rw [show 0 * 6 = 0 from rfl] at hx197_2)
                (try rw [Addr.add_zero'] at hx197_2)
                (try rw [show ((0 : Int)).toNat = 0 from rfl] at hx197_3)
                (try rw [show 0 * 6 = 0 from rfl] at hx197_3)
                (try rw [Addr.add_zero'] at hx197_3)
                (try rw [show ((0 : Int)).toNat = 0 from rfl] at hx197_4)
                (try rw [show 0 * 6 = 0 from rfl] at hx197_4)
                (try rw [Addr.add_zero'] at hx197_4)
                (try rw [show ((0 : Int)).toNat = 0 from rfl] at hx197_5)
                (try rw [show 0 * 6 = 0 from rfl] at hx197_5)
                (try rw [Addr.add_zero'] at hx197_5)
                replace p197 := eq_true p197
                replace q197 := eq_true q197
                have p199 : 0 ≤ (0 : Int) := (by omega)
                have q199 : 0 < (l1.length : Int) := of_decide_eq_true (by first | (with_reducible assumption) | assumption)
                obtain ⟨ad199, e199, hx199_0, hx199_1, hx199_2, hx199_3, hx199_4, hx199_5⟩ := at_T45 HR1.out 0 p199 q199
                (try rw [← Nbq21.out] at hx199_5)
                obtain rfl : ad197 = ad199 := (by injection e199)
                have qi199 : (0 < l1.length) = True := eq_true (by omega)
                (try rw [show ((0 : Int)).toNat = 0 from rfl] at hx199_0)
                (try rw [show 0 * 6 = 0 from rfl] at hx199_0)
                (try rw [Addr.add_zero'] at hx199_0)
                (try rw [show ((0 : Int)).toNat = 0 from rfl] at hx199_1)
                (try rw [show 0 * 6 = 0 from rfl] at hx199_1)
                (try rw [Addr.add_zero'] at hx199_1)
                (try rw [show ((0 : Int)).toNat = 0 from rfl] at hx199_2)
                (try rw [show 0 * 6 = 0 from rfl] at hx199_2)
                (try rw [Addr.add_zero'] at hx199_2)
                (try rw [show ((0 : Int)).toNat = 0 from rfl] at hx199_3)
                (try rw [show 0 * 6 = 0 from rfl] at hx199_3)
                (try rw [Addr.add_zero'] at hx199_3)
                (try rw [show ((0 : Int)).toNat = 0 from rfl] at hx199_4)
                (try rw [show 0 * 6 = 0 from rfl] at hx199_4)
                (try rw [Addr.add_zero'] at hx199_4)
                (try rw [show ((0 : Int)).toNat = 0 from rfl] at hx199_5)
                (try rw [show 0 * 6 = 0 from rfl] at hx199_5)
                (try rw [Addr.add_zero'] at hx199_5)
                replace p199 := eq_true p199
                replace q199 := eq_true q199
                go_wp2
                go_ret2
                exact ⟨by first | rfl | (simp; done) | (simp [*]; done), by repeat (first | exact Drawn0.refl _ | apply Drawn0.step)⟩
              · rw [if_neg c23] at H
                have c23b0 : ((l2.length : Int) == 0) = false := beq_eq_false_iff_ne.mpr c23
                have c23b1 : ((l2.length : Int) != 0) = true := bne_iff_ne.mpr c23
                have c23b2 : ¬ (l2 = []) := fun h_ => c23 (by rw [h_]; rfl)
                by_cases c24 : 0 < a3
                · rw [if_pos c24] at H
                  have c24b0 : decide (0 < a3) = true := decide_eq_true c24
                  clear c24
                  simp only [Option.some.injEq, Prod.mk.injEq] at H
                  obtain ⟨rfl, rfl⟩ := H
                  have p197 : 0 ≤ (0 : Int) := (by omega)
                  have q197 : 0 < (l1.length : Int) := of_decide_eq_true (by first | (with_reducible assumption) | assumption)
                  obtain ⟨ad197, e197, hx197_0, hx197_1, hx197_2, hx197_3, hx197_4, hx197_5⟩ := at_T45 HR1.out 0 p197 q197
                  (try rw [← Nbq21.out] at hx197_5)
                  cases e197
                  have qi197 : (0 < l1.length) = True := eq_true (by omega)
                  (try rw [show ((0 : Int)).toNat = 0 from rfl] at hx197_0)
                  (try rw [show 0 * 6 = 0 from rfl] at hx197_0)
                  (try rw [Addr.add_zero'] at hx197_0)
                  (try rw [show ((0 : Int)).toNat = 0 from rfl] at hx197_1)
                  (try rw [show 0 * 6 = 0 from rfl] at hx197_1)
                  (try rw [Addr.add_zero'] at hx197_1)
                  (try rw [show ((0 : Int)).toNat = 0 from rfl] at hx197_2)
                  (try rw [show 0 * 6 = 0 from rfl] at hx197_2)
                  (try rw [Addr.add_zero'] at hx197_2)
                  (try rw [show ((0 : Int)).toNat = 0 from rfl] at hx197_3)
                  (try rw [show 0 * 6 = 0 from rfl] at hx197_3)
                  (try rw [Addr.add_zero'] at hx197_3)
                  (try rw [show ((0 : Int)).toNat = 0 from rfl] at hx197_4)
                  (try rw [show 0 * 6 = 0 from rfl] at hx197_4)
                  (try rw [Addr.add_zero'] at hx197_4)
                  (try rw [show ((0 : Int)).toNat = 0 from rfl] at hx197_5)
                  (try rw [show 0 * 6 = 0 from rfl] at hx197_5)
                  (try rw [Addr.add_zero'] at hx197_5)
                  replace p197 := eq_true p197
                  replace q197 := eq_true q197
                  have p200 : 0 ≤ (0 : Int) := (by omega)
                  have q200 : 0 < (l1.length : Int) := of_decide_eq_true (by first | (with_reducible assumption) | assumption)
                  obtain ⟨ad200, e200, hx200_0, hx200_1, hx200_2, hx200_3, hx200_4, hx200_5⟩ := at_T45 HR1.out 0 p200 q200
                  (try rw [← Nbq21.out] at hx200_5)
                  obtain rfl : ad197 = ad200 := (by injection e200)
                  have qi200 : (0 < l1.length) = True := eq_true (by omega)
                  (try rw [show ((0 : Int)).toNat = 0 from rfl] at hx200_0)
                  (try rw [show 0 * 6 = 0 from rfl] at hx200_0)
                  (try rw [Addr.add_zero'] at hx200_0)
                  (try rw [show ((0 : Int)).toNat = 0 from rfl] at hx200_1)
                  (try rw [show 0 * 6 = 0 from rfl] at hx200_1)
                  (try rw [Addr.add_zero'] at hx200_1)
                  (try rw [show ((0 : Int)).toNat = 0 from rfl] at hx200_2)
                  (try rw [show 0 * 6 = 0 from rfl] at hx200_2)
                  (try rw [Addr.add_zero'] at hx200_2)
                  (try rw [show ((0 : Int)).toNat = 0 from rfl] at hx200_3)
                  (try rw [show 0 * 6 = 0 from rfl] at hx200_3)
                  (try rw [Addr.add_zero'] at hx200_3)
                  (try rw [show ((0 : Int)).toNat = 0 from rfl] at hx200_4)
                  (try rw [show 0 * 6 = 0 from rfl] at hx200_4)
                  (try rw [Addr.add_zero'] at hx200_4)
                  (try rw [show ((0 : Int)).toNat = 0 from rfl] at hx200_5)
                  (try rw [show 0 * 6 = 0 from rfl] at hx200_5)
                  (try rw [Addr.add_zero'] at hx200_5)
                  replace p200 := eq_true p200
                  replace q200 := eq_true q200
                  go_wp2
                  go_ret2
                  exact ⟨by first | rfl | (simp; done) | (simp [*]; done), by repeat (first | exact Drawn0.refl _ | apply Drawn0.step)⟩
                · rw [if_neg c24] at H
                  have c24b0 : decide (0 < a3) = false := decide_eq_false c24
                  clear c24
                  obtain ⟨ji25, hji25⟩ : ∃ j_ : Int, (wrap64 ((l2.length : Int) - 1)) = j_ := ⟨_, rfl⟩
                  replace H : (if 0 ≤ (ji25) then (if (ji25) < (l2.length : Int) then (some (rd l2 (ji25), true)) else (none)) else (none)) = some (r1, r2) := by first | (rw [hji25] at H; exact H) | (simp only [hji25] at H ⊢; exact H)
                  have hji25w : (IntKind.i64.wrap ((l2.length : Int) - 1)) = ji25 := (i64_w _).trans hji25
                  by_cases c26 : 0 ≤ (ji25)
                  · rw [if_pos c26] at H
                    have c26b0 : decide (0 ≤ (ji25)) = true := decide_eq_true c26
                    clear c26
                    by_cases c27 : (ji25) < (l2.length : Int)
                    · rw [if_pos c27] at H
                      have c27b0 : decide ((ji25) < (l2.length : Int)) = true := decide_eq_true c27
                      clear c27
                      simp only [Option.some.injEq, Prod.mk.injEq] at H
                      obtain ⟨rfl, rfl⟩ := H
                      have p197 : 0 ≤ (0 : Int) := (by omega)
                      have q197 : 0 < (l1.length : Int) := of_decide_eq_true (by first | (with_reducible assumption) | assumption)
                      obtain ⟨ad197, e197, hx197_0, hx197_1, hx197_2, hx197_3, hx197_4, hx197_5⟩ := at_T45 HR1.out 0 p197 q197
                      (try rw [← Nbq21.out] at hx197_5)
                      cases e197
                      have qi197 : (0 < l1.length) = True := eq_true (by omega)
                      (try rw [show ((0 : Int)).toNat = 0 from rfl] at hx197_0)
                      (try rw [show 0 * 6 = 0 from rfl] at hx197_0)
                      (try rw [Addr.add_zero'] at hx197_0)
                      (try rw [show ((0 : Int)).toNat = 0 from rfl] at hx197_1)
                      (try rw [show 0 * 6 = 0 from rfl] at hx197_1)
                      (try rw [Addr.add_zero'] at hx197_1)
                      (try rw [show ((0 : Int)).toNat = 0 from rfl] at hx197_2)
                      (try rw [show 0 * 6 = 0 from rfl] at hx197_2)
                      (try rw [Addr.add_zero'] at hx197_2)
                      (try rw [show ((0 : Int)).toNat = 0 from rfl] at hx197_3)
                      (try rw [show 0 * 6 = 0 from rfl] at hx197_3)
                      (try rw [Addr.add_zero'] at hx197_3)
                      (try rw [show ((0 : Int)).toNat = 0 from rfl] at hx197_4)
                      (try rw [show 0 * 6 = 0 from rfl] at hx197_4)
                      (try rw [Addr.add_zero'] at hx197_4)
                      (try rw [show ((0 : Int)).toNat = 0 from rfl] at hx197_5)
                      (try rw [show 0 * 6 = 0 from rfl] at hx197_5)
                      (try rw [Addr.add_zero'] at hx197_5)
                      replace p197 := eq_true p197
                      replace q197 := eq_true q197
                      have p201 : 0 ≤ ((ji25) : Int) := of_decide_eq_true (by first | (with_reducible assumption) | assumption)
                      have q201 : (ji25) < (l2.length : Int) := of_decide_eq_true (by first | (with_reducible assumption) | assumption)
                      obtain ⟨ad201, e201, hx201_0⟩ := Kd.at_int HR2.out (ji25) p201 q201
                      cases e201
                      replace p201 := eq_true p201
                      replace q201 := eq_true q201
                      go_wp2
                      go_ret2
                      exact ⟨by first | rfl | (simp; done) | (simp only [← hji25] <;> (first | rfl | simp)) | (simp [*]; done), by repeat (first | exact Drawn0.refl _ | apply Drawn0.step)⟩
                    · rw [if_neg c27] at H
                      exact absurd H (by simp)
                  · rw [if_neg c26] at H
                    exact absurd H (by simp)
          · rw [if_neg c20] at H
            exact absurd H (by simp)

end Go.Proofs.Ytekppfjlmedhpaa.PAll
