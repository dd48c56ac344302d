-- Written by the kit's print.py; laid as one text a function by this session's split.py.
import Derived.Test.YtahdadmibmgpmaaPAllx0
namespace Go.Proofs.Ytahdadmibmgpmaa.PAll
open Go.RowKit Go.Proofs.YtahdadmibmgpmaaW.PrintWords Go.Proofs.YtahdadmibmgpmaaW.PrintLast
set_option linter.unusedVariables false
set_option linter.unusedSimpArgs false

/-! ### dormouseref21_Kept: function 17 -/
def dormouseref21_Kept.l0 : Nat → List (S53) → Int → Option (Bool)
  | 0, _, _ => none
  | k + 1, x0, x3 => if x3 < (x0.length : Int) then (if 0 ≤ x3 then (if ((rd_T53 x0 x3).f0) = 2 then (if ((rd_T53 x0 x3).f2) > ((rd_T53 x0 x3).f3) then (some false) else (dormouseref21_Kept.l0 k x0 (wrap64 (x3 + 1)))) else (if ((rd_T53 x0 x3).f0) = 3 then (if ((rd_T53 x0 x3).f2) > ((rd_T53 x0 x3).f3) then (some false) else (dormouseref21_Kept.l0 k x0 (wrap64 (x3 + 1)))) else (dormouseref21_Kept.l0 k x0 (wrap64 (x3 + 1))))) else (none)) else (some true)
def dormouseref21_Kept.f (k : Nat) (l0 : List (S53)) : Option (Bool) := dormouseref21_Kept.l0 k l0 0
theorem dormouseref21_Kept.mono_l : ∀ k, (∀ y0 y1, LeO (dormouseref21_Kept.l0 k y0 y1) (dormouseref21_Kept.l0 (k + 1) y0 y1))
  | 0 => fun _ _ r h => by simp [dormouseref21_Kept.l0] at h
  | k + 1 => by
    have ih0 := dormouseref21_Kept.mono_l k
    · intro y0 y1
      unfold dormouseref21_Kept.l0
      repeat' first
      | (with_reducible exact ih0 _ _)
      | (with_reducible exact LeO.refl _)
      | (with_reducible exact LeO.none _)
      | (with_reducible refine LeO.ite ?_ ?_)
      | (with_reducible refine LeO.bind ?_ (fun _ => ?_))
      | exact ih0 _ _
      | exact LeO.none _
      | refine LeO.ite ?_ ?_
      | refine LeO.bind ?_ (fun _ => ?_)
theorem dormouseref21_Kept.mono : ∀ a0 k, LeO (dormouseref21_Kept.f k a0) (dormouseref21_Kept.f (k + 1) a0) := by
  intro a0 k
  have ih0 := dormouseref21_Kept.mono_l k
  unfold dormouseref21_Kept.f
  repeat' first
      | (with_reducible exact ih0 _ _)
      | (with_reducible exact LeO.refl _)
      | (with_reducible exact LeO.none _)
      | (with_reducible refine LeO.ite ?_ ?_)
      | (with_reducible refine LeO.bind ?_ (fun _ => ?_))
      | exact ih0 _ _
      | exact LeO.none _
      | refine LeO.ite ?_ ?_
      | refine LeO.bind ?_ (fun _ => ?_)
set_option maxHeartbeats 8000000 in
set_option maxRecDepth 100000 in
theorem dormouseref21_Kept.calls (k : Nat) (A0 : Option Addr) (c0 : Nat) (l0 : List (S53)) (r : Bool) (w : World) (hr0 : Kd.C k53 w A0 l0.length l0) (hc0 : l0.length ≤ c0) (h : dormouseref21_Kept.f k l0 = some r) :
    Calls Try.prog 17 #[.slice A0 l0.length c0] w fun e w' => e = .returned (.bool r) ∧ Drawn0 w w' := by
 have HR0 := Aside0.mk hr0
 have HC0 := Aside0.mk hc0
 clear hr0 hc0
 have H : (dormouseref21_Kept.l0 k l0 0) = some r := h
 clear h; have H' := Aside0.mk H; clear H
 go_enter Try.func17, Try.ntmps17
 go_wp2
 repeat (go_quiet (fail); try go_wp2)
 go_loopg [3] k (fun kq v3 w' => ∃ (x3_1 : Int), v3 = .int .i64 x3_1 ∧ Aside0 (dormouseref21_Kept.l0 kq l0 x3_1 = some r) ∧ Aside0 (kq ≤ k) ∧ Drawn0 w w')
 case atStart => exact ⟨(0), (by first | rfl | (simp; done) | (simp [*]; done)), H', ⟨Nat.le_refl _⟩, by repeat (first | exact Drawn0.refl _ | apply Drawn0.step)⟩
 case round =>
  clear H'
  (try clear c1)
  obtain ⟨x3_1, rfl, HA, HK1, ⟨m1, rfl⟩⟩ := hrel
  cases gk with
  | zero => exact absurd HA.out (by simp [dormouseref21_Kept.l0])
  | succ k1 =>
   have H := HA.out; clear HA
   simp only [dormouseref21_Kept.l0] at H
   by_cases c2 : x3_1 < (l0.length : Int)
   ·
    rw [if_pos c2] at H
    have c2b0 : decide (x3_1 < (l0.length : Int)) = true := decide_eq_true c2
    clear c2
    by_cases c3 : 0 ≤ x3_1
    ·
     rw [if_pos c3] at H
     have c3b0 : decide (0 ≤ x3_1) = true := decide_eq_true c3
     clear c3
     by_cases c4 : ((rd_T53 l0 x3_1).f0) = 2
     ·
      rw [if_pos c4] at H
      have c4b0 : (((rd_T53 l0 x3_1).f0) == 2) = true := beq_iff_eq.mpr c4
      have c4b1 : (((rd_T53 l0 x3_1).f0) != 2) = false := bne_eq_false_iff_eq.mpr c4
      clear c4
      by_cases c5 : ((rd_T53 l0 x3_1).f2) > ((rd_T53 l0 x3_1).f3)
      ·
       rw [if_pos c5] at H
       have c5b0 : decide (((rd_T53 l0 x3_1).f3) < ((rd_T53 l0 x3_1).f2)) = true := decide_eq_true c5
       clear c5
       obtain rfl := Option.some.inj H
       have p265 : 0 ≤ (x3_1 : Int) := of_decide_eq_true (by first | (with_reducible assumption) | assumption)
       have q265 : x3_1 < (l0.length : Int) := of_decide_eq_true (by first | (with_reducible assumption) | assumption)
       obtain ⟨ad265, e265, hx265_0, hx265_1, hx265_2, hx265_3⟩ := at_T53 HR0.out x3_1 p265 q265
       cases e265
       replace p265 := eq_true p265
       replace q265 := eq_true q265
       have p266 : 0 ≤ (x3_1 : Int) := of_decide_eq_true (by first | (with_reducible assumption) | assumption)
       have q266 : x3_1 < (l0.length : Int) := of_decide_eq_true (by first | (with_reducible assumption) | assumption)
       obtain ⟨ad266, e266, hx266_0, hx266_1, hx266_2, hx266_3⟩ := at_T53 HR0.out x3_1 p266 q266
       obtain rfl : ad265 = ad266 := (by injection e266)
       replace p266 := eq_true p266
       replace q266 := eq_true q266
       have p267 : 0 ≤ (x3_1 : Int) := of_decide_eq_true (by first | (with_reducible assumption) | assumption)
       have q267 : x3_1 < (l0.length : Int) := of_decide_eq_true (by first | (with_reducible assumption) | assumption)
       obtain ⟨ad267, e267, hx267_0, hx267_1, hx267_2, hx267_3⟩ := at_T53 HR0.out x3_1 p267 q267
       obtain rfl : ad265 = ad267 := (by injection e267)
       replace p267 := eq_true p267
       replace q267 := eq_true q267
       go_wp2
       repeat (go_quiet (fail); try go_wp2)
       go_ret
       exact ⟨by first | rfl | (simp; done) | (simp [*]; done), by repeat (first | exact Drawn0.refl _ | apply Drawn0.step)⟩
      rw [if_neg c5] at H
      have c5b0 : decide (((rd_T53 l0 x3_1).f3) < ((rd_T53 l0 x3_1).f2)) = false := decide_eq_false c5
      clear c5; have H' := Aside0.mk H; clear H
      have p265 : 0 ≤ (x3_1 : Int) := of_decide_eq_true (by first | (with_reducible assumption) | assumption)
      have q265 : x3_1 < (l0.length : Int) := of_decide_eq_true (by first | (with_reducible assumption) | assumption)
      obtain ⟨ad265, e265, hx265_0, hx265_1, hx265_2, hx265_3⟩ := at_T53 HR0.out x3_1 p265 q265
      cases e265
      replace p265 := eq_true p265
      replace q265 := eq_true q265
      have p266 : 0 ≤ (x3_1 : Int) := of_decide_eq_true (by first | (with_reducible assumption) | assumption)
      have q266 : x3_1 < (l0.length : Int) := of_decide_eq_true (by first | (with_reducible assumption) | assumption)
      obtain ⟨ad266, e266, hx266_0, hx266_1, hx266_2, hx266_3⟩ := at_T53 HR0.out x3_1 p266 q266
      obtain rfl : ad265 = ad266 := (by injection e266)
      replace p266 := eq_true p266
      replace q266 := eq_true q266
      have p267 : 0 ≤ (x3_1 : Int) := of_decide_eq_true (by first | (with_reducible assumption) | assumption)
      have q267 : x3_1 < (l0.length : Int) := of_decide_eq_true (by first | (with_reducible assumption) | assumption)
      obtain ⟨ad267, e267, hx267_0, hx267_1, hx267_2, hx267_3⟩ := at_T53 HR0.out x3_1 p267 q267
      obtain rfl : ad265 = ad267 := (by injection e267)
      replace p267 := eq_true p267
      replace q267 := eq_true q267
      go_wp2
      repeat (go_quiet (fail); try go_wp2)
      go_roundg k1
      case measure => have := HK1.out; omega
      case rel => exact ⟨(wrap64 (x3_1 + 1)), (by first | rfl | (simp; done) | (simp [*]; done)), H', ⟨by have := HK1.out; omega⟩, by repeat (first | exact Drawn0.refl _ | apply Drawn0.step)⟩
     rw [if_neg c4] at H
     have c4b0 : (((rd_T53 l0 x3_1).f0) == 2) = false := beq_eq_false_iff_ne.mpr c4
     have c4b1 : (((rd_T53 l0 x3_1).f0) != 2) = true := bne_iff_ne.mpr c4
     by_cases c6 : ((rd_T53 l0 x3_1).f0) = 3
     ·
      rw [if_pos c6] at H
      have c6b0 : (((rd_T53 l0 x3_1).f0) == 3) = true := beq_iff_eq.mpr c6
      have c6b1 : (((rd_T53 l0 x3_1).f0) != 3) = false := bne_eq_false_iff_eq.mpr c6
      clear c6
      by_cases c7 : ((rd_T53 l0 x3_1).f2) > ((rd_T53 l0 x3_1).f3)
      ·
       rw [if_pos c7] at H
       have c7b0 : decide (((rd_T53 l0 x3_1).f3) < ((rd_T53 l0 x3_1).f2)) = true := decide_eq_true c7
       clear c7
       obtain rfl := Option.some.inj H
       have p265 : 0 ≤ (x3_1 : Int) := of_decide_eq_true (by first | (with_reducible assumption) | assumption)
       have q265 : x3_1 < (l0.length : Int) := of_decide_eq_true (by first | (with_reducible assumption) | assumption)
       obtain ⟨ad265, e265, hx265_0, hx265_1, hx265_2, hx265_3⟩ := at_T53 HR0.out x3_1 p265 q265
       cases e265
       replace p265 := eq_true p265
       replace q265 := eq_true q265
       have p268 : 0 ≤ (x3_1 : Int) := of_decide_eq_true (by first | (with_reducible assumption) | assumption)
       have q268 : x3_1 < (l0.length : Int) := of_decide_eq_true (by first | (with_reducible assumption) | assumption)
       obtain ⟨ad268, e268, hx268_0, hx268_1, hx268_2, hx268_3⟩ := at_T53 HR0.out x3_1 p268 q268
       obtain rfl : ad265 = ad268 := (by injection e268)
       replace p268 := eq_true p268
       replace q268 := eq_true q268
       have p269 : 0 ≤ (x3_1 : Int) := of_decide_eq_true (by first | (with_reducible assumption) | assumption)
       have q269 : x3_1 < (l0.length : Int) := of_decide_eq_true (by first | (with_reducible assumption) | assumption)
       obtain ⟨ad269, e269, hx269_0, hx269_1, hx269_2, hx269_3⟩ := at_T53 HR0.out x3_1 p269 q269
       obtain rfl : ad265 = ad269 := (by injection e269)
       replace p269 := eq_true p269
       replace q269 := eq_true q269
       have p270 : 0 ≤ (x3_1 : Int) := of_decide_eq_true (by first | (with_reducible assumption) | assumption)
       have q270 : x3_1 < (l0.length : Int) := of_decide_eq_true (by first | (with_reducible assumption) | assumption)
       obtain ⟨ad270, e270, hx270_0, hx270_1, hx270_2, hx270_3⟩ := at_T53 HR0.out x3_1 p270 q270
       obtain rfl : ad265 = ad270 := (by injection e270)
       replace p270 := eq_true p270
       replace q270 := eq_true q270
       go_wp2
       repeat (go_quiet (fail); try go_wp2)
       go_ret
       exact ⟨by first | rfl | (simp; done) | (simp [*]; done), by repeat (first | exact Drawn0.refl _ | apply Drawn0.step)⟩
      rw [if_neg c7] at H
      have c7b0 : decide (((rd_T53 l0 x3_1).f3) < ((rd_T53 l0 x3_1).f2)) = false := decide_eq_false c7
      clear c7; have H' := Aside0.mk H; clear H
      have p265 : 0 ≤ (x3_1 : Int) := of_decide_eq_true (by first | (with_reducible assumption) | assumption)
      have q265 : x3_1 < (l0.length : Int) := of_decide_eq_true (by first | (with_reducible assumption) | assumption)
      obtain ⟨ad265, e265, hx265_0, hx265_1, hx265_2, hx265_3⟩ := at_T53 HR0.out x3_1 p265 q265
      cases e265
      replace p265 := eq_true p265
      replace q265 := eq_true q265
      have p268 : 0 ≤ (x3_1 : Int) := of_decide_eq_true (by first | (with_reducible assumption) | assumption)
      have q268 : x3_1 < (l0.length : Int) := of_decide_eq_true (by first | (with_reducible assumption) | assumption)
      obtain ⟨ad268, e268, hx268_0, hx268_1, hx268_2, hx268_3⟩ := at_T53 HR0.out x3_1 p268 q268
      obtain rfl : ad265 = ad268 := (by injection e268)
      replace p268 := eq_true p268
      replace q268 := eq_true q268
      have p269 : 0 ≤ (x3_1 : Int) := of_decide_eq_true (by first | (with_reducible assumption) | assumption)
      have q269 : x3_1 < (l0.length : Int) := of_decide_eq_true (by first | (with_reducible assumption) | assumption)
      obtain ⟨ad269, e269, hx269_0, hx269_1, hx269_2, hx269_3⟩ := at_T53 HR0.out x3_1 p269 q269
      obtain rfl : ad265 = ad269 := (by injection e269)
      replace p269 := eq_true p269
      replace q269 := eq_true q269
      have p270 : 0 ≤ (x3_1 : Int) := of_decide_eq_true (by first | (with_reducible assumption) | assumption)
      have q270 : x3_1 < (l0.length : Int) := of_decide_eq_true (by first | (with_reducible assumption) | assumption)
      obtain ⟨ad270, e270, hx270_0, hx270_1, hx270_2, hx270_3⟩ := at_T53 HR0.out x3_1 p270 q270
      obtain rfl : ad265 = ad270 := (by injection e270)
      replace p270 := eq_true p270
      replace q270 := eq_true q270
      go_wp2
      repeat (go_quiet (fail); try go_wp2)
      go_roundg k1
      case measure => have := HK1.out; omega
      case rel => exact ⟨(wrap64 (x3_1 + 1)), (by first | rfl | (simp; done) | (simp [*]; done)), H', ⟨by have := HK1.out; omega⟩, by repeat (first | exact Drawn0.refl _ | apply Drawn0.step)⟩
     rw [if_neg c6] at H
     have c6b0 : (((rd_T53 l0 x3_1).f0) == 3) = false := beq_eq_false_iff_ne.mpr c6
     have c6b1 : (((rd_T53 l0 x3_1).f0) != 3) = true := bne_iff_ne.mpr c6
     have H' := Aside0.mk H; clear H
     have p265 : 0 ≤ (x3_1 : Int) := of_decide_eq_true (by first | (with_reducible assumption) | assumption)
     have q265 : x3_1 < (l0.length : Int) := of_decide_eq_true (by first | (with_reducible assumption) | assumption)
     obtain ⟨ad265, e265, hx265_0, hx265_1, hx265_2, hx265_3⟩ := at_T53 HR0.out x3_1 p265 q265
     cases e265
     replace p265 := eq_true p265
     replace q265 := eq_true q265
     have p268 : 0 ≤ (x3_1 : Int) := of_decide_eq_true (by first | (with_reducible assumption) | assumption)
     have q268 : x3_1 < (l0.length : Int) := of_decide_eq_true (by first | (with_reducible assumption) | assumption)
     obtain ⟨ad268, e268, hx268_0, hx268_1, hx268_2, hx268_3⟩ := at_T53 HR0.out x3_1 p268 q268
     obtain rfl : ad265 = ad268 := (by injection e268)
     replace p268 := eq_true p268
     replace q268 := eq_true q268
     go_wp2
     repeat (go_quiet (fail); try go_wp2)
     go_roundg k1
     case measure => have := HK1.out; omega
     case rel => exact ⟨(wrap64 (x3_1 + 1)), (by first | rfl | (simp; done) | (simp [*]; done)), H', ⟨by have := HK1.out; omega⟩, by repeat (first | exact Drawn0.refl _ | apply Drawn0.step)⟩
    rw [if_neg c3] at H
    exact absurd H (by simp)
   rw [if_neg c2] at H
   have c2b0 : decide (x3_1 < (l0.length : Int)) = false := decide_eq_false c2
   clear c2
   obtain rfl := Option.some.inj H
   go_wp2
   repeat (go_quiet (fail); try go_wp2)
   go_ret
   exact ⟨by first | rfl | (simp; done) | (simp [*]; done), by repeat (first | exact Drawn0.refl _ | apply Drawn0.step)⟩

end Go.Proofs.Ytahdadmibmgpmaa.PAll
