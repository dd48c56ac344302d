-- PRINTED by print.py (a twelfth state) out of the translation. Not trusted: Lean checks it.
import Derived.Test.YtekppfjlmedhpaaPAllx0
namespace Go.Proofs.Ytekppfjlmedhpaa.PAll
open Go.RowKit Go.Proofs.YtekppfjlmedhpaaW.PrintWords Go.Proofs.YtekppfjlmedhpaaW.PrintLast Go.Proofs.YtekppfjlmedhpaaW.PrintMore
attribute [local go_sem] max2_int min2_int max_two min_two max_three min_three max_four min_four   -- for this text's walks alone
set_option linter.unusedVariables false
set_option linter.unusedSimpArgs false

/-! ### pick_period: function 36 -/
def pick_period.f (l0 : List (S47)) (a1 : Int) : Option (Int) := if a1 < 0 then (some 0) else (if a1 ≥ (l0.length : Int) then (some 0) else (if 0 ≤ a1 then (if a1 < (l0.length : Int) then (some ((rd_T47 l0 a1).f0)) else (none)) else (none)))
set_option maxHeartbeats 8000000 in
set_option maxRecDepth 100000 in
theorem pick_period.calls (A0 : Option Addr) (c0 : Nat) (l0 : List (S47)) (a1 : Int) (r : Int) (w : World) (hr0 : Kd.C k47 w A0 l0.length l0) (hc0 : l0.length ≤ c0) (h : pick_period.f l0 a1 = some r) :
    Calls Try.prog 36 #[.slice A0 l0.length c0, .int .i64 a1] w fun e w' => e = .returned (.int .i64 r) ∧ Drawn0 w w' := by
  have HR0 := Aside0.mk hr0
  have HC0 := Aside0.mk hc0
  clear hr0 hc0
  have H : (if a1 < 0 then (some 0) else (if a1 ≥ (l0.length : Int) then (some 0) else (if 0 ≤ a1 then (if a1 < (l0.length : Int) then (some ((rd_T47 l0 a1).f0)) else (none)) else (none)))) = some r := h
  clear h
  by_cases c3 : a1 < 0
  · rw [if_pos c3] at H
    have c3b0 : decide (a1 < 0) = true := decide_eq_true c3
    clear c3
    obtain rfl := Option.some.inj H
    go_enter Try.func36, Try.ntmps36
    go_wp2
    go_ret
    exact ⟨by first | rfl | (simp; done) | (simp [*]; done), by repeat (first | exact Drawn0.refl _ | apply Drawn0.step)⟩
  · rw [if_neg c3] at H
    have c3b0 : decide (a1 < 0) = false := decide_eq_false c3
    clear c3
    by_cases c4 : a1 ≥ (l0.length : Int)
    · rw [if_pos c4] at H
      have c4b0 : decide ((l0.length : Int) ≤ a1) = true := decide_eq_true c4
      clear c4
      obtain rfl := Option.some.inj H
      go_enter Try.func36, Try.ntmps36
      go_wp2
      go_ret
      exact ⟨by first | rfl | (simp; done) | (simp [*]; done), by repeat (first | exact Drawn0.refl _ | apply Drawn0.step)⟩
    · rw [if_neg c4] at H
      have c4b0 : decide ((l0.length : Int) ≤ a1) = false := decide_eq_false c4
      clear c4
      by_cases c5 : 0 ≤ a1
      · rw [if_pos c5] at H
        have c5b0 : decide (0 ≤ a1) = true := decide_eq_true c5
        clear c5
        by_cases c6 : a1 < (l0.length : Int)
        · rw [if_pos c6] at H
          have c6b0 : decide (a1 < (l0.length : Int)) = true := decide_eq_true c6
          clear c6
          obtain rfl := Option.some.inj H
          have p183 : 0 ≤ (a1 : Int) := of_decide_eq_true (by first | (with_reducible assumption) | assumption)
          have q183 : a1 < (l0.length : Int) := of_decide_eq_true (by first | (with_reducible assumption) | assumption)
          obtain ⟨ad183, A183_2, c183_2, A183_3, c183_3, e183, hx183_0, hx183_1, hx183_2, hx183_3, hl183_2, hi183_2, hl183_3, hi183_3⟩ := at_T47 HR0.out a1 p183 q183
          cases e183
          have HR183_2 := Aside0.mk hi183_2
          have HC183_2 := Aside0.mk hl183_2
          clear hi183_2 hl183_2
          have HR183_3 := Aside0.mk hi183_3
          have HC183_3 := Aside0.mk hl183_3
          clear hi183_3 hl183_3
          replace p183 := eq_true p183
          replace q183 := eq_true q183
          go_enter Try.func36, Try.ntmps36
          go_wp2
          go_ret
          exact ⟨by first | rfl | (simp; done) | (simp [*]; done), by repeat (first | exact Drawn0.refl _ | apply Drawn0.step)⟩
        · rw [if_neg c6] at H
          exact absurd H (by simp)
      · rw [if_neg c5] at H
        exact absurd H (by simp)

/-! ### pick_Choose: function 22 -/
def pick_Choose.f (l0 : List (S47)) (l1 : List (S45)) (l2 : List Int) (a3 : Int) : Option (Int × Bool) := if (l1.length : Int) = 0 then (some (0, false)) else (if 0 < (l1.length : Int) then (if (rd_T45 l1 0).f5 = true then (some ((rd_T45 l1 0).f0, true)) else ((pick_period.f l0 ((rd_T45 l1 0).f0)).bind fun t186 => (if t186 < a3 then (some ((rd_T45 l1 0).f0, true)) else (if (l2.length : Int) = 0 then (some ((rd_T45 l1 0).f0, true)) else (if 0 ≤ (wrap64 ((l2.length : Int) - 1)) then (if (wrap64 ((l2.length : Int) - 1)) < (l2.length : Int) then (some (rd l2 (wrap64 ((l2.length : Int) - 1)), true)) else (none)) else (none)))))) else (none))
set_option maxHeartbeats 8000000 in
set_option maxRecDepth 100000 in
theorem pick_Choose.calls (A0 : Option Addr) (c0 : Nat) (l0 : List (S47)) (A1 : Option Addr) (c1 : Nat) (l1 : List (S45)) (A2 : Option Addr) (c2 : Nat) (l2 : List Int) (a3 : Int) (r1 : Int) (r2 : Bool) (w : World) (hr0 : Kd.C k47 w A0 l0.length l0) (hc0 : l0.length ≤ c0) (hr1 : Kd.C k45 w A1 l1.length l1) (hc1 : l1.length ≤ c1) (hr2 : Kd.C (Kd.int .i64) w A2 l2.length l2) (hc2 : l2.length ≤ c2) (h : pick_Choose.f l0 l1 l2 a3 = some (r1, r2)) :
    Calls Try.prog 22 #[.slice A0 l0.length c0, .slice A1 l1.length c1, .slice A2 l2.length c2, .int .i64 a3] w fun e w' => e = .returned (.tuple #[.int .i64 r1, .bool r2]) ∧ Below w.heap.size w w' := by
  have hu45 := Try.underlying45
  have HR0 := Aside0.mk hr0
  have HC0 := Aside0.mk hc0
  clear hr0 hc0
  have HR1 := Aside0.mk hr1
  have HC1 := Aside0.mk hc1
  clear hr1 hc1
  have HR2 := Aside0.mk hr2
  have HC2 := Aside0.mk hc2
  clear hr2 hc2
  have HB := Aside0.mk (Below.refl w.heap.size w)
  have H : (if (l1.length : Int) = 0 then (some (0, false)) else (if 0 < (l1.length : Int) then (if (rd_T45 l1 0).f5 = true then (some ((rd_T45 l1 0).f0, true)) else ((pick_period.f l0 ((rd_T45 l1 0).f0)).bind fun t186 => (if t186 < a3 then (some ((rd_T45 l1 0).f0, true)) else (if (l2.length : Int) = 0 then (some ((rd_T45 l1 0).f0, true)) else (if 0 ≤ (wrap64 ((l2.length : Int) - 1)) then (if (wrap64 ((l2.length : Int) - 1)) < (l2.length : Int) then (some (rd l2 (wrap64 ((l2.length : Int) - 1)), true)) else (none)) else (none)))))) else (none))) = some (r1, r2) := h
  clear h
  by_cases c5 : (l1.length : Int) = 0
  · rw [if_pos c5] at H
    have c5b0 : ((l1.length : Int) == 0) = true := beq_iff_eq.mpr c5
    have c5b1 : ((l1.length : Int) != 0) = false := bne_eq_false_iff_eq.mpr c5
    clear c5
    simp only [Option.some.injEq, Prod.mk.injEq] at H
    obtain ⟨rfl, rfl⟩ := H
    go_enter Try.func22, Try.ntmps22
    go_wp2
    go_ret2
    exact ⟨by first | rfl | (simp [errW_none, errW_some] <;> rfl) | (simp [*, errW_none, errW_some] <;> rfl), by repeat (first | (with_reducible first | exact HB.out | apply below_alloc | apply pw_below_drewN | apply below_drew1) | exact HB.out)⟩
  · rw [if_neg c5] at H
    have c5b0 : ((l1.length : Int) == 0) = false := beq_eq_false_iff_ne.mpr c5
    have c5b1 : ((l1.length : Int) != 0) = true := bne_iff_ne.mpr c5
    have c5b2 : ¬ (l1 = []) := fun h_ => c5 (by rw [h_]; rfl)
    by_cases c6 : 0 < (l1.length : Int)
    · rw [if_pos c6] at H
      have c6b0 : decide (0 < (l1.length : Int)) = true := decide_eq_true c6
      have c6b1 : decide (0 < l1.length) = true := decide_eq_true (by omega)
      clear c6
      obtain ⟨bq7, hbq7⟩ : ∃ b_ : Bool, b_ = ((rd_T45 l1 0).f5) := ⟨_, rfl⟩
      replace H : (if bq7 = true then (some ((rd_T45 l1 0).f0, true)) else ((pick_period.f l0 ((rd_T45 l1 0).f0)).bind fun t186 => (if t186 < a3 then (some ((rd_T45 l1 0).f0, true)) else (if (l2.length : Int) = 0 then (some ((rd_T45 l1 0).f0, true)) else (if 0 ≤ (wrap64 ((l2.length : Int) - 1)) then (if (wrap64 ((l2.length : Int) - 1)) < (l2.length : Int) then (some (rd l2 (wrap64 ((l2.length : Int) - 1)), true)) else (none)) else (none)))))) = some (r1, r2) := by rw [← hbq7] at H; exact H
      have Nbq7 := Aside0.mk hbq7
      clear hbq7
      by_cases c8 : bq7 = true
      · subst c8
        have H1 : (some ((rd_T45 l1 0).f0, true)) = some (r1, r2) := by rw [if_pos rfl] at H; exact H
        clear H
        have H := H1
        clear H1
        simp only [Option.some.injEq, Prod.mk.injEq] at H
        obtain ⟨rfl, rfl⟩ := H
        have p184 : 0 ≤ (0 : Int) := (by omega)
        have q184 : 0 < (l1.length : Int) := of_decide_eq_true (by first | (with_reducible assumption) | assumption)
        obtain ⟨ad184, e184, hx184_0, hx184_1, hx184_2, hx184_3, hx184_4, hx184_5⟩ := at_T45 HR1.out 0 p184 q184
        (try rw [← Nbq7.out] at hx184_5)
        cases e184
        have qi184 : (0 < l1.length) = True := eq_true (by omega)
        (try rw [show ((0 : Int)).toNat = 0 from rfl] at hx184_0)
        (try rw [show 0 * 6 = 0 from rfl] at hx184_0)
        (try rw [Addr.add_zero'] at hx184_0)
        (try rw [show ((0 : Int)).toNat = 0 from rfl] at hx184_1)
        (try rw [show 0 * 6 = 0 from rfl] at hx184_1)
        (try rw [Addr.add_zero'] at hx184_1)
        (try rw [show ((0 : Int)).toNat = 0 from rfl] at hx184_2)
        (try rw [show 0 * 6 = 0 from rfl] at hx184_2)
        (try rw [Addr.add_zero'] at hx184_2)
        (try rw [show ((0 : Int)).toNat = 0 from rfl] at hx184_3)
        (try rw [show 0 * 6 = 0 from rfl] at hx184_3)
        (try rw [Addr.add_zero'] at hx184_3)
        (try rw [show ((0 : Int)).toNat = 0 from rfl] at hx184_4)
        (try rw [show 0 * 6 = 0 from rfl] at hx184_4)
        (try rw [Addr.add_zero'] at hx184_4)
        (try rw [show ((0 : Int)).toNat = 0 from rfl] at hx184_5)
        (try rw [show 0 * 6 = 0 from rfl] at hx184_5)
        (try rw [Addr.add_zero'] at hx184_5)
        replace p184 := eq_true p184
        replace q184 := eq_true q184
        go_enter Try.func22, Try.ntmps22
        go_wp2_with (first | ((with_reducible refine gate_dst (N := 10) rfl ?_); (try (refine gate_guard (by rfl) ?_; dsimp only)); refine box_event ?hg (N := 10) ?hd (cs := #[.int .i64 0, .int .i64 0, .int .i64 0, .int .i64 0, .int .i64 0, .bool false]) (t := 45) ?hr ?_; (case hd => rfl); (case hg => rfl); (case hr => first | (go_simp; done) | (go_simp; rfl)); intro gb185 hg w9 hbox hb; have n0_ := Aside0.mk (below_step (by repeat (first | (with_reducible first | exact HB.out | apply below_alloc | apply pw_below_drewN | apply below_drew1) | exact HB.out)) hb); have n1_ := Aside0.mk (hbox); have n2_ := Aside0.mk ((by rw [hg]; exact (below_size (by repeat (first | (with_reducible first | exact HB.out | apply below_alloc | apply pw_below_drewN | apply below_drew1) | exact HB.out))) : w.heap.size ≤ gb185)); have n3_ := Aside0.mk ((by rw [hg]; exact (below_size (by repeat (first | (with_reducible first | exact HB.out | apply below_alloc | apply pw_below_drewN | apply below_drew1) | exact HB.out))) : w.heap.size ≤ gb185)); clear HB; have HB := n0_; have BK185 := n1_; have GW185 := n2_; have GE185 := n3_; clear n0_ n1_ n2_ n3_; clear hb hbox hg; have hcz10_0 : w9.cell? ⟨gb185, 0, none⟩ = some (.int .i64 0) := (blk_cell BK185.out 0).trans rfl; have hcz10_1 : w9.cell? ⟨gb185, 1, none⟩ = some (.int .i64 0) := (blk_cell BK185.out 1).trans rfl; have hcz10_2 : w9.cell? ⟨gb185, 2, none⟩ = some (.int .i64 0) := (blk_cell BK185.out 2).trans rfl; have hcz10_3 : w9.cell? ⟨gb185, 3, none⟩ = some (.int .i64 0) := (blk_cell BK185.out 3).trans rfl; have hcz10_4 : w9.cell? ⟨gb185, 4, none⟩ = some (.int .i64 0) := (blk_cell BK185.out 4).trans rfl; have hcz10_5 : w9.cell? ⟨gb185, 5, none⟩ = some (.bool false) := (blk_cell BK185.out 5).trans rfl; have hfz10_0 := blk_frozen BK185.out 0; have hfz10_1 := blk_frozen BK185.out 1; have hfz10_2 := blk_frozen BK185.out 2; have hfz10_3 := blk_frozen BK185.out 3; have hfz10_4 := blk_frozen BK185.out 4; have hfz10_5 := blk_frozen BK185.out 5))
        go_ret2
        exact ⟨by first | rfl | (simp [errW_none, errW_some] <;> rfl) | (simp [*, errW_none, errW_some] <;> rfl), by repeat (first | (with_reducible first | exact HB.out | apply below_alloc | apply pw_below_drewN | apply below_drew1 | refine below_set ?_ GE185.out) | exact HB.out)⟩
      · replace c8 := Bool.eq_false_iff.mpr c8
        subst c8
        have H1 : ((pick_period.f l0 ((rd_T45 l1 0).f0)).bind fun t186 => (if t186 < a3 then (some ((rd_T45 l1 0).f0, true)) else (if (l2.length : Int) = 0 then (some ((rd_T45 l1 0).f0, true)) else (if 0 ≤ (wrap64 ((l2.length : Int) - 1)) then (if (wrap64 ((l2.length : Int) - 1)) < (l2.length : Int) then (some (rd l2 (wrap64 ((l2.length : Int) - 1)), true)) else (none)) else (none))))) = some (r1, r2) := by rw [if_neg (show ¬ (false = true) by decide)] at H; exact H
        clear H
        have H := H1
        clear H1
        replace H := Option.bind_eq_some_iff.mp H
        obtain ⟨t186, A110, H⟩ := H
        replace H : (if t186 < a3 then (some ((rd_T45 l1 0).f0, true)) else (if (l2.length : Int) = 0 then (some ((rd_T45 l1 0).f0, true)) else (if 0 ≤ (wrap64 ((l2.length : Int) - 1)) then (if (wrap64 ((l2.length : Int) - 1)) < (l2.length : Int) then (some (rd l2 (wrap64 ((l2.length : Int) - 1)), true)) else (none)) else (none)))) = some (r1, r2) := H
        have A11 := Aside0.mk A110
        clear A110
        by_cases c12 : t186 < a3
        · rw [if_pos c12] at H
          have c12b0 : decide (t186 < a3) = true := decide_eq_true c12
          clear c12
          simp only [Option.some.injEq, Prod.mk.injEq] at H
          obtain ⟨rfl, rfl⟩ := H
          have p184 : 0 ≤ (0 : Int) := (by omega)
          have q184 : 0 < (l1.length : Int) := of_decide_eq_true (by first | (with_reducible assumption) | assumption)
          obtain ⟨ad184, e184, hx184_0, hx184_1, hx184_2, hx184_3, hx184_4, hx184_5⟩ := at_T45 HR1.out 0 p184 q184
          (try rw [← Nbq7.out] at hx184_5)
          cases e184
          have qi184 : (0 < l1.length) = True := eq_true (by omega)
          (try rw [show ((0 : Int)).toNat = 0 from rfl] at hx184_0)
          (try rw [show 0 * 6 = 0 from rfl] at hx184_0)
          (try rw [Addr.add_zero'] at hx184_0)
          (try rw [show ((0 : Int)).toNat = 0 from rfl] at hx184_1)
          (try rw [show 0 * 6 = 0 from rfl] at hx184_1)
          (try rw [Addr.add_zero'] at hx184_1)
          (try rw [show ((0 : Int)).toNat = 0 from rfl] at hx184_2)
          (try rw [show 0 * 6 = 0 from rfl] at hx184_2)
          (try rw [Addr.add_zero'] at hx184_2)
          (try rw [show ((0 : Int)).toNat = 0 from rfl] at hx184_3)
          (try rw [show 0 * 6 = 0 from rfl] at hx184_3)
          (try rw [Addr.add_zero'] at hx184_3)
          (try rw [show ((0 : Int)).toNat = 0 from rfl] at hx184_4)
          (try rw [show 0 * 6 = 0 from rfl] at hx184_4)
          (try rw [Addr.add_zero'] at hx184_4)
          (try rw [show ((0 : Int)).toNat = 0 from rfl] at hx184_5)
          (try rw [show 0 * 6 = 0 from rfl] at hx184_5)
          (try rw [Addr.add_zero'] at hx184_5)
          replace p184 := eq_true p184
          replace q184 := eq_true q184
          go_enter Try.func22, Try.ntmps22
          go_wp2_with (first | ((with_reducible refine gate_dst (N := 10) rfl ?_); (try (refine gate_guard (by rfl) ?_; dsimp only)); refine box_event ?hg (N := 10) ?hd (cs := #[.int .i64 0, .int .i64 0, .int .i64 0, .int .i64 0, .int .i64 0, .bool false]) (t := 45) ?hr ?_; (case hd => rfl); (case hg => rfl); (case hr => first | (go_simp; done) | (go_simp; rfl)); intro gb185 hg w13 hbox hb; have n0_ := Aside0.mk (below_step (by repeat (first | (with_reducible first | exact HB.out | apply below_alloc | apply pw_below_drewN | apply below_drew1) | exact HB.out)) hb); have n1_ := Aside0.mk (hbox); have n2_ := Aside0.mk ((by rw [hg]; exact (below_size (by repeat (first | (with_reducible first | exact HB.out | apply below_alloc | apply pw_below_drewN | apply below_drew1) | exact HB.out))) : w.heap.size ≤ gb185)); have n3_ := Aside0.mk ((by rw [hg]; exact (below_size (by repeat (first | (with_reducible first | exact HB.out | apply below_alloc | apply pw_below_drewN | apply below_drew1) | exact HB.out))) : w.heap.size ≤ gb185)); clear HB; have HB := n0_; have BK185 := n1_; have GW185 := n2_; have GE185 := n3_; clear n0_ n1_ n2_ n3_; clear hb hbox hg; have hcz14_0 : w13.cell? ⟨gb185, 0, none⟩ = some (.int .i64 0) := (blk_cell BK185.out 0).trans rfl; have hcz14_1 : w13.cell? ⟨gb185, 1, none⟩ = some (.int .i64 0) := (blk_cell BK185.out 1).trans rfl; have hcz14_2 : w13.cell? ⟨gb185, 2, none⟩ = some (.int .i64 0) := (blk_cell BK185.out 2).trans rfl; have hcz14_3 : w13.cell? ⟨gb185, 3, none⟩ = some (.int .i64 0) := (blk_cell BK185.out 3).trans rfl; have hcz14_4 : w13.cell? ⟨gb185, 4, none⟩ = some (.int .i64 0) := (blk_cell BK185.out 4).trans rfl; have hcz14_5 : w13.cell? ⟨gb185, 5, none⟩ = some (.bool false) := (blk_cell BK185.out 5).trans rfl; have hfz14_0 := blk_frozen BK185.out 0; have hfz14_1 := blk_frozen BK185.out 1; have hfz14_2 := blk_frozen BK185.out 2; have hfz14_3 := blk_frozen BK185.out 3; have hfz14_4 := blk_frozen BK185.out 4; have hfz14_5 := blk_frozen BK185.out 5) | (go_at_call 36; (with_reducible refine (pick_period.calls _ _ l0 ((rd_T45 l1 0).f0) t186 _ ?side1 ?side2 A11.out).mono ?_); (case side1 => exact Kd.C_below HR0.out (by repeat (first | (with_reducible first | exact HB.out | apply below_alloc | apply pw_below_drewN | apply below_drew1 | refine below_set ?_ GE185.out) | exact HB.out))); (case side2 => exact HC0.out); rintro e w' ⟨rfl, ⟨nd, rfl⟩⟩))
          go_ret2
          exact ⟨by first | rfl | (simp [errW_none, errW_some] <;> rfl) | (simp [*, errW_none, errW_some] <;> rfl), by repeat (first | (with_reducible first | exact HB.out | apply below_alloc | apply pw_below_drewN | apply below_drew1 | refine below_set ?_ GE185.out) | exact HB.out)⟩
        · rw [if_neg c12] at H
          have c12b0 : decide (t186 < a3) = false := decide_eq_false c12
          clear c12
          by_cases c15 : (l2.length : Int) = 0
          · rw [if_pos c15] at H
            have c15b0 : ((l2.length : Int) == 0) = true := beq_iff_eq.mpr c15
            have c15b1 : ((l2.length : Int) != 0) = false := bne_eq_false_iff_eq.mpr c15
            clear c15
            simp only [Option.some.injEq, Prod.mk.injEq] at H
            obtain ⟨rfl, rfl⟩ := H
            have p184 : 0 ≤ (0 : Int) := (by omega)
            have q184 : 0 < (l1.length : Int) := of_decide_eq_true (by first | (with_reducible assumption) | assumption)
            obtain ⟨ad184, e184, hx184_0, hx184_1, hx184_2, hx184_3, hx184_4, hx184_5⟩ := at_T45 HR1.out 0 p184 q184
            (try rw [← Nbq7.out] at hx184_5)
            cases e184
            have qi184 : (0 < l1.length) = True := eq_true (by omega)
            (try rw [show ((0 : Int)).toNat = 0 from rfl] at hx184_0)
            (try rw [show 0 * 6 = 0 from rfl] at hx184_0)
            (try rw [Addr.add_zero'] at hx184_0)
            (try rw [show ((0 : Int)).toNat = 0 from rfl] at hx184_1)
            (try rw [show 0 * 6 = 0 from rfl] at hx184_1)
            (try rw [Addr.add_zero'] at hx184_1)
            (try rw [show ((0 : Int)).toNat = 0 from rfl] at hx184_2)
            (try rw [show 0 * 6 = 0 from rfl] at hx184_2)
            (try rw [Addr.add_zero'] at hx184_2)
            (try rw [show ((0 : Int)).toNat = 0 from rfl] at hx184_3)
            (try rw [show 0 * 6 = 0 from rfl] at hx184_3)
            (try rw [Addr.add_zero'] at hx184_3)
            (try rw [show ((0 : Int)).toNat = 0 from rfl] at hx184_4)
            (try rw [show 0 * 6 = 0 from rfl] at hx184_4)
            (try rw [Addr.add_zero'] at hx184_4)
            (try rw [show ((0 : Int)).toNat = 0 from rfl] at hx184_5)
            (try rw [show 0 * 6 = 0 from rfl] at hx184_5)
            (try rw [Addr.add_zero'] at hx184_5)
            replace p184 := eq_true p184
            replace q184 := eq_true q184
            go_enter Try.func22, Try.ntmps22
            go_wp2_with (first | ((with_reducible refine gate_dst (N := 10) rfl ?_); (try (refine gate_guard (by rfl) ?_; dsimp only)); refine box_event ?hg (N := 10) ?hd (cs := #[.int .i64 0, .int .i64 0, .int .i64 0, .int .i64 0, .int .i64 0, .bool false]) (t := 45) ?hr ?_; (case hd => rfl); (case hg => rfl); (case hr => first | (go_simp; done) | (go_simp; rfl)); intro gb185 hg w16 hbox hb; have n0_ := Aside0.mk (below_step (by repeat (first | (with_reducible first | exact HB.out | apply below_alloc | apply pw_below_drewN | apply below_drew1) | exact HB.out)) hb); have n1_ := Aside0.mk (hbox); have n2_ := Aside0.mk ((by rw [hg]; exact (below_size (by repeat (first | (with_reducible first | exact HB.out | apply below_alloc | apply pw_below_drewN | apply below_drew1) | exact HB.out))) : w.heap.size ≤ gb185)); have n3_ := Aside0.mk ((by rw [hg]; exact (below_size (by repeat (first | (with_reducible first | exact HB.out | apply below_alloc | apply pw_below_drewN | apply below_drew1) | exact HB.out))) : w.heap.size ≤ gb185)); clear HB; have HB := n0_; have BK185 := n1_; have GW185 := n2_; have GE185 := n3_; clear n0_ n1_ n2_ n3_; clear hb hbox hg; have hcz17_0 : w16.cell? ⟨gb185, 0, none⟩ = some (.int .i64 0) := (blk_cell BK185.out 0).trans rfl; have hcz17_1 : w16.cell? ⟨gb185, 1, none⟩ = some (.int .i64 0) := (blk_cell BK185.out 1).trans rfl; have hcz17_2 : w16.cell? ⟨gb185, 2, none⟩ = some (.int .i64 0) := (blk_cell BK185.out 2).trans rfl; have hcz17_3 : w16.cell? ⟨gb185, 3, none⟩ = some (.int .i64 0) := (blk_cell BK185.out 3).trans rfl; have hcz17_4 : w16.cell? ⟨gb185, 4, none⟩ = some (.int .i64 0) := (blk_cell BK185.out 4).trans rfl; have hcz17_5 : w16.cell? ⟨gb185, 5, none⟩ = some (.bool false) := (blk_cell BK185.out 5).trans rfl; have hfz17_0 := blk_frozen BK185.out 0; have hfz17_1 := blk_frozen BK185.out 1; have hfz17_2 := blk_frozen BK185.out 2; have hfz17_3 := blk_frozen BK185.out 3; have hfz17_4 := blk_frozen BK185.out 4; have hfz17_5 := blk_frozen BK185.out 5) | (go_at_call 36; (with_reducible refine (pick_period.calls _ _ l0 ((rd_T45 l1 0).f0) t186 _ ?side1 ?side2 A11.out).mono ?_); (case side1 => exact Kd.C_below HR0.out (by repeat (first | (with_reducible first | exact HB.out | apply below_alloc | apply pw_below_drewN | apply below_drew1 | refine below_set ?_ GE185.out) | exact HB.out))); (case side2 => exact HC0.out); rintro e w' ⟨rfl, ⟨nd, rfl⟩⟩))
            go_ret2
            exact ⟨by first | rfl | (simp [errW_none, errW_some] <;> rfl) | (simp [*, errW_none, errW_some] <;> rfl), by repeat (first | (with_reducible first | exact HB.out | apply below_alloc | apply pw_below_drewN | apply below_drew1 | refine below_set ?_ GE185.out) | exact HB.out)⟩
          · rw [if_neg c15] at H
            have c15b0 : ((l2.length : Int) == 0) = false := beq_eq_false_iff_ne.mpr c15
            have c15b1 : ((l2.length : Int) != 0) = true := bne_iff_ne.mpr c15
            have c15b2 : ¬ (l2 = []) := fun h_ => c15 (by rw [h_]; rfl)
            obtain ⟨ji18, hji18⟩ : ∃ j_ : Int, (wrap64 ((l2.length : Int) - 1)) = j_ := ⟨_, rfl⟩
            replace H : (if 0 ≤ (ji18) then (if (ji18) < (l2.length : Int) then (some (rd l2 (ji18), true)) else (none)) else (none)) = some (r1, r2) := by first | (rw [hji18] at H; exact H) | (simp only [hji18] at H ⊢; exact H)
            (try rw [hji18] at A11)
            have hji18w : (IntKind.i64.wrap ((l2.length : Int) - 1)) = ji18 := (i64_w _).trans hji18
            by_cases c19 : 0 ≤ (ji18)
            · rw [if_pos c19] at H
              have c19b0 : decide (0 ≤ (ji18)) = true := decide_eq_true c19
              clear c19
              by_cases c20 : (ji18) < (l2.length : Int)
              · rw [if_pos c20] at H
                have c20b0 : decide ((ji18) < (l2.length : Int)) = true := decide_eq_true c20
                clear c20
                simp only [Option.some.injEq, Prod.mk.injEq] at H
                obtain ⟨rfl, rfl⟩ := H
                have p184 : 0 ≤ (0 : Int) := (by omega)
                have q184 : 0 < (l1.length : Int) := of_decide_eq_true (by first | (with_reducible assumption) | assumption)
                obtain ⟨ad184, e184, hx184_0, hx184_1, hx184_2, hx184_3, hx184_4, hx184_5⟩ := at_T45 HR1.out 0 p184 q184
                (try rw [← Nbq7.out] at hx184_5)
                cases e184
                have qi184 : (0 < l1.length) = True := eq_true (by omega)
                (try rw [show ((0 : Int)).toNat = 0 from rfl] at hx184_0)
                (try rw [show 0 * 6 = 0 from rfl] at hx184_0)
                (try rw [Addr.add_zero'] at hx184_0)
                (try rw [show ((0 : Int)).toNat = 0 from rfl] at hx184_1)
                (try rw [show 0 * 6 = 0 from rfl] at hx184_1)
                (try rw [Addr.add_zero'] at hx184_1)
                (try rw [show ((0 : Int)).toNat = 0 from rfl] at hx184_2)
                (try rw [show 0 * 6 = 0 from rfl] at hx184_2)
                (try rw [Addr.add_zero'] at hx184_2)
                (try rw [show ((0 : Int)).toNat = 0 from rfl] at hx184_3)
                (try rw [show 0 * 6 = 0 from rfl] at hx184_3)
                (try rw [Addr.add_zero'] at hx184_3)
                (try rw [show ((0 : Int)).toNat = 0 from rfl] at hx184_4)
                (try rw [show 0 * 6 = 0 from rfl] at hx184_4)
                (try rw [Addr.add_zero'] at hx184_4)
                (try rw [show ((0 : Int)).toNat = 0 from rfl] at hx184_5)
                (try rw [show 0 * 6 = 0 from rfl] at hx184_5)
                (try rw [Addr.add_zero'] at hx184_5)
                replace p184 := eq_true p184
                replace q184 := eq_true q184
                go_enter Try.func22, Try.ntmps22
                go_wp2_with (first | ((with_reducible refine gate_dst (N := 10) rfl ?_); (try (refine gate_guard (by rfl) ?_; dsimp only)); refine box_event ?hg (N := 10) ?hd (cs := #[.int .i64 0, .int .i64 0, .int .i64 0, .int .i64 0, .int .i64 0, .bool false]) (t := 45) ?hr ?_; (case hd => rfl); (case hg => rfl); (case hr => first | (go_simp; done) | (go_simp; rfl)); intro gb185 hg w21 hbox hb; have n0_ := Aside0.mk (below_step (by repeat (first | (with_reducible first | exact HB.out | apply below_alloc | apply pw_below_drewN | apply below_drew1) | exact HB.out)) hb); have n1_ := Aside0.mk (hbox); have n2_ := Aside0.mk ((by rw [hg]; exact (below_size (by repeat (first | (with_reducible first | exact HB.out | apply below_alloc | apply pw_below_drewN | apply below_drew1) | exact HB.out))) : w.heap.size ≤ gb185)); have n3_ := Aside0.mk ((by rw [hg]; exact (below_size (by repeat (first | (with_reducible first | exact HB.out | apply below_alloc | apply pw_below_drewN | apply below_drew1) | exact HB.out))) : w.heap.size ≤ gb185)); clear HB; have HB := n0_; have BK185 := n1_; have GW185 := n2_; have GE185 := n3_; clear n0_ n1_ n2_ n3_; clear hb hbox hg; have hcz22_0 : w21.cell? ⟨gb185, 0, none⟩ = some (.int .i64 0) := (blk_cell BK185.out 0).trans rfl; have hcz22_1 : w21.cell? ⟨gb185, 1, none⟩ = some (.int .i64 0) := (blk_cell BK185.out 1).trans rfl; have hcz22_2 : w21.cell? ⟨gb185, 2, none⟩ = some (.int .i64 0) := (blk_cell BK185.out 2).trans rfl; have hcz22_3 : w21.cell? ⟨gb185, 3, none⟩ = some (.int .i64 0) := (blk_cell BK185.out 3).trans rfl; have hcz22_4 : w21.cell? ⟨gb185, 4, none⟩ = some (.int .i64 0) := (blk_cell BK185.out 4).trans rfl; have hcz22_5 : w21.cell? ⟨gb185, 5, none⟩ = some (.bool false) := (blk_cell BK185.out 5).trans rfl; have hfz22_0 := blk_frozen BK185.out 0; have hfz22_1 := blk_frozen BK185.out 1; have hfz22_2 := blk_frozen BK185.out 2; have hfz22_3 := blk_frozen BK185.out 3; have hfz22_4 := blk_frozen BK185.out 4; have hfz22_5 := blk_frozen BK185.out 5) | (go_at_call 36; (with_reducible refine (pick_period.calls _ _ l0 ((rd_T45 l1 0).f0) t186 _ ?side1 ?side2 A11.out).mono ?_); (case side1 => exact Kd.C_below HR0.out (by repeat (first | (with_reducible first | exact HB.out | apply below_alloc | apply pw_below_drewN | apply below_drew1 | refine below_set ?_ GE185.out) | exact HB.out))); (case side2 => exact HC0.out); rintro e w' ⟨rfl, ⟨nd, rfl⟩⟩; have p187 : 0 ≤ ((ji18) : Int) := of_decide_eq_true (by first | (with_reducible assumption) | assumption); have q187 : (ji18) < (l2.length : Int) := of_decide_eq_true (by first | (with_reducible assumption) | assumption); obtain ⟨ad187, e187, hx187_0⟩ := Kd.at_int HR2.out (ji18) p187 q187; cases e187; have hn187_0 : ad187.block ≠ gb185 := Nat.ne_of_lt (Nat.lt_of_lt_of_le (by have := World.block_lt_of_cell? _ _ hx187_0; first | rwa [add_block] at this | exact this) GW185.out); have hn187_1 : ad187.block ≠ gb185 := Nat.ne_of_lt (Nat.lt_of_lt_of_le (by have := World.block_lt_of_cell? _ _ hx187_0; first | rwa [add_block] at this | exact this) GW185.out); have hn187_2 : ad187.block ≠ gb185 := Nat.ne_of_lt (Nat.lt_of_lt_of_le (by have := World.block_lt_of_cell? _ _ hx187_0; first | rwa [add_block] at this | exact this) GW185.out); have hn187_3 : ad187.block ≠ gb185 := Nat.ne_of_lt (Nat.lt_of_lt_of_le (by have := World.block_lt_of_cell? _ _ hx187_0; first | rwa [add_block] at this | exact this) GW185.out); have hn187_4 : ad187.block ≠ gb185 := Nat.ne_of_lt (Nat.lt_of_lt_of_le (by have := World.block_lt_of_cell? _ _ hx187_0; first | rwa [add_block] at this | exact this) GW185.out); have hn187_5 : ad187.block ≠ gb185 := Nat.ne_of_lt (Nat.lt_of_lt_of_le (by have := World.block_lt_of_cell? _ _ hx187_0; first | rwa [add_block] at this | exact this) GW185.out); replace hx187_0 := (HB.out.cell (World.block_lt_of_cell? w _ hx187_0)).trans hx187_0; replace hx187_0 := (cell_far (p := ⟨gb185, 0, none⟩) (by first | (rw [add_block]; exact hn187_0) | (show (Addr.add _ _).block ≠ _; rw [add_block]; exact hn187_0) | exact hn187_0) (.int .i64 ((rd_T45 l1 0).f0))).trans hx187_0; replace hx187_0 := (cell_far (p := ⟨gb185, 1, none⟩) (by first | (rw [add_block]; exact hn187_1) | (show (Addr.add _ _).block ≠ _; rw [add_block]; exact hn187_1) | exact hn187_1) (.int .i64 ((rd_T45 l1 0).f1))).trans hx187_0; replace hx187_0 := (cell_far (p := ⟨gb185, 2, none⟩) (by first | (rw [add_block]; exact hn187_2) | (show (Addr.add _ _).block ≠ _; rw [add_block]; exact hn187_2) | exact hn187_2) (.int .i64 ((rd_T45 l1 0).f2))).trans hx187_0; replace hx187_0 := (cell_far (p := ⟨gb185, 3, none⟩) (by first | (rw [add_block]; exact hn187_3) | (show (Addr.add _ _).block ≠ _; rw [add_block]; exact hn187_3) | exact hn187_3) (.int .i64 ((rd_T45 l1 0).f3))).trans hx187_0; replace hx187_0 := (cell_far (p := ⟨gb185, 4, none⟩) (by first | (rw [add_block]; exact hn187_4) | (show (Addr.add _ _).block ≠ _; rw [add_block]; exact hn187_4) | exact hn187_4) (.int .i64 ((rd_T45 l1 0).f4))).trans hx187_0; replace hx187_0 := (cell_far (p := ⟨gb185, 5, none⟩) (by first | (rw [add_block]; exact hn187_5) | (show (Addr.add _ _).block ≠ _; rw [add_block]; exact hn187_5) | exact hn187_5) (.bool false)).trans hx187_0; clear hn187_0; clear hn187_1; clear hn187_2; clear hn187_3; clear hn187_4; clear hn187_5; replace p187 := eq_true p187; replace q187 := eq_true q187))
                go_ret2
                exact ⟨by first | rfl | (simp [errW_none, errW_some] <;> rfl) | (simp only [← hji18]; first | rfl | (simp [errW_none, errW_some] <;> rfl)) | (simp [*, errW_none, errW_some] <;> rfl), by repeat (first | (with_reducible first | exact HB.out | apply below_alloc | apply pw_below_drewN | apply below_drew1 | refine below_set ?_ GE185.out) | exact HB.out)⟩
              · rw [if_neg c20] at H
                exact absurd H (by simp)
            · rw [if_neg c19] at H
              exact absurd H (by simp)
    · rw [if_neg c6] at H
      exact absurd H (by simp)

end Go.Proofs.Ytekppfjlmedhpaa.PAll
