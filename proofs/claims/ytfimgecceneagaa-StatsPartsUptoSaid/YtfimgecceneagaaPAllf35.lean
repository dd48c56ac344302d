-- Written by the kit's print.py; laid as one text a function by this session's split.py.
import Derived.Test.YtfimgecceneagaaPAllx0
namespace Go.Proofs.Ytfimgecceneagaa.PAll
open Go.RowKit Go.Proofs.YtfimgecceneagaaW.PrintWords Go.Proofs.YtfimgecceneagaaW.PrintLast
set_option linter.unusedVariables false
set_option linter.unusedSimpArgs false

/-! ### dormouseref01_away: function 35 -/
def dormouseref01_away.f (a0 : Int) (a1 : Int) (a2 : Int) (a3 : Int) (a4 : Int) (a5 : Int) (a6 : Int) : Option (Bool) := if a0 < 0 then (some false) else (if a0 > 256 then (some false) else (if a1 < 0 then (some false) else (if a1 > 256 then (some false) else (if a2 < 0 then (some false) else (if a2 > 65536 then (some false) else (if a3 < 0 then (some false) else (if a3 > 65536 then (some false) else (if a5 < 0 then (some false) else (if a5 > 65536 then (some false) else (if a4 < 0 then (some false) else (if a4 > a5 then (some false) else (if a6 ≥ (wrap64 (a0 + a1)) then (if a6 ≥ 1 then (if a6 ≤ 16384 then (some (decide ((wrap64 ((wrap64 (a2 + a3)) + (wrap64 (a4 * (wrap64 ((wrap64 (a6 - a0)) - a1)))))) ≤ (wrap64 (a5 * a6))))) else (some false)) else (some false)) else (some false)))))))))))))
set_option maxHeartbeats 8000000 in
set_option maxRecDepth 100000 in
theorem dormouseref01_away.calls (a0 : Int) (a1 : Int) (a2 : Int) (a3 : Int) (a4 : Int) (a5 : Int) (a6 : Int) (r : Bool) (w : World) (h : dormouseref01_away.f a0 a1 a2 a3 a4 a5 a6 = some r) :
    Calls Try.prog 35 #[.int .i64 a0, .int .i64 a1, .int .i64 a2, .int .i64 a3, .int .i64 a4, .int .i64 a5, .int .i64 a6] w fun e w' => e = .returned (.bool r) ∧ Drawn0 w w' := by
  have H : (if a0 < 0 then (some false) else (if a0 > 256 then (some false) else (if a1 < 0 then (some false) else (if a1 > 256 then (some false) else (if a2 < 0 then (some false) else (if a2 > 65536 then (some false) else (if a3 < 0 then (some false) else (if a3 > 65536 then (some false) else (if a5 < 0 then (some false) else (if a5 > 65536 then (some false) else (if a4 < 0 then (some false) else (if a4 > a5 then (some false) else (if a6 ≥ (wrap64 (a0 + a1)) then (if a6 ≥ 1 then (if a6 ≤ 16384 then (some (decide ((wrap64 ((wrap64 (a2 + a3)) + (wrap64 (a4 * (wrap64 ((wrap64 (a6 - a0)) - a1)))))) ≤ (wrap64 (a5 * a6))))) else (some false)) else (some false)) else (some false)))))))))))))) = some r := h
  clear h
  by_cases c8 : a0 < 0
  · rw [if_pos c8] at H
    have c8b0 : decide (a0 < 0) = true := decide_eq_true c8
    clear c8
    obtain rfl := Option.some.inj H
    go_enter Try.func35, Try.ntmps35
    go_wp2
    go_ret
    exact ⟨by first | rfl | (simp; done) | (simp [*]; done), by repeat (first | exact Drawn0.refl _ | apply Drawn0.step)⟩
  · rw [if_neg c8] at H
    have c8b0 : decide (a0 < 0) = false := decide_eq_false c8
    clear c8
    by_cases c9 : a0 > 256
    · rw [if_pos c9] at H
      have c9b0 : decide (256 < a0) = true := decide_eq_true c9
      clear c9
      obtain rfl := Option.some.inj H
      go_enter Try.func35, Try.ntmps35
      go_wp2
      go_ret
      exact ⟨by first | rfl | (simp; done) | (simp [*]; done), by repeat (first | exact Drawn0.refl _ | apply Drawn0.step)⟩
    · rw [if_neg c9] at H
      have c9b0 : decide (256 < a0) = false := decide_eq_false c9
      clear c9
      by_cases c10 : a1 < 0
      · rw [if_pos c10] at H
        have c10b0 : decide (a1 < 0) = true := decide_eq_true c10
        clear c10
        obtain rfl := Option.some.inj H
        go_enter Try.func35, Try.ntmps35
        go_wp2
        go_ret
        exact ⟨by first | rfl | (simp; done) | (simp [*]; done), by repeat (first | exact Drawn0.refl _ | apply Drawn0.step)⟩
      · rw [if_neg c10] at H
        have c10b0 : decide (a1 < 0) = false := decide_eq_false c10
        clear c10
        by_cases c11 : a1 > 256
        · rw [if_pos c11] at H
          have c11b0 : decide (256 < a1) = true := decide_eq_true c11
          clear c11
          obtain rfl := Option.some.inj H
          go_enter Try.func35, Try.ntmps35
          go_wp2
          go_ret
          exact ⟨by first | rfl | (simp; done) | (simp [*]; done), by repeat (first | exact Drawn0.refl _ | apply Drawn0.step)⟩
        · rw [if_neg c11] at H
          have c11b0 : decide (256 < a1) = false := decide_eq_false c11
          clear c11
          by_cases c12 : a2 < 0
          · rw [if_pos c12] at H
            have c12b0 : decide (a2 < 0) = true := decide_eq_true c12
            clear c12
            obtain rfl := Option.some.inj H
            go_enter Try.func35, Try.ntmps35
            go_wp2
            go_ret
            exact ⟨by first | rfl | (simp; done) | (simp [*]; done), by repeat (first | exact Drawn0.refl _ | apply Drawn0.step)⟩
          · rw [if_neg c12] at H
            have c12b0 : decide (a2 < 0) = false := decide_eq_false c12
            clear c12
            by_cases c13 : a2 > 65536
            · rw [if_pos c13] at H
              have c13b0 : decide (65536 < a2) = true := decide_eq_true c13
              clear c13
              obtain rfl := Option.some.inj H
              go_enter Try.func35, Try.ntmps35
              go_wp2
              go_ret
              exact ⟨by first | rfl | (simp; done) | (simp [*]; done), by repeat (first | exact Drawn0.refl _ | apply Drawn0.step)⟩
            · rw [if_neg c13] at H
              have c13b0 : decide (65536 < a2) = false := decide_eq_false c13
              clear c13
              by_cases c14 : a3 < 0
              · rw [if_pos c14] at H
                have c14b0 : decide (a3 < 0) = true := decide_eq_true c14
                clear c14
                obtain rfl := Option.some.inj H
                go_enter Try.func35, Try.ntmps35
                go_wp2
                go_ret
                exact ⟨by first | rfl | (simp; done) | (simp [*]; done), by repeat (first | exact Drawn0.refl _ | apply Drawn0.step)⟩
              · rw [if_neg c14] at H
                have c14b0 : decide (a3 < 0) = false := decide_eq_false c14
                clear c14
                by_cases c15 : a3 > 65536
                · rw [if_pos c15] at H
                  have c15b0 : decide (65536 < a3) = true := decide_eq_true c15
                  clear c15
                  obtain rfl := Option.some.inj H
                  go_enter Try.func35, Try.ntmps35
                  go_wp2
                  go_ret
                  exact ⟨by first | rfl | (simp; done) | (simp [*]; done), by repeat (first | exact Drawn0.refl _ | apply Drawn0.step)⟩
                · rw [if_neg c15] at H
                  have c15b0 : decide (65536 < a3) = false := decide_eq_false c15
                  clear c15
                  by_cases c16 : a5 < 0
                  · rw [if_pos c16] at H
                    have c16b0 : decide (a5 < 0) = true := decide_eq_true c16
                    clear c16
                    obtain rfl := Option.some.inj H
                    go_enter Try.func35, Try.ntmps35
                    go_wp2
                    go_ret
                    exact ⟨by first | rfl | (simp; done) | (simp [*]; done), by repeat (first | exact Drawn0.refl _ | apply Drawn0.step)⟩
                  · rw [if_neg c16] at H
                    have c16b0 : decide (a5 < 0) = false := decide_eq_false c16
                    clear c16
                    by_cases c17 : a5 > 65536
                    · rw [if_pos c17] at H
                      have c17b0 : decide (65536 < a5) = true := decide_eq_true c17
                      clear c17
                      obtain rfl := Option.some.inj H
                      go_enter Try.func35, Try.ntmps35
                      go_wp2
                      go_ret
                      exact ⟨by first | rfl | (simp; done) | (simp [*]; done), by repeat (first | exact Drawn0.refl _ | apply Drawn0.step)⟩
                    · rw [if_neg c17] at H
                      have c17b0 : decide (65536 < a5) = false := decide_eq_false c17
                      clear c17
                      by_cases c18 : a4 < 0
                      · rw [if_pos c18] at H
                        have c18b0 : decide (a4 < 0) = true := decide_eq_true c18
                        clear c18
                        obtain rfl := Option.some.inj H
                        go_enter Try.func35, Try.ntmps35
                        go_wp2
                        go_ret
                        exact ⟨by first | rfl | (simp; done) | (simp [*]; done), by repeat (first | exact Drawn0.refl _ | apply Drawn0.step)⟩
                      · rw [if_neg c18] at H
                        have c18b0 : decide (a4 < 0) = false := decide_eq_false c18
                        clear c18
                        by_cases c19 : a4 > a5
                        · rw [if_pos c19] at H
                          have c19b0 : decide (a5 < a4) = true := decide_eq_true c19
                          clear c19
                          obtain rfl := Option.some.inj H
                          go_enter Try.func35, Try.ntmps35
                          go_wp2
                          go_ret
                          exact ⟨by first | rfl | (simp; done) | (simp [*]; done), by repeat (first | exact Drawn0.refl _ | apply Drawn0.step)⟩
                        · rw [if_neg c19] at H
                          have c19b0 : decide (a5 < a4) = false := decide_eq_false c19
                          clear c19
                          by_cases c20 : a6 ≥ (wrap64 (a0 + a1))
                          · rw [if_pos c20] at H
                            have c20b0 : decide ((wrap64 (a0 + a1)) ≤ a6) = true := decide_eq_true c20
                            clear c20
                            by_cases c21 : a6 ≥ 1
                            · rw [if_pos c21] at H
                              have c21b0 : decide (1 ≤ a6) = true := decide_eq_true c21
                              clear c21
                              by_cases c22 : a6 ≤ 16384
                              · rw [if_pos c22] at H
                                have c22b0 : decide (a6 ≤ 16384) = true := decide_eq_true c22
                                clear c22
                                obtain rfl := Option.some.inj H
                                go_enter Try.func35, Try.ntmps35
                                go_wp2
                                go_ret
                                exact ⟨by first | rfl | (simp; done) | (simp [*]; done), by repeat (first | exact Drawn0.refl _ | apply Drawn0.step)⟩
                              · rw [if_neg c22] at H
                                have c22b0 : decide (a6 ≤ 16384) = false := decide_eq_false c22
                                clear c22
                                obtain rfl := Option.some.inj H
                                go_enter Try.func35, Try.ntmps35
                                go_wp2
                                go_ret
                                exact ⟨by first | rfl | (simp; done) | (simp [*]; done), by repeat (first | exact Drawn0.refl _ | apply Drawn0.step)⟩
                            · rw [if_neg c21] at H
                              have c21b0 : decide (1 ≤ a6) = false := decide_eq_false c21
                              clear c21
                              obtain rfl := Option.some.inj H
                              go_enter Try.func35, Try.ntmps35
                              go_wp2
                              go_ret
                              exact ⟨by first | rfl | (simp; done) | (simp [*]; done), by repeat (first | exact Drawn0.refl _ | apply Drawn0.step)⟩
                          · rw [if_neg c20] at H
                            have c20b0 : decide ((wrap64 (a0 + a1)) ≤ a6) = false := decide_eq_false c20
                            clear c20
                            obtain rfl := Option.some.inj H
                            go_enter Try.func35, Try.ntmps35
                            go_wp2
                            go_ret
                            exact ⟨by first | rfl | (simp; done) | (simp [*]; done), by repeat (first | exact Drawn0.refl _ | apply Drawn0.step)⟩

end Go.Proofs.Ytfimgecceneagaa.PAll
