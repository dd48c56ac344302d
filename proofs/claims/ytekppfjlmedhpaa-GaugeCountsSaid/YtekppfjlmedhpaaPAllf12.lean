-- Written by the kit's print.py; laid as one text a function by this session's split.py.
import Derived.Test.YtekppfjlmedhpaaPAllx0
import Derived.Test.YtekppfjlmedhpaaPAllf25
import Derived.Test.YtekppfjlmedhpaaPAllf29
import Derived.Test.YtekppfjlmedhpaaPAllf31
import Derived.Test.YtekppfjlmedhpaaPAllf26
import Derived.Test.YtekppfjlmedhpaaPAllf30
import Derived.Test.YtekppfjlmedhpaaPAllf32
namespace Go.Proofs.Ytekppfjlmedhpaa.PAll
open Go.RowKit Go.Proofs.YtekppfjlmedhpaaW.PrintWords Go.Proofs.YtekppfjlmedhpaaW.PrintLast Go.Proofs.YtekppfjlmedhpaaW.PrintMore
attribute [local go_sem] max2_int min2_int max_two min_two max_three min_three max_four min_four   -- for this text's walks alone
set_option linter.unusedVariables false
set_option linter.unusedSimpArgs false

/-! ### dormouselaw21_GaugeCounts: function 12 -/
def dormouselaw21_GaugeCounts.l0 : Nat → List (S54) → Int → Option (Bool)
  | 0, _, _ => none
  | k + 1, x0, x3 => if x3 < (x0.length : Int) then (if 0 ≤ x3 then ((dormouselaw21_near.f ((rd_T54 x0 x3).f5)).bind fun t279 => (if t279 = true then (dormouselaw21_GaugeCounts.l0 k x0 (wrap64 (x3 + 1))) else ((dormouselaw21_answers.f k).bind fun t280 => (some t280)))) else (none)) else ((dormouselaw21_answers.f k).bind fun t281 => (if t281 = true then ((gauge_Cycles.f k x0).bind fun t282 => ((dormouseref21_Cycles.f k x0).bind fun t283 => (if t282 = t283 then ((gauge_Switches.f k x0).bind fun t284 => ((dormouseref21_Switches.f k x0).bind fun t285 => (some (t284 == t285)))) else (some false)))) else (some false)))
def dormouselaw21_GaugeCounts.f (k : Nat) (l0 : List (S54)) : Option (Bool) := dormouselaw21_GaugeCounts.l0 k l0 0
theorem dormouselaw21_GaugeCounts.mono_l : ∀ k, (∀ y0 y1, LeO (dormouselaw21_GaugeCounts.l0 k y0 y1) (dormouselaw21_GaugeCounts.l0 (k + 1) y0 y1))
  | 0 => fun _ _ r h => by simp [dormouselaw21_GaugeCounts.l0] at h
  | k + 1 => by
    have ih0 := dormouselaw21_GaugeCounts.mono_l k
    · intro y0 y1
      unfold dormouselaw21_GaugeCounts.l0
      repeat' first
      | (with_reducible exact ih0 _ _)
      | (with_reducible exact dormouselaw21_answers.mono _)
      | (with_reducible exact dormouseref21_Cycles.mono _ _)
      | (with_reducible exact dormouseref21_Switches.mono _ _)
      | (with_reducible exact gauge_Cycles.mono _ _)
      | (with_reducible exact gauge_Switches.mono _ _)
      | (with_reducible exact LeO.refl _)
      | (with_reducible exact LeO.none _)
      | (with_reducible refine LeO.ite ?_ ?_)
      | (with_reducible refine LeO.bind ?_ (fun _ => ?_))
      | exact ih0 _ _
      | exact dormouselaw21_answers.mono _
      | exact dormouseref21_Cycles.mono _ _
      | exact dormouseref21_Switches.mono _ _
      | exact gauge_Cycles.mono _ _
      | exact gauge_Switches.mono _ _
      | exact LeO.none _
      | refine LeO.ite ?_ ?_
      | refine LeO.bind ?_ (fun _ => ?_)
theorem dormouselaw21_GaugeCounts.mono : ∀ a0 k, LeO (dormouselaw21_GaugeCounts.f k a0) (dormouselaw21_GaugeCounts.f (k + 1) a0) := by
  intro a0 k
  have ih0 := dormouselaw21_GaugeCounts.mono_l k
  unfold dormouselaw21_GaugeCounts.f
  repeat' first
      | (with_reducible exact ih0 _ _)
      | (with_reducible exact dormouselaw21_answers.mono _)
      | (with_reducible exact dormouseref21_Cycles.mono _ _)
      | (with_reducible exact dormouseref21_Switches.mono _ _)
      | (with_reducible exact gauge_Cycles.mono _ _)
      | (with_reducible exact gauge_Switches.mono _ _)
      | (with_reducible exact LeO.refl _)
      | (with_reducible exact LeO.none _)
      | (with_reducible refine LeO.ite ?_ ?_)
      | (with_reducible refine LeO.bind ?_ (fun _ => ?_))
      | exact ih0 _ _
      | exact dormouselaw21_answers.mono _
      | exact dormouseref21_Cycles.mono _ _
      | exact dormouseref21_Switches.mono _ _
      | exact gauge_Cycles.mono _ _
      | exact gauge_Switches.mono _ _
      | exact LeO.none _
      | refine LeO.ite ?_ ?_
      | refine LeO.bind ?_ (fun _ => ?_)
set_option maxHeartbeats 8000000 in
set_option maxRecDepth 100000 in
theorem dormouselaw21_GaugeCounts.calls (k : Nat) (A0 : Option Addr) (c0 : Nat) (l0 : List (S54)) (w : World) (hr0 : Kd.C k54 w A0 l0.length l0) (hc0 : l0.length ≤ c0) (h : dormouselaw21_GaugeCounts.f k l0 = some true) :
    Calls Try.prog 12 #[.slice A0 l0.length c0] w fun e w' => e = .returned (.bool true) ∧ Below w.heap.size w w' := by
 have HR0 := Aside0.mk hr0
 have HC0 := Aside0.mk hc0
 clear hr0 hc0; have HB := Aside0.mk (Below.refl w.heap.size w)
 have H : (dormouselaw21_GaugeCounts.l0 k l0 0) = some true := h
 clear h; have H' := Aside0.mk H; clear H
 go_enter Try.func12, Try.ntmps12
 go_wp2
 go_loopg [3] k (fun kq v3 w' => ∃ (x3_1 : Int), v3 = .int .i64 x3_1 ∧ Aside0 (dormouselaw21_GaugeCounts.l0 kq l0 x3_1 = some true) ∧ Aside0 (kq ≤ k) ∧ Aside0 (Below w.heap.size w w'))
 case atStart => exact ⟨(0), (by first | rfl | (simp; done) | (simp [*]; done)), H', ⟨Nat.le_refl _⟩, ⟨by repeat (first | (with_reducible first | exact HB.out | apply below_alloc | apply pw_below_drewN | apply below_drew1) | exact HB.out)⟩⟩
 case round => as_aux_lemma =>
  clear H'
  (try clear c1)
  obtain ⟨x3_1, rfl, HA, HK1, HB⟩ := hrel
  cases gk with
  | zero => exact absurd HA.out (by simp [dormouselaw21_GaugeCounts.l0])
  | succ k1 =>
   have H := HA.out; clear HA
   simp only [dormouselaw21_GaugeCounts.l0] at H
   by_cases c2 : x3_1 < (l0.length : Int)
   · as_aux_lemma =>
    rw [if_pos c2] at H
    have c2b0 : decide (x3_1 < (l0.length : Int)) = true := decide_eq_true c2
    clear c2
    by_cases c3 : 0 ≤ x3_1
    · as_aux_lemma =>
     rw [if_pos c3] at H
     have c3b0 : decide (0 ≤ x3_1) = true := decide_eq_true c3
     clear c3
     replace H := Option.bind_eq_some_iff.mp H
     obtain ⟨t279, A40, H⟩ := H
     replace H : (if t279 = true then (dormouselaw21_GaugeCounts.l0 k1 l0 (wrap64 (x3_1 + 1))) else ((dormouselaw21_answers.f k1).bind fun t280 => (some t280))) = some true := H
     have A4 := Aside0.mk A40
     clear A40
     by_cases c5 : t279 = true
     ·
      subst c5
      have H1 : (dormouselaw21_GaugeCounts.l0 k1 l0 (wrap64 (x3_1 + 1))) = some true := by rw [if_pos rfl] at H; exact H
      clear H; have H := H1; clear H1; have H' := Aside0.mk H; clear H
      have p278 : 0 ≤ (x3_1 : Int) := of_decide_eq_true (by first | (with_reducible assumption) | assumption)
      have q278 : x3_1 < (l0.length : Int) := of_decide_eq_true (by first | (with_reducible assumption) | assumption)
      obtain ⟨ad278, e278, hx278_0, hx278_1, hx278_2, hx278_3, hx278_4, hx278_5⟩ := at_T54 HR0.out x3_1 p278 q278
      cases e278
      replace hx278_0 := (HB.out.cell (World.block_lt_of_cell? w _ hx278_0)).trans hx278_0
      replace hx278_1 := (HB.out.cell (World.block_lt_of_cell? w _ hx278_1)).trans hx278_1
      replace hx278_2 := (HB.out.cell (World.block_lt_of_cell? w _ hx278_2)).trans hx278_2
      replace hx278_3 := (HB.out.cell (World.block_lt_of_cell? w _ hx278_3)).trans hx278_3
      replace hx278_4 := (HB.out.cell (World.block_lt_of_cell? w _ hx278_4)).trans hx278_4
      replace hx278_5 := (HB.out.cell (World.block_lt_of_cell? w _ hx278_5)).trans hx278_5
      replace p278 := eq_true p278
      replace q278 := eq_true q278
      go_wp2_with (first | ((with_reducible refine gate_callee (f := 25) rfl ?_); refine goesL_ (some 15) rfl rfl Try.func25 (by kernel_rfl) rfl #[.int .i64 ((rd_T54 l0 x3_1).f5)] rfl (by (try simp only [List.map_toArray, List.map_cons, List.map_nil]); first | done | rfl | (simp only [List.length_drop, List.length_take]; rfl)) ?_; (with_reducible refine (dormouselaw21_near.calls ((rd_T54 l0 x3_1).f5) true _ A4.out).mono ?_); rintro e w' ⟨rfl, ⟨nd, rfl⟩⟩; refine ⟨_, rfl, ?_⟩))
      go_roundg k1
      case measure => have := HK1.out; omega
      case rel => exact ⟨(wrap64 (x3_1 + 1)), (by first | rfl | (simp; done) | (simp [*]; done)), H', ⟨by have := HK1.out; omega⟩, ⟨by repeat (first | (with_reducible first | exact HB.out | apply below_alloc | apply pw_below_drewN | apply below_drew1) | exact HB.out)⟩⟩
     replace c5 := Bool.eq_false_iff.mpr c5
     subst c5
     have H1 : ((dormouselaw21_answers.f k1).bind fun t280 => (some t280)) = some true := by rw [if_neg (show ¬ (false = true) by decide)] at H; exact H
     clear H; have H := H1; clear H1
     replace H := Option.bind_eq_some_iff.mp H
     obtain ⟨t280, A60, H⟩ := H
     replace H : (some t280) = some true := H
     have A6 := Aside0.mk A60
     clear A60; have HR_ := Aside0.mk (Option.some.inj H)
     have p278 : 0 ≤ (x3_1 : Int) := of_decide_eq_true (by first | (with_reducible assumption) | assumption)
     have q278 : x3_1 < (l0.length : Int) := of_decide_eq_true (by first | (with_reducible assumption) | assumption)
     obtain ⟨ad278, e278, hx278_0, hx278_1, hx278_2, hx278_3, hx278_4, hx278_5⟩ := at_T54 HR0.out x3_1 p278 q278
     cases e278
     replace hx278_0 := (HB.out.cell (World.block_lt_of_cell? w _ hx278_0)).trans hx278_0
     replace hx278_1 := (HB.out.cell (World.block_lt_of_cell? w _ hx278_1)).trans hx278_1
     replace hx278_2 := (HB.out.cell (World.block_lt_of_cell? w _ hx278_2)).trans hx278_2
     replace hx278_3 := (HB.out.cell (World.block_lt_of_cell? w _ hx278_3)).trans hx278_3
     replace hx278_4 := (HB.out.cell (World.block_lt_of_cell? w _ hx278_4)).trans hx278_4
     replace hx278_5 := (HB.out.cell (World.block_lt_of_cell? w _ hx278_5)).trans hx278_5
     replace p278 := eq_true p278
     replace q278 := eq_true q278
     go_wp2_with (first | ((with_reducible refine gate_callee (f := 25) rfl ?_); refine goesL_ (some 15) rfl rfl Try.func25 (by kernel_rfl) rfl #[.int .i64 ((rd_T54 l0 x3_1).f5)] rfl (by (try simp only [List.map_toArray, List.map_cons, List.map_nil]); first | done | rfl | (simp only [List.length_drop, List.length_take]; rfl)) ?_; (with_reducible refine (dormouselaw21_near.calls ((rd_T54 l0 x3_1).f5) false _ A4.out).mono ?_); rintro e w' ⟨rfl, ⟨nd, rfl⟩⟩; refine ⟨_, rfl, ?_⟩) | ((with_reducible refine gate_callee (f := 26) rfl ?_); refine goesL_ (some 17) rfl rfl Try.func26 (by kernel_rfl) rfl #[] rfl (by (try simp only [List.map_toArray, List.map_cons, List.map_nil]); first | done | rfl | (simp only [List.length_drop, List.length_take]; rfl)) ?_; (with_reducible refine (dormouselaw21_answers.calls k1  t280 _ A6.out).mono ?_); rintro e w7 ⟨rfl, hb⟩; refine ⟨_, rfl, ?_⟩; have n0_ := Aside0.mk (below_step (by repeat (first | (with_reducible first | exact HB.out | apply below_alloc | apply pw_below_drewN | apply below_drew1) | exact HB.out)) hb); clear HB; have HB := n0_; clear n0_; (try clear hb); (try clear hb2); (try clear hk); (try clear hi)))
     go_ret
     exact ⟨by first | rfl | (rw [HR_.out]; done) | (rw [HR_.out]; rfl) | (simp [errW_none, errW_some] <;> rfl) | (simp [*, errW_none, errW_some] <;> rfl), by repeat (first | (with_reducible first | exact HB.out | apply below_alloc | apply pw_below_drewN | apply below_drew1) | exact HB.out)⟩
    rw [if_neg c3] at H
    exact absurd H (by simp)
   rw [if_neg c2] at H
   have c2b0 : decide (x3_1 < (l0.length : Int)) = false := decide_eq_false c2
   clear c2
   replace H := Option.bind_eq_some_iff.mp H
   obtain ⟨t281, A80, H⟩ := H
   replace H : (if t281 = true then ((gauge_Cycles.f k1 l0).bind fun t282 => ((dormouseref21_Cycles.f k1 l0).bind fun t283 => (if t282 = t283 then ((gauge_Switches.f k1 l0).bind fun t284 => ((dormouseref21_Switches.f k1 l0).bind fun t285 => (some (t284 == t285)))) else (some false)))) else (some false)) = some true := H
   have A8 := Aside0.mk A80
   clear A80
   by_cases c9 : t281 = true
   ·
    subst c9
    have H1 : ((gauge_Cycles.f k1 l0).bind fun t282 => ((dormouseref21_Cycles.f k1 l0).bind fun t283 => (if t282 = t283 then ((gauge_Switches.f k1 l0).bind fun t284 => ((dormouseref21_Switches.f k1 l0).bind fun t285 => (some (t284 == t285)))) else (some false)))) = some true := by rw [if_pos rfl] at H; exact H
    clear H; have H := H1; clear H1
    replace H := Option.bind_eq_some_iff.mp H
    obtain ⟨t282, A100, H⟩ := H
    replace H : ((dormouseref21_Cycles.f k1 l0).bind fun t283 => (if t282 = t283 then ((gauge_Switches.f k1 l0).bind fun t284 => ((dormouseref21_Switches.f k1 l0).bind fun t285 => (some (t284 == t285)))) else (some false))) = some true := H
    have A10 := Aside0.mk A100
    clear A100
    replace H := Option.bind_eq_some_iff.mp H
    obtain ⟨t283, A110, H⟩ := H
    replace H : (if t282 = t283 then ((gauge_Switches.f k1 l0).bind fun t284 => ((dormouseref21_Switches.f k1 l0).bind fun t285 => (some (t284 == t285)))) else (some false)) = some true := H
    have A11 := Aside0.mk A110
    clear A110
    by_cases c12 : t282 = t283
    · as_aux_lemma =>
     rw [if_pos c12] at H
     have c12b0 : (t282 == t283) = true := beq_iff_eq.mpr c12
     have c12b1 : (t282 != t283) = false := bne_eq_false_iff_eq.mpr c12
     clear c12
     replace H := Option.bind_eq_some_iff.mp H
     obtain ⟨t284, A130, H⟩ := H
     replace H : ((dormouseref21_Switches.f k1 l0).bind fun t285 => (some (t284 == t285))) = some true := H
     have A13 := Aside0.mk A130
     clear A130
     replace H := Option.bind_eq_some_iff.mp H
     obtain ⟨t285, A140, H⟩ := H
     replace H : (some (t284 == t285)) = some true := H
     have A14 := Aside0.mk A140
     clear A140; have HR_ := Aside0.mk (Option.some.inj H)
     go_wp2_with (first | ((with_reducible refine gate_callee (f := 26) rfl ?_); refine goesL_ (some 18) rfl rfl Try.func26 (by kernel_rfl) rfl #[] rfl (by (try simp only [List.map_toArray, List.map_cons, List.map_nil]); first | done | rfl | (simp only [List.length_drop, List.length_take]; rfl)) ?_; (with_reducible refine (dormouselaw21_answers.calls k1  true _ A8.out).mono ?_); rintro e w15 ⟨rfl, hb⟩; refine ⟨_, rfl, ?_⟩; have n0_ := Aside0.mk (below_step (by repeat (first | (with_reducible first | exact HB.out | apply below_alloc | apply pw_below_drewN | apply below_drew1) | exact HB.out)) hb); clear HB; have HB := n0_; clear n0_; (try clear hb); (try clear hb2); (try clear hk); (try clear hi)) | (go_at_call 29; (with_reducible refine (gauge_Cycles.calls k1 _ _ l0 t282 _ ?side1 ?side2 A10.out).mono ?_); (case side1 => repeat (first | exact (Kd.C_below HR0.out HB.out) | (with_reducible refine Kd.C_alloc ?_ _) | (with_reducible refine Kd.C_drewN ?_ _) | (with_reducible refine Kd.C_drew ?_))); (case side2 => exact HC0.out); rintro e w16 ⟨rfl, hb⟩; have n0_ := Aside0.mk (below_step (by repeat (first | (with_reducible first | exact HB.out | apply below_alloc | apply pw_below_drewN | apply below_drew1) | exact HB.out)) hb); clear HB; have HB := n0_; clear n0_; (try clear hb); (try clear hb2); (try clear hk); (try clear hi)) | (go_at_call 30; (with_reducible refine (dormouseref21_Cycles.calls k1 _ _ l0 t283 _ ?side1 ?side2 A11.out).mono ?_); (case side1 => repeat (first | exact (Kd.C_below HR0.out HB.out) | (with_reducible refine Kd.C_alloc ?_ _) | (with_reducible refine Kd.C_drewN ?_ _) | (with_reducible refine Kd.C_drew ?_))); (case side2 => exact HC0.out); rintro e w' ⟨rfl, ⟨nd, rfl⟩⟩) | (go_at_call 31; (with_reducible refine (gauge_Switches.calls k1 _ _ l0 t284 _ ?side1 ?side2 A13.out).mono ?_); (case side1 => repeat (first | exact (Kd.C_below HR0.out (by repeat (first | (with_reducible first | exact HB.out | apply below_alloc | apply pw_below_drewN | apply below_drew1) | exact HB.out))) | (with_reducible refine Kd.C_alloc ?_ _) | (with_reducible refine Kd.C_drewN ?_ _) | (with_reducible refine Kd.C_drew ?_))); (case side2 => exact HC0.out); rintro e w17 ⟨rfl, hb⟩; have n0_ := Aside0.mk (below_step (by repeat (first | (with_reducible first | exact HB.out | apply below_alloc | apply pw_below_drewN | apply below_drew1) | exact HB.out)) hb); clear HB; have HB := n0_; clear n0_; (try clear hb); (try clear hb2); (try clear hk); (try clear hi)) | (go_at_call 32; (with_reducible refine (dormouseref21_Switches.calls k1 _ _ l0 t285 _ ?side1 ?side2 A14.out).mono ?_); (case side1 => repeat (first | exact (Kd.C_below HR0.out HB.out) | (with_reducible refine Kd.C_alloc ?_ _) | (with_reducible refine Kd.C_drewN ?_ _) | (with_reducible refine Kd.C_drew ?_))); (case side2 => exact HC0.out); rintro e w' ⟨rfl, ⟨nd, rfl⟩⟩))
     go_ret
     exact ⟨by first | rfl | (rw [HR_.out]; done) | (rw [HR_.out]; rfl) | (simp [errW_none, errW_some] <;> rfl) | (simp [*, errW_none, errW_some] <;> rfl), by repeat (first | (with_reducible first | exact HB.out | apply below_alloc | apply pw_below_drewN | apply below_drew1) | exact HB.out)⟩
    · (rw [if_neg c12] at H; cases H)
   replace c9 := Bool.eq_false_iff.mpr c9
   subst c9
   have H1 : (some false) = some true := by rw [if_neg (show ¬ (false = true) by decide)] at H; exact H
   clear H; have H := H1; clear H1; have HR_ := Aside0.mk (Option.some.inj H)
   go_wp2_with (first | ((with_reducible refine gate_callee (f := 26) rfl ?_); refine goesL_ (some 18) rfl rfl Try.func26 (by kernel_rfl) rfl #[] rfl (by (try simp only [List.map_toArray, List.map_cons, List.map_nil]); first | done | rfl | (simp only [List.length_drop, List.length_take]; rfl)) ?_; (with_reducible refine (dormouselaw21_answers.calls k1  false _ A8.out).mono ?_); rintro e w20 ⟨rfl, hb⟩; refine ⟨_, rfl, ?_⟩; have n0_ := Aside0.mk (below_step (by repeat (first | (with_reducible first | exact HB.out | apply below_alloc | apply pw_below_drewN | apply below_drew1) | exact HB.out)) hb); clear HB; have HB := n0_; clear n0_; (try clear hb); (try clear hb2); (try clear hk); (try clear hi)))
   go_ret
   exact ⟨by first | rfl | (rw [HR_.out]; done) | (rw [HR_.out]; rfl) | (simp [errW_none, errW_some] <;> rfl) | (simp [*, errW_none, errW_some] <;> rfl), by repeat (first | (with_reducible first | exact HB.out | apply below_alloc | apply pw_below_drewN | apply below_drew1) | exact HB.out)⟩

-- NOT PRINTED: function 13 (dormouselaw21_GaugeLevels)

end Go.Proofs.Ytekppfjlmedhpaa.PAll
