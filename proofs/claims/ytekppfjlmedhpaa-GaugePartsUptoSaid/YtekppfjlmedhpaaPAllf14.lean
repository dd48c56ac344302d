-- Written by the kit's print.py; laid as one text a function by this session's split.py.
import Derived.Test.YtekppfjlmedhpaaPAllx0
import Derived.Test.YtekppfjlmedhpaaPAllf25
import Derived.Test.YtekppfjlmedhpaaPAllf29
import Derived.Test.YtekppfjlmedhpaaPAllf31
import Derived.Test.YtekppfjlmedhpaaPAllf26
namespace Go.Proofs.Ytekppfjlmedhpaa.PAll
open Go.RowKit Go.Proofs.YtekppfjlmedhpaaW.PrintWords Go.Proofs.YtekppfjlmedhpaaW.PrintLast Go.Proofs.YtekppfjlmedhpaaW.PrintMore
attribute [local go_sem] max2_int min2_int max_two min_two max_three min_three max_four min_four   -- for this text's walks alone
set_option linter.unusedVariables false
set_option linter.unusedSimpArgs false

/-! ### dormouselaw21_GaugeParts: function 14 -/
def dormouselaw21_GaugeParts.l0 : Nat → List (S54) → List (S54) → List (S54) → Int → Option (Bool)
  | 0, _, _, _, _ => none
  | k + 1, x0, x1, x5, x6 => if x6 < (x5.length : Int) then (if 0 ≤ x6 then ((dormouselaw21_near.f ((rd_T54 x5 x6).f5)).bind fun t299 => (if t299 = true then (dormouselaw21_GaugeParts.l0 k x0 x1 x5 (wrap64 (x6 + 1))) else ((dormouselaw21_answers.f k).bind fun t300 => (some t300)))) else (none)) else ((dormouselaw21_answers.f k).bind fun t301 => (if t301 = true then ((gauge_Cycles.f k x5).bind fun t302 => ((gauge_Cycles.f k x0).bind fun t303 => ((gauge_Cycles.f k x1).bind fun t304 => (if t302 = (wrap64 (t303 + t304)) then ((gauge_Switches.f k x5).bind fun t305 => ((gauge_Switches.f k x0).bind fun t306 => ((gauge_Switches.f k x1).bind fun t307 => (some (t305 == (wrap64 (t306 + t307))))))) else (some false))))) else (some false)))
def dormouselaw21_GaugeParts.f (k : Nat) (l0 : List (S54)) (l1 : List (S54)) : Option (Bool) := (some (([] : List (S54)) : List (S54))).bind fun y289 => (if y289.length + l0.length < 2932031007402 then ((some (y289 ++ l0 : List (S54))).bind fun y292 => (if y292.length + l1.length < 2932031007402 then (dormouselaw21_GaugeParts.l0 k l0 l1 (y292 ++ l1) 0) else (none))) else (none))
theorem dormouselaw21_GaugeParts.mono_l : ∀ k, (∀ y0 y1 y2 y3, LeO (dormouselaw21_GaugeParts.l0 k y0 y1 y2 y3) (dormouselaw21_GaugeParts.l0 (k + 1) y0 y1 y2 y3))
  | 0 => fun _ _ _ _ r h => by simp [dormouselaw21_GaugeParts.l0] at h
  | k + 1 => by
    have ih0 := dormouselaw21_GaugeParts.mono_l k
    · intro y0 y1 y2 y3
      unfold dormouselaw21_GaugeParts.l0
      repeat' first
      | (with_reducible exact ih0 _ _ _ _)
      | (with_reducible exact dormouselaw21_answers.mono _)
      | (with_reducible exact gauge_Cycles.mono _ _)
      | (with_reducible exact gauge_Switches.mono _ _)
      | (with_reducible exact LeO.refl _)
      | (with_reducible exact LeO.none _)
      | (with_reducible refine LeO.ite ?_ ?_)
      | (with_reducible refine LeO.bind ?_ (fun _ => ?_))
      | exact ih0 _ _ _ _
      | exact dormouselaw21_answers.mono _
      | exact gauge_Cycles.mono _ _
      | exact gauge_Switches.mono _ _
      | exact LeO.none _
      | refine LeO.ite ?_ ?_
      | refine LeO.bind ?_ (fun _ => ?_)
theorem dormouselaw21_GaugeParts.mono : ∀ a0 a1 k, LeO (dormouselaw21_GaugeParts.f k a0 a1) (dormouselaw21_GaugeParts.f (k + 1) a0 a1) := by
  intro a0 a1 k
  have ih0 := dormouselaw21_GaugeParts.mono_l k
  unfold dormouselaw21_GaugeParts.f
  repeat' first
      | (with_reducible exact ih0 _ _ _ _)
      | (with_reducible exact dormouselaw21_answers.mono _)
      | (with_reducible exact gauge_Cycles.mono _ _)
      | (with_reducible exact gauge_Switches.mono _ _)
      | (with_reducible exact LeO.refl _)
      | (with_reducible exact LeO.none _)
      | (with_reducible refine LeO.ite ?_ ?_)
      | (with_reducible refine LeO.bind ?_ (fun _ => ?_))
      | exact ih0 _ _ _ _
      | exact dormouselaw21_answers.mono _
      | exact gauge_Cycles.mono _ _
      | exact gauge_Switches.mono _ _
      | exact LeO.none _
      | refine LeO.ite ?_ ?_
      | refine LeO.bind ?_ (fun _ => ?_)
set_option maxHeartbeats 8000000 in
set_option maxRecDepth 100000 in
theorem dormouselaw21_GaugeParts.calls (k : Nat) (A0 : Option Addr) (c0 : Nat) (l0 : List (S54)) (A1 : Option Addr) (c1 : Nat) (l1 : List (S54)) (w : World) (hr0 : Kd.C k54 w A0 l0.length l0) (hc0 : l0.length ≤ c0) (hr1 : Kd.C k54 w A1 l1.length l1) (hc1 : l1.length ≤ c1) (h : dormouselaw21_GaugeParts.f k l0 l1 = some true) :
    Calls Try.prog 14 #[.slice A0 l0.length c0, .slice A1 l1.length c1] w fun e w' => e = .returned (.bool true) ∧ Below w.heap.size w w' := by
 have HR0 := Aside0.mk hr0
 have HC0 := Aside0.mk hc0
 clear hr0 hc0
 have HR1 := Aside0.mk hr1
 have HC1 := Aside0.mk hc1
 clear hr1 hc1; have HB := Aside0.mk (Below.refl w.heap.size w)
 have H : ((some (([] : List (S54)) : List (S54))).bind fun y289 => (if y289.length + l0.length < 2932031007402 then ((some (y289 ++ l0 : List (S54))).bind fun y292 => (if y292.length + l1.length < 2932031007402 then (dormouselaw21_GaugeParts.l0 k l0 l1 (y292 ++ l1) 0) else (none))) else (none))) = some true := h
 clear h
 obtain ⟨y289, hy289⟩ : ∃ y_ : List (S54), y_ = (([] : List (S54))) := ⟨_, rfl⟩
 replace H : (if y289.length + l0.length < 2932031007402 then ((some (y289 ++ l0 : List (S54))).bind fun y292 => (if y292.length + l1.length < 2932031007402 then (dormouselaw21_GaugeParts.l0 k l0 l1 (y292 ++ l1) 0) else (none))) else (none)) = some true := by first | (rw [hy289]; with_reducible exact H) | (have H2_ := (Option.bind_some _ _).symm.trans H; rw [hy289]; with_reducible exact H2_) | (have H2_ := (Option.bind_some _ _).symm.trans H; with_reducible exact H2_) | with_reducible exact H | (rw [hy289]; exact H) | exact H
 have Ny289 := Aside0.mk hy289
 clear hy289
 by_cases c3 : y289.length + l0.length < 2932031007402
 · as_aux_lemma =>
  rw [if_pos c3] at H
  have LMc3 := Aside0.mk c3
  clear c3
  obtain ⟨y292, hy292⟩ : ∃ y_ : List (S54), y_ = (y289 ++ l0) := ⟨_, rfl⟩
  replace H : (if y292.length + l1.length < 2932031007402 then (dormouselaw21_GaugeParts.l0 k l0 l1 (y292 ++ l1) 0) else (none)) = some true := by first | (rw [hy292]; with_reducible exact H) | (have H2_ := (Option.bind_some _ _).symm.trans H; rw [hy292]; with_reducible exact H2_) | (have H2_ := (Option.bind_some _ _).symm.trans H; with_reducible exact H2_) | with_reducible exact H | (rw [hy292]; exact H) | exact H
  have Ny292 := Aside0.mk hy292
  clear hy292
  by_cases c4 : y292.length + l1.length < 2932031007402
  · as_aux_lemma =>
   rw [if_pos c4] at H
   have LMc4 := Aside0.mk c4
   clear c4
   obtain ⟨y295, hy295⟩ : ∃ y_ : List (S54), y_ = (y292 ++ l1) := ⟨_, rfl⟩
   replace H : (dormouselaw21_GaugeParts.l0 k l0 l1 y295 0) = some true := by first | (rw [hy295]; with_reducible exact H) | (have H2_ := (Option.bind_some _ _).symm.trans H; rw [hy295]; with_reducible exact H2_) | (have H2_ := (Option.bind_some _ _).symm.trans H; with_reducible exact H2_) | with_reducible exact H | (rw [hy295]; exact H) | exact H
   have Ny295 := Aside0.mk hy295
   clear hy295; have H' := Aside0.mk H; clear H
   go_enter Try.func14, Try.ntmps14
   go_wp2_with (first | ((with_reducible refine gate_dst (N := 7) rfl ?_); refine Kd.R_lit k54 _ 54 ?hg (N := 7) ?hd (xs := ([] : List (S54))) (inner := []) (ok := fun _ => True) (okp := fun _ => True) ?hr ?hp (fun _ hk => hk) trivial (Below.refl _ _) (Nat.le_refl _) (by simp) ?_; (case hd => rfl); (case hg => rfl); (case hr => first | (go_simp; done) | (go_simp; rfl)); (case hp => exact (Reps.none _ _)); intro v290 w5 ho6 hb hg_ hnew_; clear hg_ hnew_; (first | rw [← Ny289.out] at ho6 | (simp only [Int.reduceToNat] at ho6; rw [← Ny289.out] at ho6)); have n0_ := Aside0.mk (Kd.R_lower ho6 (below_size (by repeat (first | (with_reducible first | exact HB.out | apply below_alloc | apply pw_below_drewN | apply below_drew1) | exact HB.out)))); have n1_ := Aside0.mk (below_step (by repeat (first | (with_reducible first | exact HB.out | apply below_alloc | apply pw_below_drewN | apply below_drew1) | exact HB.out)) hb); clear HB; have HO291 := n0_; have HB := n1_; clear n0_ n1_; clear hb ho6) | ((with_reducible refine gate_builtin (b := .append) (xs := #[.tmp 7, .tmp 8]) rfl ?_); at_builtin; refine Kd.R_append_rows k54 (w0 := w) w.heap.size rfl (.tmp 7) (.tmp 8) 52 54 (.agg #[(.int .i64 0), (.int .i64 0), (.int .i64 0), (.int .i64 0), (.int .i64 0), (.int .i64 0)]) 48 rfl Try.underlying52 info54 rfl (by decide) (by omega) v290 y289 l0 _ _ _ (fun _ => True) (fun _ => False) rfl rfl ?aO ?aR (fun _ _ h => h) (fun _ h => h.elim) ?aF ?aB ?aS ?aL ?_; (case aR => repeat (first | exact (Kd.C_below HR0.out HB.out) | (with_reducible refine Kd.C_alloc ?_ _) | (with_reducible refine Kd.C_drewN ?_ _) | (with_reducible refine Kd.C_drew ?_))); (case aB => exact (by repeat (first | (with_reducible first | exact HB.out | apply below_alloc | apply pw_below_drewN | apply below_drew1) | exact HB.out))); (case aF => exact (fun _ _ => trivial)); (case aO => exact (by (with_reducible repeat (first | apply Kd.R_alloc | apply Kd.R_drewN | apply Kd.R_drew)); exact HO291.out)); (case aS => exact (below_size (by repeat (first | (with_reducible first | exact HB.out | apply below_alloc | apply pw_below_drewN | apply below_drew1) | exact HB.out)))); (case aL => have := LMc3.out; omega); intro v293 w7 ho hb hg hat; rw [← Ny292.out] at ho; have n0_ := Aside0.mk (hb); have n1_ := Aside0.mk (ho); clear HB; clear HO291; have HB := n0_; have HO294 := n1_; clear n0_ n1_; clear ho hb hg hat) | ((with_reducible refine gate_builtin (b := .append) (xs := #[.tmp 9, .tmp 10]) rfl ?_); at_builtin; refine Kd.R_append_rows k54 (w0 := w) w.heap.size rfl (.tmp 9) (.tmp 10) 52 54 (.agg #[(.int .i64 0), (.int .i64 0), (.int .i64 0), (.int .i64 0), (.int .i64 0), (.int .i64 0)]) 48 rfl Try.underlying52 info54 rfl (by decide) (by omega) v293 y292 l1 _ _ _ (fun _ => True) (fun _ => False) rfl rfl ?aO ?aR (fun _ _ h => h) (fun _ h => h.elim) ?aF ?aB ?aS ?aL ?_; (case aR => repeat (first | exact (Kd.C_below HR1.out HB.out) | (with_reducible refine Kd.C_alloc ?_ _) | (with_reducible refine Kd.C_drewN ?_ _) | (with_reducible refine Kd.C_drew ?_))); (case aB => exact (by repeat (first | (with_reducible first | exact HB.out | apply below_alloc | apply pw_below_drewN | apply below_drew1) | exact HB.out))); (case aF => exact (fun _ _ => trivial)); (case aO => exact (by (with_reducible repeat (first | apply Kd.R_alloc | apply Kd.R_drewN | apply Kd.R_drew)); exact HO294.out)); (case aS => exact (below_size (by repeat (first | (with_reducible first | exact HB.out | apply below_alloc | apply pw_below_drewN | apply below_drew1) | exact HB.out)))); (case aL => have := LMc4.out; omega); intro v296 w8 ho hb hg hat; rw [← Ny295.out] at ho; have n0_ := Aside0.mk (hb); have n1_ := Aside0.mk (ho); clear HB; clear HO294; have HB := n0_; have HO297 := n1_; clear n0_ n1_; clear ho hb hg hat))
   go_loopg [6] k (fun kq v6 w' => ∃ (x6_1 : Int), v6 = .int .i64 x6_1 ∧ Aside0 (dormouselaw21_GaugeParts.l0 kq l0 l1 y295 x6_1 = some true) ∧ Aside0 (kq ≤ k) ∧ Aside0 (Kd.R k54 54 w' w.heap.size (fun _ => True) v296 y295) ∧ Aside0 (Below w.heap.size w w'))
   case atStart => exact ⟨(0), (by first | rfl | (simp; done) | (simp [*]; done)), H', ⟨Nat.le_refl _⟩, ⟨by (with_reducible repeat (first | apply Kd.R_alloc | apply Kd.R_drewN | apply Kd.R_drew)); exact HO297.out⟩, ⟨by repeat (first | (with_reducible first | exact HB.out | apply below_alloc | apply pw_below_drewN | apply below_drew1) | exact HB.out)⟩⟩
   case round => as_aux_lemma =>
    clear H'
    (try clear c1); (try clear p2); (try clear c3); (try clear c4)
    obtain ⟨x6_1, rfl, HA, HK1, HO_5, HB⟩ := hrel
    cases gk with
    | zero => exact absurd HA.out (by simp [dormouselaw21_GaugeParts.l0])
    | succ k1 =>
     have H := HA.out; clear HA
     simp only [dormouselaw21_GaugeParts.l0] at H
     by_cases c9 : x6_1 < (y295.length : Int)
     · as_aux_lemma =>
      rw [if_pos c9] at H
      have c9b0 : decide (x6_1 < (y295.length : Int)) = true := decide_eq_true c9
      clear c9
      by_cases c10 : 0 ≤ x6_1
      · as_aux_lemma =>
       rw [if_pos c10] at H
       have c10b0 : decide (0 ≤ x6_1) = true := decide_eq_true c10
       clear c10
       replace H := Option.bind_eq_some_iff.mp H
       obtain ⟨t299, A110, H⟩ := H
       replace H : (if t299 = true then (dormouselaw21_GaugeParts.l0 k1 l0 l1 y295 (wrap64 (x6_1 + 1))) else ((dormouselaw21_answers.f k1).bind fun t300 => (some t300))) = some true := H
       have A11 := Aside0.mk A110
       clear A110
       by_cases c12 : t299 = true
       ·
        subst c12
        have H1 : (dormouselaw21_GaugeParts.l0 k1 l0 l1 y295 (wrap64 (x6_1 + 1))) = some true := by rw [if_pos rfl] at H; exact H
        clear H; have H := H1; clear H1; have H' := Aside0.mk H; clear H
        obtain ⟨Ao13, co13, eo13⟩ := Kd.R_slice HO_5.out
        subst eo13
        have p298 : 0 ≤ (x6_1 : Int) := of_decide_eq_true (by first | (with_reducible assumption) | assumption)
        have q298 : x6_1 < (y295.length : Int) := of_decide_eq_true (by first | (with_reducible assumption) | assumption)
        obtain ⟨ad298, e298, hx298_0, hx298_1, hx298_2, hx298_3, hx298_4, hx298_5⟩ := at_T54 (Kd.R_reads' HO_5.out).2.2 x6_1 p298 q298
        cases e298
        replace p298 := eq_true p298
        replace q298 := eq_true q298
        go_wp2_with (first | ((with_reducible refine gate_callee (f := 25) rfl ?_); refine goesL_ (some 23) rfl rfl Try.func25 (by kernel_rfl) rfl #[.int .i64 ((rd_T54 y295 x6_1).f5)] rfl (by (try simp only [List.map_toArray, List.map_cons, List.map_nil]); first | done | rfl | (simp only [List.length_drop, List.length_take]; rfl)) ?_; (with_reducible refine (dormouselaw21_near.calls ((rd_T54 y295 x6_1).f5) true _ A11.out).mono ?_); rintro e w' ⟨rfl, ⟨nd, rfl⟩⟩; refine ⟨_, rfl, ?_⟩))
        go_roundg k1
        case measure => have := HK1.out; omega
        case rel => exact ⟨(wrap64 (x6_1 + 1)), (by first | rfl | (simp; done) | (simp [*]; done)), H', ⟨by have := HK1.out; omega⟩, ⟨by (with_reducible repeat (first | apply Kd.R_alloc | apply Kd.R_drewN | apply Kd.R_drew)); exact HO_5.out⟩, ⟨by repeat (first | (with_reducible first | exact HB.out | apply below_alloc | apply pw_below_drewN | apply below_drew1) | exact HB.out)⟩⟩
       replace c12 := Bool.eq_false_iff.mpr c12
       subst c12
       have H1 : ((dormouselaw21_answers.f k1).bind fun t300 => (some t300)) = some true := by rw [if_neg (show ¬ (false = true) by decide)] at H; exact H
       clear H; have H := H1; clear H1
       replace H := Option.bind_eq_some_iff.mp H
       obtain ⟨t300, A140, H⟩ := H
       replace H : (some t300) = some true := H
       have A14 := Aside0.mk A140
       clear A140; have HR_ := Aside0.mk (Option.some.inj H)
       obtain ⟨Ao15, co15, eo15⟩ := Kd.R_slice HO_5.out
       subst eo15
       have p298 : 0 ≤ (x6_1 : Int) := of_decide_eq_true (by first | (with_reducible assumption) | assumption)
       have q298 : x6_1 < (y295.length : Int) := of_decide_eq_true (by first | (with_reducible assumption) | assumption)
       obtain ⟨ad298, e298, hx298_0, hx298_1, hx298_2, hx298_3, hx298_4, hx298_5⟩ := at_T54 (Kd.R_reads' HO_5.out).2.2 x6_1 p298 q298
       cases e298
       replace p298 := eq_true p298
       replace q298 := eq_true q298
       go_wp2_with (first | ((with_reducible refine gate_callee (f := 25) rfl ?_); refine goesL_ (some 23) rfl rfl Try.func25 (by kernel_rfl) rfl #[.int .i64 ((rd_T54 y295 x6_1).f5)] rfl (by (try simp only [List.map_toArray, List.map_cons, List.map_nil]); first | done | rfl | (simp only [List.length_drop, List.length_take]; rfl)) ?_; (with_reducible refine (dormouselaw21_near.calls ((rd_T54 y295 x6_1).f5) false _ A11.out).mono ?_); rintro e w' ⟨rfl, ⟨nd, rfl⟩⟩; refine ⟨_, rfl, ?_⟩) | ((with_reducible refine gate_callee (f := 26) rfl ?_); refine goesL_ (some 25) rfl rfl Try.func26 (by kernel_rfl) rfl #[] rfl (by (try simp only [List.map_toArray, List.map_cons, List.map_nil]); first | done | rfl | (simp only [List.length_drop, List.length_take]; rfl)) ?_; (with_reducible refine (dormouselaw21_answers.calls k1  t300 _ A14.out).mono ?_); rintro e w16 ⟨rfl, hb⟩; refine ⟨_, rfl, ?_⟩; have n0_ := Aside0.mk (Kd.R_below (by (with_reducible repeat (first | apply Kd.R_alloc | apply Kd.R_drewN | apply Kd.R_drew)); exact HO_5.out) hb); have n1_ := Aside0.mk (below_step (by repeat (first | (with_reducible first | exact HB.out | apply below_alloc | apply pw_below_drewN | apply below_drew1) | exact HB.out)) hb); clear HO_5; clear HB; have HO_5 := n0_; have HB := n1_; clear n0_ n1_; (try clear hb); (try clear hb2); (try clear hk); (try clear hi)))
       go_ret
       exact ⟨by first | rfl | (rw [HR_.out]; done) | (rw [HR_.out]; rfl) | (simp [errW_none, errW_some] <;> rfl) | (simp [*, errW_none, errW_some] <;> rfl), by repeat (first | (with_reducible first | exact HB.out | apply below_alloc | apply pw_below_drewN | apply below_drew1) | exact HB.out)⟩
      rw [if_neg c10] at H
      exact absurd H (by simp)
     rw [if_neg c9] at H
     have c9b0 : decide (x6_1 < (y295.length : Int)) = false := decide_eq_false c9
     clear c9
     replace H := Option.bind_eq_some_iff.mp H
     obtain ⟨t301, A170, H⟩ := H
     replace H : (if t301 = true then ((gauge_Cycles.f k1 y295).bind fun t302 => ((gauge_Cycles.f k1 l0).bind fun t303 => ((gauge_Cycles.f k1 l1).bind fun t304 => (if t302 = (wrap64 (t303 + t304)) then ((gauge_Switches.f k1 y295).bind fun t305 => ((gauge_Switches.f k1 l0).bind fun t306 => ((gauge_Switches.f k1 l1).bind fun t307 => (some (t305 == (wrap64 (t306 + t307))))))) else (some false))))) else (some false)) = some true := H
     have A17 := Aside0.mk A170
     clear A170
     by_cases c18 : t301 = true
     ·
      subst c18
      have H1 : ((gauge_Cycles.f k1 y295).bind fun t302 => ((gauge_Cycles.f k1 l0).bind fun t303 => ((gauge_Cycles.f k1 l1).bind fun t304 => (if t302 = (wrap64 (t303 + t304)) then ((gauge_Switches.f k1 y295).bind fun t305 => ((gauge_Switches.f k1 l0).bind fun t306 => ((gauge_Switches.f k1 l1).bind fun t307 => (some (t305 == (wrap64 (t306 + t307))))))) else (some false))))) = some true := by rw [if_pos rfl] at H; exact H
      clear H; have H := H1; clear H1
      replace H := Option.bind_eq_some_iff.mp H
      obtain ⟨t302, A190, H⟩ := H
      replace H : ((gauge_Cycles.f k1 l0).bind fun t303 => ((gauge_Cycles.f k1 l1).bind fun t304 => (if t302 = (wrap64 (t303 + t304)) then ((gauge_Switches.f k1 y295).bind fun t305 => ((gauge_Switches.f k1 l0).bind fun t306 => ((gauge_Switches.f k1 l1).bind fun t307 => (some (t305 == (wrap64 (t306 + t307))))))) else (some false)))) = some true := H
      have A19 := Aside0.mk A190
      clear A190
      replace H := Option.bind_eq_some_iff.mp H
      obtain ⟨t303, A200, H⟩ := H
      replace H : ((gauge_Cycles.f k1 l1).bind fun t304 => (if t302 = (wrap64 (t303 + t304)) then ((gauge_Switches.f k1 y295).bind fun t305 => ((gauge_Switches.f k1 l0).bind fun t306 => ((gauge_Switches.f k1 l1).bind fun t307 => (some (t305 == (wrap64 (t306 + t307))))))) else (some false))) = some true := H
      have A20 := Aside0.mk A200
      clear A200
      replace H := Option.bind_eq_some_iff.mp H
      obtain ⟨t304, A210, H⟩ := H
      replace H : (if t302 = (wrap64 (t303 + t304)) then ((gauge_Switches.f k1 y295).bind fun t305 => ((gauge_Switches.f k1 l0).bind fun t306 => ((gauge_Switches.f k1 l1).bind fun t307 => (some (t305 == (wrap64 (t306 + t307))))))) else (some false)) = some true := H
      have A21 := Aside0.mk A210
      clear A210
      by_cases c22 : t302 = (wrap64 (t303 + t304))
      · as_aux_lemma =>
       rw [if_pos c22] at H
       have c22b0 : (t302 == (wrap64 (t303 + t304))) = true := beq_iff_eq.mpr c22
       have c22b1 : (t302 != (wrap64 (t303 + t304))) = false := bne_eq_false_iff_eq.mpr c22
       clear c22
       replace H := Option.bind_eq_some_iff.mp H
       obtain ⟨t305, A230, H⟩ := H
       replace H : ((gauge_Switches.f k1 l0).bind fun t306 => ((gauge_Switches.f k1 l1).bind fun t307 => (some (t305 == (wrap64 (t306 + t307)))))) = some true := H
       have A23 := Aside0.mk A230
       clear A230
       replace H := Option.bind_eq_some_iff.mp H
       obtain ⟨t306, A240, H⟩ := H
       replace H : ((gauge_Switches.f k1 l1).bind fun t307 => (some (t305 == (wrap64 (t306 + t307))))) = some true := H
       have A24 := Aside0.mk A240
       clear A240
       replace H := Option.bind_eq_some_iff.mp H
       obtain ⟨t307, A250, H⟩ := H
       replace H : (some (t305 == (wrap64 (t306 + t307)))) = some true := H
       have A25 := Aside0.mk A250
       clear A250; have HR_ := Aside0.mk (Option.some.inj H)
       obtain ⟨Ao26, co26, eo26⟩ := Kd.R_slice HO_5.out
       subst eo26
       go_wp2_with (first | ((with_reducible refine gate_callee (f := 26) rfl ?_); refine goesL_ (some 26) rfl rfl Try.func26 (by kernel_rfl) rfl #[] rfl (by (try simp only [List.map_toArray, List.map_cons, List.map_nil]); first | done | rfl | (simp only [List.length_drop, List.length_take]; rfl)) ?_; (with_reducible refine (dormouselaw21_answers.calls k1  true _ A17.out).mono ?_); rintro e w27 ⟨rfl, hb⟩; refine ⟨_, rfl, ?_⟩; have n0_ := Aside0.mk (Kd.R_below (by (with_reducible repeat (first | apply Kd.R_alloc | apply Kd.R_drewN | apply Kd.R_drew)); exact HO_5.out) hb); have n1_ := Aside0.mk (below_step (by repeat (first | (with_reducible first | exact HB.out | apply below_alloc | apply pw_below_drewN | apply below_drew1) | exact HB.out)) hb); clear HO_5; clear HB; have HO_5 := n0_; have HB := n1_; clear n0_ n1_; (try clear hb); (try clear hb2); (try clear hk); (try clear hi)) | (go_at_call 29; (with_reducible refine (gauge_Cycles.calls k1 _ _ y295 t302 _ ?side1 ?side2 A19.out).mono ?_); (case side1 => repeat (first | exact (Kd.R_reads' HO_5.out).2.2 | (with_reducible refine Kd.C_alloc ?_ _) | (with_reducible refine Kd.C_drewN ?_ _) | (with_reducible refine Kd.C_drew ?_))); (case side2 => exact (Kd.R_reads' HO_5.out).2.1); rintro e w28 ⟨rfl, hb⟩; have n0_ := Aside0.mk (Kd.R_below (by (with_reducible repeat (first | apply Kd.R_alloc | apply Kd.R_drewN | apply Kd.R_drew)); exact HO_5.out) hb); have n1_ := Aside0.mk (below_step (by repeat (first | (with_reducible first | exact HB.out | apply below_alloc | apply pw_below_drewN | apply below_drew1) | exact HB.out)) hb); clear HO_5; clear HB; have HO_5 := n0_; have HB := n1_; clear n0_ n1_; (try clear hb); (try clear hb2); (try clear hk); (try clear hi)) | (go_at_call 29; (with_reducible refine (gauge_Cycles.calls k1 _ _ l0 t303 _ ?side1 ?side2 A20.out).mono ?_); (case side1 => repeat (first | exact (Kd.C_below HR0.out HB.out) | (with_reducible refine Kd.C_alloc ?_ _) | (with_reducible refine Kd.C_drewN ?_ _) | (with_reducible refine Kd.C_drew ?_))); (case side2 => exact HC0.out); rintro e w29 ⟨rfl, hb⟩; have n0_ := Aside0.mk (Kd.R_below (by (with_reducible repeat (first | apply Kd.R_alloc | apply Kd.R_drewN | apply Kd.R_drew)); exact HO_5.out) hb); have n1_ := Aside0.mk (below_step (by repeat (first | (with_reducible first | exact HB.out | apply below_alloc | apply pw_below_drewN | apply below_drew1) | exact HB.out)) hb); clear HO_5; clear HB; have HO_5 := n0_; have HB := n1_; clear n0_ n1_; (try clear hb); (try clear hb2); (try clear hk); (try clear hi)) | (go_at_call 29; (with_reducible refine (gauge_Cycles.calls k1 _ _ l1 t304 _ ?side1 ?side2 A21.out).mono ?_); (case side1 => repeat (first | exact (Kd.C_below HR1.out HB.out) | (with_reducible refine Kd.C_alloc ?_ _) | (with_reducible refine Kd.C_drewN ?_ _) | (with_reducible refine Kd.C_drew ?_))); (case side2 => exact HC1.out); rintro e w30 ⟨rfl, hb⟩; have n0_ := Aside0.mk (Kd.R_below (by (with_reducible repeat (first | apply Kd.R_alloc | apply Kd.R_drewN | apply Kd.R_drew)); exact HO_5.out) hb); have n1_ := Aside0.mk (below_step (by repeat (first | (with_reducible first | exact HB.out | apply below_alloc | apply pw_below_drewN | apply below_drew1) | exact HB.out)) hb); clear HO_5; clear HB; have HO_5 := n0_; have HB := n1_; clear n0_ n1_; (try clear hb); (try clear hb2); (try clear hk); (try clear hi)) | (go_at_call 31; (with_reducible refine (gauge_Switches.calls k1 _ _ y295 t305 _ ?side1 ?side2 A23.out).mono ?_); (case side1 => repeat (first | exact (Kd.R_reads' HO_5.out).2.2 | (with_reducible refine Kd.C_alloc ?_ _) | (with_reducible refine Kd.C_drewN ?_ _) | (with_reducible refine Kd.C_drew ?_))); (case side2 => exact (Kd.R_reads' HO_5.out).2.1); rintro e w31 ⟨rfl, hb⟩; have n0_ := Aside0.mk (Kd.R_below (by (with_reducible repeat (first | apply Kd.R_alloc | apply Kd.R_drewN | apply Kd.R_drew)); exact HO_5.out) hb); have n1_ := Aside0.mk (below_step (by repeat (first | (with_reducible first | exact HB.out | apply below_alloc | apply pw_below_drewN | apply below_drew1) | exact HB.out)) hb); clear HO_5; clear HB; have HO_5 := n0_; have HB := n1_; clear n0_ n1_; (try clear hb); (try clear hb2); (try clear hk); (try clear hi)) | (go_at_call 31; (with_reducible refine (gauge_Switches.calls k1 _ _ l0 t306 _ ?side1 ?side2 A24.out).mono ?_); (case side1 => repeat (first | exact (Kd.C_below HR0.out HB.out) | (with_reducible refine Kd.C_alloc ?_ _) | (with_reducible refine Kd.C_drewN ?_ _) | (with_reducible refine Kd.C_drew ?_))); (case side2 => exact HC0.out); rintro e w32 ⟨rfl, hb⟩; have n0_ := Aside0.mk (Kd.R_below (by (with_reducible repeat (first | apply Kd.R_alloc | apply Kd.R_drewN | apply Kd.R_drew)); exact HO_5.out) hb); have n1_ := Aside0.mk (below_step (by repeat (first | (with_reducible first | exact HB.out | apply below_alloc | apply pw_below_drewN | apply below_drew1) | exact HB.out)) hb); clear HO_5; clear HB; have HO_5 := n0_; have HB := n1_; clear n0_ n1_; (try clear hb); (try clear hb2); (try clear hk); (try clear hi)) | (go_at_call 31; (with_reducible refine (gauge_Switches.calls k1 _ _ l1 t307 _ ?side1 ?side2 A25.out).mono ?_); (case side1 => repeat (first | exact (Kd.C_below HR1.out HB.out) | (with_reducible refine Kd.C_alloc ?_ _) | (with_reducible refine Kd.C_drewN ?_ _) | (with_reducible refine Kd.C_drew ?_))); (case side2 => exact HC1.out); rintro e w33 ⟨rfl, hb⟩; have n0_ := Aside0.mk (Kd.R_below (by (with_reducible repeat (first | apply Kd.R_alloc | apply Kd.R_drewN | apply Kd.R_drew)); exact HO_5.out) hb); have n1_ := Aside0.mk (below_step (by repeat (first | (with_reducible first | exact HB.out | apply below_alloc | apply pw_below_drewN | apply below_drew1) | exact HB.out)) hb); clear HO_5; clear HB; have HO_5 := n0_; have HB := n1_; clear n0_ n1_; (try clear hb); (try clear hb2); (try clear hk); (try clear hi)))
       go_ret
       exact ⟨by first | rfl | (rw [HR_.out]; done) | (rw [HR_.out]; rfl) | (simp [errW_none, errW_some] <;> rfl) | (simp [*, errW_none, errW_some] <;> rfl), by repeat (first | (with_reducible first | exact HB.out | apply below_alloc | apply pw_below_drewN | apply below_drew1) | exact HB.out)⟩
      · (rw [if_neg c22] at H; cases H)
     replace c18 := Bool.eq_false_iff.mpr c18
     subst c18
     have H1 : (some false) = some true := by rw [if_neg (show ¬ (false = true) by decide)] at H; exact H
     clear H; have H := H1; clear H1; have HR_ := Aside0.mk (Option.some.inj H)
     obtain ⟨Ao39, co39, eo39⟩ := Kd.R_slice HO_5.out
     subst eo39
     go_wp2_with (first | ((with_reducible refine gate_callee (f := 26) rfl ?_); refine goesL_ (some 26) rfl rfl Try.func26 (by kernel_rfl) rfl #[] rfl (by (try simp only [List.map_toArray, List.map_cons, List.map_nil]); first | done | rfl | (simp only [List.length_drop, List.length_take]; rfl)) ?_; (with_reducible refine (dormouselaw21_answers.calls k1  false _ A17.out).mono ?_); rintro e w40 ⟨rfl, hb⟩; refine ⟨_, rfl, ?_⟩; have n0_ := Aside0.mk (Kd.R_below (by (with_reducible repeat (first | apply Kd.R_alloc | apply Kd.R_drewN | apply Kd.R_drew)); exact HO_5.out) hb); have n1_ := Aside0.mk (below_step (by repeat (first | (with_reducible first | exact HB.out | apply below_alloc | apply pw_below_drewN | apply below_drew1) | exact HB.out)) hb); clear HO_5; clear HB; have HO_5 := n0_; have HB := n1_; clear n0_ n1_; (try clear hb); (try clear hb2); (try clear hk); (try clear hi)))
     go_ret
     exact ⟨by first | rfl | (rw [HR_.out]; done) | (rw [HR_.out]; rfl) | (simp [errW_none, errW_some] <;> rfl) | (simp [*, errW_none, errW_some] <;> rfl), by repeat (first | (with_reducible first | exact HB.out | apply below_alloc | apply pw_below_drewN | apply below_drew1) | exact HB.out)⟩
  rw [if_neg c4] at H
  exact absurd H (by simp)
 rw [if_neg c3] at H
 exact absurd H (by simp)

end Go.Proofs.Ytekppfjlmedhpaa.PAll
