-- Written by the kit's print.py; laid as one text a function by this session's split.py.
import Derived.Test.YtahdadmibmgpmaaPAllx0
namespace Go.Proofs.Ytahdadmibmgpmaa.PAll
open Go.RowKit Go.Proofs.YtahdadmibmgpmaaW.PrintWords Go.Proofs.YtahdadmibmgpmaaW.PrintLast
set_option linter.unusedVariables false
set_option linter.unusedSimpArgs false

/-! ### dormouseref21_one: function 23 -/
def dormouseref21_one.j0 : Nat → Bool → List (S45) → List (S48) → List (S51) → Int → Int → Int → Int → Int → Int → Int → Int → Int → Int → Int → Int → Option (Bool)
  | 0, _, _, _, _, _, _, _, _, _, _, _, _, _, _, _, _ => none
  | k + 1, x18, x219000, x219001, x219002, x219003, x219004, x219005, x219006, x219007, x219008, x220000, x220001, x220002, x220003, x220004, x220005 => if x18 = true then (some false) else (if x220000 = 1 then (if x220003 < (x219000.length : Int) then (if 0 ≤ x220003 then (some (x220002 == (wrap64 (x220005 * ((rd_T45 x219000 x220003).f0))))) else (none)) else (some false)) else (if x220000 = 3 then (if x220003 < (x219000.length : Int) then (some (x220002 == x219005)) else (some false)) else (if x220003 ≥ (x219001.length : Int) then (some false) else (if x220000 = 5 then (some true) else (if x220000 = 4 then (if 0 ≤ x220003 then (if x220003 < (x219001.length : Int) then (if x220002 = ((rd_T48 x219001 x220003).f1) then (some true) else (if x220000 = 6 then (some (x220002 == ((rd_T48 x219001 x220003).f2))) else (some false))) else (none)) else (none)) else (if x220000 = 6 then (if 0 ≤ x220003 then (if x220003 < (x219001.length : Int) then (some (x220002 == ((rd_T48 x219001 x220003).f2))) else (none)) else (none)) else (some false)))))))
def dormouseref21_one.f (k : Nat) (l0_0 : List (S45)) (l0_1 : List (S48)) (l0_2 : List (S51)) (a0_3 : Int) (a0_4 : Int) (a0_5 : Int) (a0_6 : Int) (a0_7 : Int) (a0_8 : Int) (a1_0 : Int) (a1_1 : Int) (a1_2 : Int) (a1_3 : Int) (a1_4 : Int) (a1_5 : Int) : Option (Bool) := if a1_0 = 2 then (some (decide (a1_2 ≥ 0))) else (if a1_3 < 0 then (dormouseref21_one.j0 k true l0_0 l0_1 l0_2 a0_3 a0_4 a0_5 a0_6 a0_7 a0_8 a1_0 a1_1 a1_2 a1_3 a1_4 a1_5) else (dormouseref21_one.j0 k (decide (a1_2 < 0)) l0_0 l0_1 l0_2 a0_3 a0_4 a0_5 a0_6 a0_7 a0_8 a1_0 a1_1 a1_2 a1_3 a1_4 a1_5))
theorem dormouseref21_one.mono_l : ∀ k, (∀ y0 y1 y2 y3 y4 y5 y6 y7 y8 y9 y10 y11 y12 y13 y14 y15, LeO (dormouseref21_one.j0 k y0 y1 y2 y3 y4 y5 y6 y7 y8 y9 y10 y11 y12 y13 y14 y15) (dormouseref21_one.j0 (k + 1) y0 y1 y2 y3 y4 y5 y6 y7 y8 y9 y10 y11 y12 y13 y14 y15))
  | 0 => fun _ _ _ _ _ _ _ _ _ _ _ _ _ _ _ _ r h => by simp [dormouseref21_one.j0] at h
  | k + 1 => by
    have ih0 := dormouseref21_one.mono_l k
    · intro y0 y1 y2 y3 y4 y5 y6 y7 y8 y9 y10 y11 y12 y13 y14 y15
      unfold dormouseref21_one.j0
      repeat' first
      | (with_reducible exact ih0 _ _ _ _ _ _ _ _ _ _ _ _ _ _ _ _)
      | (with_reducible exact LeO.refl _)
      | (with_reducible exact LeO.none _)
      | (with_reducible refine LeO.ite ?_ ?_)
      | (with_reducible refine LeO.bind ?_ (fun _ => ?_))
      | exact ih0 _ _ _ _ _ _ _ _ _ _ _ _ _ _ _ _
      | exact LeO.none _
      | refine LeO.ite ?_ ?_
      | refine LeO.bind ?_ (fun _ => ?_)
theorem dormouseref21_one.mono : ∀ a0 a1 a2 a3 a4 a5 a6 a7 a8 a9 a10 a11 a12 a13 a14 k, LeO (dormouseref21_one.f k a0 a1 a2 a3 a4 a5 a6 a7 a8 a9 a10 a11 a12 a13 a14) (dormouseref21_one.f (k + 1) a0 a1 a2 a3 a4 a5 a6 a7 a8 a9 a10 a11 a12 a13 a14) := by
  intro a0 a1 a2 a3 a4 a5 a6 a7 a8 a9 a10 a11 a12 a13 a14 k
  have ih0 := dormouseref21_one.mono_l k
  unfold dormouseref21_one.f
  repeat' first
      | (with_reducible exact ih0 _ _ _ _ _ _ _ _ _ _ _ _ _ _ _ _)
      | (with_reducible exact LeO.refl _)
      | (with_reducible exact LeO.none _)
      | (with_reducible refine LeO.ite ?_ ?_)
      | (with_reducible refine LeO.bind ?_ (fun _ => ?_))
      | exact ih0 _ _ _ _ _ _ _ _ _ _ _ _ _ _ _ _
      | exact LeO.none _
      | refine LeO.ite ?_ ?_
      | refine LeO.bind ?_ (fun _ => ?_)
set_option maxHeartbeats 8000000 in
set_option maxRecDepth 100000 in
theorem dormouseref21_one.calls (k : Nat) (A0_0 : Option Addr) (c0_0 : Nat) (l0_0 : List (S45)) (A0_1 : Option Addr) (c0_1 : Nat) (l0_1 : List (S48)) (A0_2 : Option Addr) (c0_2 : Nat) (l0_2 : List (S51)) (a0_3 : Int) (a0_4 : Int) (a0_5 : Int) (a0_6 : Int) (a0_7 : Int) (a0_8 : Int) (a1_0 : Int) (a1_1 : Int) (a1_2 : Int) (a1_3 : Int) (a1_4 : Int) (a1_5 : Int) (r : Bool) (w : World) (hr0_0 : Kd.C k45 w A0_0 l0_0.length l0_0) (hc0_0 : l0_0.length ≤ c0_0) (hr0_1 : Kd.C k48 w A0_1 l0_1.length l0_1) (hc0_1 : l0_1.length ≤ c0_1) (hr0_2 : Kd.C k51 w A0_2 l0_2.length l0_2) (hc0_2 : l0_2.length ≤ c0_2) (h : dormouseref21_one.f k l0_0 l0_1 l0_2 a0_3 a0_4 a0_5 a0_6 a0_7 a0_8 a1_0 a1_1 a1_2 a1_3 a1_4 a1_5 = some r) :
    Calls Try.prog 23 #[.agg #[.slice A0_0 l0_0.length c0_0, .slice A0_1 l0_1.length c0_1, .slice A0_2 l0_2.length c0_2, .int .i64 a0_3, .int .i64 a0_4, .int .i64 a0_5, .int .i64 a0_6, .int .i64 a0_7, .int .i64 a0_8], .agg #[.int .i64 a1_0, .int .i64 a1_1, .int .i64 a1_2, .int .i64 a1_3, .int .i64 a1_4, .int .i64 a1_5]] w fun e w' => e = .returned (.bool r) ∧ Below w.heap.size w w' := by
 have hu26 := Try.underlying26
 have hu33 := Try.underlying33
 have HR0_0 := Aside0.mk hr0_0
 have HC0_0 := Aside0.mk hc0_0
 clear hr0_0 hc0_0
 have HR0_1 := Aside0.mk hr0_1
 have HC0_1 := Aside0.mk hc0_1
 clear hr0_1 hc0_1
 have HR0_2 := Aside0.mk hr0_2
 have HC0_2 := Aside0.mk hc0_2
 clear hr0_2 hc0_2; have HB := Aside0.mk (Below.refl w.heap.size w)
 have H : (if a1_0 = 2 then (some (decide (a1_2 ≥ 0))) else (if a1_3 < 0 then (dormouseref21_one.j0 k true l0_0 l0_1 l0_2 a0_3 a0_4 a0_5 a0_6 a0_7 a0_8 a1_0 a1_1 a1_2 a1_3 a1_4 a1_5) else (dormouseref21_one.j0 k (decide (a1_2 < 0)) l0_0 l0_1 l0_2 a0_3 a0_4 a0_5 a0_6 a0_7 a0_8 a1_0 a1_1 a1_2 a1_3 a1_4 a1_5))) = some r := h
 clear h
 by_cases c3 : a1_0 = 2
 ·
  rw [if_pos c3] at H
  have c3b0 : (a1_0 == 2) = true := beq_iff_eq.mpr c3
  have c3b1 : (a1_0 != 2) = false := bne_eq_false_iff_eq.mpr c3
  clear c3
  obtain rfl := Option.some.inj H
  go_enter Try.func23, Try.ntmps23
  go_wp2_with (first | ((with_reducible refine gate_dst (N := 2) rfl ?_); refine box_event ?hg (N := 2) ?hd (cs := #[.slice A0_0 l0_0.length c0_0, .slice A0_1 l0_1.length c0_1, .slice A0_2 l0_2.length c0_2, .int .i64 a0_3, .int .i64 a0_4, .int .i64 a0_5, .int .i64 a0_6, .int .i64 a0_7, .int .i64 a0_8]) (t := 26) ?hr ?_; (case hd => rfl); (case hg => rfl); (case hr => first | (go_simp; done) | (go_simp; rfl)); intro gb218 hg w4 hbox hb; have n0_ := Aside0.mk (below_step (by repeat (first | (with_reducible first | exact HB.out | apply below_alloc | apply pw_below_drewN | apply below_drew1) | exact HB.out)) hb); have n1_ := Aside0.mk (hbox); have n2_ := Aside0.mk ((by rw [hg]; exact (below_size (by repeat (first | (with_reducible first | exact HB.out | apply below_alloc | apply pw_below_drewN | apply below_drew1) | exact HB.out))) : w.heap.size ≤ gb218)); have n3_ := Aside0.mk ((by rw [hg]; exact (below_size (by repeat (first | (with_reducible first | exact HB.out | apply below_alloc | apply pw_below_drewN | apply below_drew1) | exact HB.out))) : w.heap.size ≤ gb218)); clear HB; have HB := n0_; have BK218 := n1_; have GW218 := n2_; have GE218 := n3_; clear n0_ n1_ n2_ n3_; clear hb hbox hg) | ((with_reducible refine gate_dst (N := 3) rfl ?_); refine box_event ?hg (N := 3) ?hd (cs := #[.int .i64 a1_0, .int .i64 a1_1, .int .i64 a1_2, .int .i64 a1_3, .int .i64 a1_4, .int .i64 a1_5]) (t := 33) ?hr ?_; (case hd => rfl); (case hg => rfl); (case hr => first | (go_simp; done) | (go_simp; rfl)); intro gb219 hg w5 hbox hb; have n0_ := Aside0.mk (blk_below (g := gb218) (o := .cells #[.slice A0_0 l0_0.length c0_0, .slice A0_1 l0_1.length c0_1, .slice A0_2 l0_2.length c0_2, .int .i64 a0_3, .int .i64 a0_4, .int .i64 a0_5, .int .i64 a0_6, .int .i64 a0_7, .int .i64 a0_8] 26 (0, 0)) (by (with_reducible repeat (first | refine blk_drewN ?_ _ | refine blk_drew ?_ | refine blk_alloc ?_ _)); exact BK218.out) hb); have n1_ := Aside0.mk (below_step (by repeat (first | (with_reducible first | exact HB.out | apply below_alloc | apply pw_below_drewN | apply below_drew1 | refine below_set ?_ GE218.out) | exact HB.out)) hb); have n2_ := Aside0.mk (hbox); have n3_ := Aside0.mk ((by rw [hg]; exact (below_size (by repeat (first | (with_reducible first | exact HB.out | apply below_alloc | apply pw_below_drewN | apply below_drew1 | refine below_set ?_ GE218.out) | exact HB.out))) : w.heap.size ≤ gb219)); have n4_ := Aside0.mk ((by rw [hg]; exact (below_size (by repeat (first | (with_reducible first | exact HB.out | apply below_alloc | apply pw_below_drewN | apply below_drew1 | refine below_set ?_ GE218.out) | exact HB.out))) : w.heap.size ≤ gb219)); have n5_ := Aside0.mk ((by rw [hg]; exact Nat.ne_of_lt (blk_lt (g := gb218) (o := .cells #[.slice A0_0 l0_0.length c0_0, .slice A0_1 l0_1.length c0_1, .slice A0_2 l0_2.length c0_2, .int .i64 a0_3, .int .i64 a0_4, .int .i64 a0_5, .int .i64 a0_6, .int .i64 a0_7, .int .i64 a0_8] 26 (0, 0)) (by (with_reducible repeat (first | refine blk_drewN ?_ _ | refine blk_drew ?_ | refine blk_alloc ?_ _)); exact BK218.out)) : gb218 ≠ gb219)); have n6_ := Aside0.mk ((by rw [hg]; exact Nat.ne_of_gt (blk_lt (g := gb218) (o := .cells #[.slice A0_0 l0_0.length c0_0, .slice A0_1 l0_1.length c0_1, .slice A0_2 l0_2.length c0_2, .int .i64 a0_3, .int .i64 a0_4, .int .i64 a0_5, .int .i64 a0_6, .int .i64 a0_7, .int .i64 a0_8] 26 (0, 0)) (by (with_reducible repeat (first | refine blk_drewN ?_ _ | refine blk_drew ?_ | refine blk_alloc ?_ _)); exact BK218.out)) : gb219 ≠ gb218)); clear BK218; clear HB; have BK218 := n0_; have HB := n1_; have BK219 := n2_; have GW219 := n3_; have GE219 := n4_; have NB218_219 := n5_; have NB219_218 := n6_; clear n0_ n1_ n2_ n3_ n4_ n5_ n6_; clear hb hbox hg; have hnb6 := NB219_218.out; have hnc6 := NB218_219.out; have hcz7_0 : w5.cell? ⟨gb219, 0, none⟩ = some (.int .i64 a1_0) := (blk_cell BK219.out 0).trans rfl; have hcz7_1 : w5.cell? ⟨gb219, 1, none⟩ = some (.int .i64 a1_1) := (blk_cell BK219.out 1).trans rfl; have hcz7_2 : w5.cell? ⟨gb219, 2, none⟩ = some (.int .i64 a1_2) := (blk_cell BK219.out 2).trans rfl; have hcz7_3 : w5.cell? ⟨gb219, 3, none⟩ = some (.int .i64 a1_3) := (blk_cell BK219.out 3).trans rfl; have hcz7_4 : w5.cell? ⟨gb219, 4, none⟩ = some (.int .i64 a1_4) := (blk_cell BK219.out 4).trans rfl; have hcz7_5 : w5.cell? ⟨gb219, 5, none⟩ = some (.int .i64 a1_5) := (blk_cell BK219.out 5).trans rfl; have hfz7_0 := blk_frozen BK219.out 0; have hfz7_1 := blk_frozen BK219.out 1; have hfz7_2 := blk_frozen BK219.out 2; have hfz7_3 := blk_frozen BK219.out 3; have hfz7_4 := blk_frozen BK219.out 4; have hfz7_5 := blk_frozen BK219.out 5))
  repeat (go_quiet (first | ((with_reducible refine gate_dst (N := 2) rfl ?_); refine box_event ?hg (N := 2) ?hd (cs := #[.slice A0_0 l0_0.length c0_0, .slice A0_1 l0_1.length c0_1, .slice A0_2 l0_2.length c0_2, .int .i64 a0_3, .int .i64 a0_4, .int .i64 a0_5, .int .i64 a0_6, .int .i64 a0_7, .int .i64 a0_8]) (t := 26) ?hr ?_; (case hd => rfl); (case hg => rfl); (case hr => first | (go_simp; done) | (go_simp; rfl)); intro gb218 hg w4 hbox hb; have n0_ := Aside0.mk (below_step (by repeat (first | (with_reducible first | exact HB.out | apply below_alloc | apply pw_below_drewN | apply below_drew1) | exact HB.out)) hb); have n1_ := Aside0.mk (hbox); have n2_ := Aside0.mk ((by rw [hg]; exact (below_size (by repeat (first | (with_reducible first | exact HB.out | apply below_alloc | apply pw_below_drewN | apply below_drew1) | exact HB.out))) : w.heap.size ≤ gb218)); have n3_ := Aside0.mk ((by rw [hg]; exact (below_size (by repeat (first | (with_reducible first | exact HB.out | apply below_alloc | apply pw_below_drewN | apply below_drew1) | exact HB.out))) : w.heap.size ≤ gb218)); clear HB; have HB := n0_; have BK218 := n1_; have GW218 := n2_; have GE218 := n3_; clear n0_ n1_ n2_ n3_; clear hb hbox hg) | ((with_reducible refine gate_dst (N := 3) rfl ?_); refine box_event ?hg (N := 3) ?hd (cs := #[.int .i64 a1_0, .int .i64 a1_1, .int .i64 a1_2, .int .i64 a1_3, .int .i64 a1_4, .int .i64 a1_5]) (t := 33) ?hr ?_; (case hd => rfl); (case hg => rfl); (case hr => first | (go_simp; done) | (go_simp; rfl)); intro gb219 hg w5 hbox hb; have n0_ := Aside0.mk (blk_below (g := gb218) (o := .cells #[.slice A0_0 l0_0.length c0_0, .slice A0_1 l0_1.length c0_1, .slice A0_2 l0_2.length c0_2, .int .i64 a0_3, .int .i64 a0_4, .int .i64 a0_5, .int .i64 a0_6, .int .i64 a0_7, .int .i64 a0_8] 26 (0, 0)) (by (with_reducible repeat (first | refine blk_drewN ?_ _ | refine blk_drew ?_ | refine blk_alloc ?_ _)); exact BK218.out) hb); have n1_ := Aside0.mk (below_step (by repeat (first | (with_reducible first | exact HB.out | apply below_alloc | apply pw_below_drewN | apply below_drew1 | refine below_set ?_ GE218.out) | exact HB.out)) hb); have n2_ := Aside0.mk (hbox); have n3_ := Aside0.mk ((by rw [hg]; exact (below_size (by repeat (first | (with_reducible first | exact HB.out | apply below_alloc | apply pw_below_drewN | apply below_drew1 | refine below_set ?_ GE218.out) | exact HB.out))) : w.heap.size ≤ gb219)); have n4_ := Aside0.mk ((by rw [hg]; exact (below_size (by repeat (first | (with_reducible first | exact HB.out | apply below_alloc | apply pw_below_drewN | apply below_drew1 | refine below_set ?_ GE218.out) | exact HB.out))) : w.heap.size ≤ gb219)); have n5_ := Aside0.mk ((by rw [hg]; exact Nat.ne_of_lt (blk_lt (g := gb218) (o := .cells #[.slice A0_0 l0_0.length c0_0, .slice A0_1 l0_1.length c0_1, .slice A0_2 l0_2.length c0_2, .int .i64 a0_3, .int .i64 a0_4, .int .i64 a0_5, .int .i64 a0_6, .int .i64 a0_7, .int .i64 a0_8] 26 (0, 0)) (by (with_reducible repeat (first | refine blk_drewN ?_ _ | refine blk_drew ?_ | refine blk_alloc ?_ _)); exact BK218.out)) : gb218 ≠ gb219)); have n6_ := Aside0.mk ((by rw [hg]; exact Nat.ne_of_gt (blk_lt (g := gb218) (o := .cells #[.slice A0_0 l0_0.length c0_0, .slice A0_1 l0_1.length c0_1, .slice A0_2 l0_2.length c0_2, .int .i64 a0_3, .int .i64 a0_4, .int .i64 a0_5, .int .i64 a0_6, .int .i64 a0_7, .int .i64 a0_8] 26 (0, 0)) (by (with_reducible repeat (first | refine blk_drewN ?_ _ | refine blk_drew ?_ | refine blk_alloc ?_ _)); exact BK218.out)) : gb219 ≠ gb218)); clear BK218; clear HB; have BK218 := n0_; have HB := n1_; have BK219 := n2_; have GW219 := n3_; have GE219 := n4_; have NB218_219 := n5_; have NB219_218 := n6_; clear n0_ n1_ n2_ n3_ n4_ n5_ n6_; clear hb hbox hg; have hnb6 := NB219_218.out; have hnc6 := NB218_219.out; have hcz7_0 : w5.cell? ⟨gb219, 0, none⟩ = some (.int .i64 a1_0) := (blk_cell BK219.out 0).trans rfl; have hcz7_1 : w5.cell? ⟨gb219, 1, none⟩ = some (.int .i64 a1_1) := (blk_cell BK219.out 1).trans rfl; have hcz7_2 : w5.cell? ⟨gb219, 2, none⟩ = some (.int .i64 a1_2) := (blk_cell BK219.out 2).trans rfl; have hcz7_3 : w5.cell? ⟨gb219, 3, none⟩ = some (.int .i64 a1_3) := (blk_cell BK219.out 3).trans rfl; have hcz7_4 : w5.cell? ⟨gb219, 4, none⟩ = some (.int .i64 a1_4) := (blk_cell BK219.out 4).trans rfl; have hcz7_5 : w5.cell? ⟨gb219, 5, none⟩ = some (.int .i64 a1_5) := (blk_cell BK219.out 5).trans rfl; have hfz7_0 := blk_frozen BK219.out 0; have hfz7_1 := blk_frozen BK219.out 1; have hfz7_2 := blk_frozen BK219.out 2; have hfz7_3 := blk_frozen BK219.out 3; have hfz7_4 := blk_frozen BK219.out 4; have hfz7_5 := blk_frozen BK219.out 5)); try go_wp2_with (first | ((with_reducible refine gate_dst (N := 2) rfl ?_); refine box_event ?hg (N := 2) ?hd (cs := #[.slice A0_0 l0_0.length c0_0, .slice A0_1 l0_1.length c0_1, .slice A0_2 l0_2.length c0_2, .int .i64 a0_3, .int .i64 a0_4, .int .i64 a0_5, .int .i64 a0_6, .int .i64 a0_7, .int .i64 a0_8]) (t := 26) ?hr ?_; (case hd => rfl); (case hg => rfl); (case hr => first | (go_simp; done) | (go_simp; rfl)); intro gb218 hg w4 hbox hb; have n0_ := Aside0.mk (below_step (by repeat (first | (with_reducible first | exact HB.out | apply below_alloc | apply pw_below_drewN | apply below_drew1) | exact HB.out)) hb); have n1_ := Aside0.mk (hbox); have n2_ := Aside0.mk ((by rw [hg]; exact (below_size (by repeat (first | (with_reducible first | exact HB.out | apply below_alloc | apply pw_below_drewN | apply below_drew1) | exact HB.out))) : w.heap.size ≤ gb218)); have n3_ := Aside0.mk ((by rw [hg]; exact (below_size (by repeat (first | (with_reducible first | exact HB.out | apply below_alloc | apply pw_below_drewN | apply below_drew1) | exact HB.out))) : w.heap.size ≤ gb218)); clear HB; have HB := n0_; have BK218 := n1_; have GW218 := n2_; have GE218 := n3_; clear n0_ n1_ n2_ n3_; clear hb hbox hg) | ((with_reducible refine gate_dst (N := 3) rfl ?_); refine box_event ?hg (N := 3) ?hd (cs := #[.int .i64 a1_0, .int .i64 a1_1, .int .i64 a1_2, .int .i64 a1_3, .int .i64 a1_4, .int .i64 a1_5]) (t := 33) ?hr ?_; (case hd => rfl); (case hg => rfl); (case hr => first | (go_simp; done) | (go_simp; rfl)); intro gb219 hg w5 hbox hb; have n0_ := Aside0.mk (blk_below (g := gb218) (o := .cells #[.slice A0_0 l0_0.length c0_0, .slice A0_1 l0_1.length c0_1, .slice A0_2 l0_2.length c0_2, .int .i64 a0_3, .int .i64 a0_4, .int .i64 a0_5, .int .i64 a0_6, .int .i64 a0_7, .int .i64 a0_8] 26 (0, 0)) (by (with_reducible repeat (first | refine blk_drewN ?_ _ | refine blk_drew ?_ | refine blk_alloc ?_ _)); exact BK218.out) hb); have n1_ := Aside0.mk (below_step (by repeat (first | (with_reducible first | exact HB.out | apply below_alloc | apply pw_below_drewN | apply below_drew1 | refine below_set ?_ GE218.out) | exact HB.out)) hb); have n2_ := Aside0.mk (hbox); have n3_ := Aside0.mk ((by rw [hg]; exact (below_size (by repeat (first | (with_reducible first | exact HB.out | apply below_alloc | apply pw_below_drewN | apply below_drew1 | refine below_set ?_ GE218.out) | exact HB.out))) : w.heap.size ≤ gb219)); have n4_ := Aside0.mk ((by rw [hg]; exact (below_size (by repeat (first | (with_reducible first | exact HB.out | apply below_alloc | apply pw_below_drewN | apply below_drew1 | refine below_set ?_ GE218.out) | exact HB.out))) : w.heap.size ≤ gb219)); have n5_ := Aside0.mk ((by rw [hg]; exact Nat.ne_of_lt (blk_lt (g := gb218) (o := .cells #[.slice A0_0 l0_0.length c0_0, .slice A0_1 l0_1.length c0_1, .slice A0_2 l0_2.length c0_2, .int .i64 a0_3, .int .i64 a0_4, .int .i64 a0_5, .int .i64 a0_6, .int .i64 a0_7, .int .i64 a0_8] 26 (0, 0)) (by (with_reducible repeat (first | refine blk_drewN ?_ _ | refine blk_drew ?_ | refine blk_alloc ?_ _)); exact BK218.out)) : gb218 ≠ gb219)); have n6_ := Aside0.mk ((by rw [hg]; exact Nat.ne_of_gt (blk_lt (g := gb218) (o := .cells #[.slice A0_0 l0_0.length c0_0, .slice A0_1 l0_1.length c0_1, .slice A0_2 l0_2.length c0_2, .int .i64 a0_3, .int .i64 a0_4, .int .i64 a0_5, .int .i64 a0_6, .int .i64 a0_7, .int .i64 a0_8] 26 (0, 0)) (by (with_reducible repeat (first | refine blk_drewN ?_ _ | refine blk_drew ?_ | refine blk_alloc ?_ _)); exact BK218.out)) : gb219 ≠ gb218)); clear BK218; clear HB; have BK218 := n0_; have HB := n1_; have BK219 := n2_; have GW219 := n3_; have GE219 := n4_; have NB218_219 := n5_; have NB219_218 := n6_; clear n0_ n1_ n2_ n3_ n4_ n5_ n6_; clear hb hbox hg; have hnb6 := NB219_218.out; have hnc6 := NB218_219.out; have hcz7_0 : w5.cell? ⟨gb219, 0, none⟩ = some (.int .i64 a1_0) := (blk_cell BK219.out 0).trans rfl; have hcz7_1 : w5.cell? ⟨gb219, 1, none⟩ = some (.int .i64 a1_1) := (blk_cell BK219.out 1).trans rfl; have hcz7_2 : w5.cell? ⟨gb219, 2, none⟩ = some (.int .i64 a1_2) := (blk_cell BK219.out 2).trans rfl; have hcz7_3 : w5.cell? ⟨gb219, 3, none⟩ = some (.int .i64 a1_3) := (blk_cell BK219.out 3).trans rfl; have hcz7_4 : w5.cell? ⟨gb219, 4, none⟩ = some (.int .i64 a1_4) := (blk_cell BK219.out 4).trans rfl; have hcz7_5 : w5.cell? ⟨gb219, 5, none⟩ = some (.int .i64 a1_5) := (blk_cell BK219.out 5).trans rfl; have hfz7_0 := blk_frozen BK219.out 0; have hfz7_1 := blk_frozen BK219.out 1; have hfz7_2 := blk_frozen BK219.out 2; have hfz7_3 := blk_frozen BK219.out 3; have hfz7_4 := blk_frozen BK219.out 4; have hfz7_5 := blk_frozen BK219.out 5)))
  go_ret
  exact ⟨by first | rfl | (simp [errW_none, errW_some] <;> rfl) | (simp [*, errW_none, errW_some] <;> rfl), by repeat (first | (with_reducible first | exact HB.out | apply below_alloc | apply pw_below_drewN | apply below_drew1 | refine below_set ?_ GE218.out | refine below_set ?_ GE219.out) | exact HB.out)⟩
 rw [if_neg c3] at H
 have c3b0 : (a1_0 == 2) = false := beq_eq_false_iff_ne.mpr c3
 have c3b1 : (a1_0 != 2) = true := bne_iff_ne.mpr c3
 have HC8 := Aside0.mk H
 clear H
 go_enter Try.func23, Try.ntmps23
 go_upto_region 3 with (first | ((with_reducible refine gate_dst (N := 2) rfl ?_); refine box_event ?hg (N := 2) ?hd (cs := #[.slice A0_0 l0_0.length c0_0, .slice A0_1 l0_1.length c0_1, .slice A0_2 l0_2.length c0_2, .int .i64 a0_3, .int .i64 a0_4, .int .i64 a0_5, .int .i64 a0_6, .int .i64 a0_7, .int .i64 a0_8]) (t := 26) ?hr ?_; (case hd => rfl); (case hg => rfl); (case hr => first | (go_simp; done) | (go_simp; rfl)); intro gb218 hg w9 hbox hb; have n0_ := Aside0.mk (below_step (by repeat (first | (with_reducible first | exact HB.out | apply below_alloc | apply pw_below_drewN | apply below_drew1) | exact HB.out)) hb); have n1_ := Aside0.mk (hbox); have n2_ := Aside0.mk ((by rw [hg]; exact (below_size (by repeat (first | (with_reducible first | exact HB.out | apply below_alloc | apply pw_below_drewN | apply below_drew1) | exact HB.out))) : w.heap.size ≤ gb218)); have n3_ := Aside0.mk ((by rw [hg]; exact (below_size (by repeat (first | (with_reducible first | exact HB.out | apply below_alloc | apply pw_below_drewN | apply below_drew1) | exact HB.out))) : w.heap.size ≤ gb218)); clear HB; have HB := n0_; have BK218 := n1_; have GW218 := n2_; have GE218 := n3_; clear n0_ n1_ n2_ n3_; clear hb hbox hg) | ((with_reducible refine gate_dst (N := 3) rfl ?_); refine box_event ?hg (N := 3) ?hd (cs := #[.int .i64 a1_0, .int .i64 a1_1, .int .i64 a1_2, .int .i64 a1_3, .int .i64 a1_4, .int .i64 a1_5]) (t := 33) ?hr ?_; (case hd => rfl); (case hg => rfl); (case hr => first | (go_simp; done) | (go_simp; rfl)); intro gb219 hg w10 hbox hb; have n0_ := Aside0.mk (blk_below (g := gb218) (o := .cells #[.slice A0_0 l0_0.length c0_0, .slice A0_1 l0_1.length c0_1, .slice A0_2 l0_2.length c0_2, .int .i64 a0_3, .int .i64 a0_4, .int .i64 a0_5, .int .i64 a0_6, .int .i64 a0_7, .int .i64 a0_8] 26 (0, 0)) (by (with_reducible repeat (first | refine blk_drewN ?_ _ | refine blk_drew ?_ | refine blk_alloc ?_ _)); exact BK218.out) hb); have n1_ := Aside0.mk (below_step (by repeat (first | (with_reducible first | exact HB.out | apply below_alloc | apply pw_below_drewN | apply below_drew1 | refine below_set ?_ GE218.out) | exact HB.out)) hb); have n2_ := Aside0.mk (hbox); have n3_ := Aside0.mk ((by rw [hg]; exact (below_size (by repeat (first | (with_reducible first | exact HB.out | apply below_alloc | apply pw_below_drewN | apply below_drew1 | refine below_set ?_ GE218.out) | exact HB.out))) : w.heap.size ≤ gb219)); have n4_ := Aside0.mk ((by rw [hg]; exact (below_size (by repeat (first | (with_reducible first | exact HB.out | apply below_alloc | apply pw_below_drewN | apply below_drew1 | refine below_set ?_ GE218.out) | exact HB.out))) : w.heap.size ≤ gb219)); have n5_ := Aside0.mk ((by rw [hg]; exact Nat.ne_of_lt (blk_lt (g := gb218) (o := .cells #[.slice A0_0 l0_0.length c0_0, .slice A0_1 l0_1.length c0_1, .slice A0_2 l0_2.length c0_2, .int .i64 a0_3, .int .i64 a0_4, .int .i64 a0_5, .int .i64 a0_6, .int .i64 a0_7, .int .i64 a0_8] 26 (0, 0)) (by (with_reducible repeat (first | refine blk_drewN ?_ _ | refine blk_drew ?_ | refine blk_alloc ?_ _)); exact BK218.out)) : gb218 ≠ gb219)); have n6_ := Aside0.mk ((by rw [hg]; exact Nat.ne_of_gt (blk_lt (g := gb218) (o := .cells #[.slice A0_0 l0_0.length c0_0, .slice A0_1 l0_1.length c0_1, .slice A0_2 l0_2.length c0_2, .int .i64 a0_3, .int .i64 a0_4, .int .i64 a0_5, .int .i64 a0_6, .int .i64 a0_7, .int .i64 a0_8] 26 (0, 0)) (by (with_reducible repeat (first | refine blk_drewN ?_ _ | refine blk_drew ?_ | refine blk_alloc ?_ _)); exact BK218.out)) : gb219 ≠ gb218)); clear BK218; clear HB; have BK218 := n0_; have HB := n1_; have BK219 := n2_; have GW219 := n3_; have GE219 := n4_; have NB218_219 := n5_; have NB219_218 := n6_; clear n0_ n1_ n2_ n3_ n4_ n5_ n6_; clear hb hbox hg; have hnb11 := NB219_218.out; have hnc11 := NB218_219.out; have hcz12_0 : w10.cell? ⟨gb219, 0, none⟩ = some (.int .i64 a1_0) := (blk_cell BK219.out 0).trans rfl; have hcz12_1 : w10.cell? ⟨gb219, 1, none⟩ = some (.int .i64 a1_1) := (blk_cell BK219.out 1).trans rfl; have hcz12_2 : w10.cell? ⟨gb219, 2, none⟩ = some (.int .i64 a1_2) := (blk_cell BK219.out 2).trans rfl; have hcz12_3 : w10.cell? ⟨gb219, 3, none⟩ = some (.int .i64 a1_3) := (blk_cell BK219.out 3).trans rfl; have hcz12_4 : w10.cell? ⟨gb219, 4, none⟩ = some (.int .i64 a1_4) := (blk_cell BK219.out 4).trans rfl; have hcz12_5 : w10.cell? ⟨gb219, 5, none⟩ = some (.int .i64 a1_5) := (blk_cell BK219.out 5).trans rfl; have hfz12_0 := blk_frozen BK219.out 0; have hfz12_1 := blk_frozen BK219.out 1; have hfz12_2 := blk_frozen BK219.out 2; have hfz12_3 := blk_frozen BK219.out 3; have hfz12_4 := blk_frozen BK219.out 4; have hfz12_5 := blk_frozen BK219.out 5))
 repeat (go_quiet (first | ((with_reducible refine gate_dst (N := 2) rfl ?_); refine box_event ?hg (N := 2) ?hd (cs := #[.slice A0_0 l0_0.length c0_0, .slice A0_1 l0_1.length c0_1, .slice A0_2 l0_2.length c0_2, .int .i64 a0_3, .int .i64 a0_4, .int .i64 a0_5, .int .i64 a0_6, .int .i64 a0_7, .int .i64 a0_8]) (t := 26) ?hr ?_; (case hd => rfl); (case hg => rfl); (case hr => first | (go_simp; done) | (go_simp; rfl)); intro gb218 hg w9 hbox hb; have n0_ := Aside0.mk (below_step (by repeat (first | (with_reducible first | exact HB.out | apply below_alloc | apply pw_below_drewN | apply below_drew1) | exact HB.out)) hb); have n1_ := Aside0.mk (hbox); have n2_ := Aside0.mk ((by rw [hg]; exact (below_size (by repeat (first | (with_reducible first | exact HB.out | apply below_alloc | apply pw_below_drewN | apply below_drew1) | exact HB.out))) : w.heap.size ≤ gb218)); have n3_ := Aside0.mk ((by rw [hg]; exact (below_size (by repeat (first | (with_reducible first | exact HB.out | apply below_alloc | apply pw_below_drewN | apply below_drew1) | exact HB.out))) : w.heap.size ≤ gb218)); clear HB; have HB := n0_; have BK218 := n1_; have GW218 := n2_; have GE218 := n3_; clear n0_ n1_ n2_ n3_; clear hb hbox hg) | ((with_reducible refine gate_dst (N := 3) rfl ?_); refine box_event ?hg (N := 3) ?hd (cs := #[.int .i64 a1_0, .int .i64 a1_1, .int .i64 a1_2, .int .i64 a1_3, .int .i64 a1_4, .int .i64 a1_5]) (t := 33) ?hr ?_; (case hd => rfl); (case hg => rfl); (case hr => first | (go_simp; done) | (go_simp; rfl)); intro gb219 hg w10 hbox hb; have n0_ := Aside0.mk (blk_below (g := gb218) (o := .cells #[.slice A0_0 l0_0.length c0_0, .slice A0_1 l0_1.length c0_1, .slice A0_2 l0_2.length c0_2, .int .i64 a0_3, .int .i64 a0_4, .int .i64 a0_5, .int .i64 a0_6, .int .i64 a0_7, .int .i64 a0_8] 26 (0, 0)) (by (with_reducible repeat (first | refine blk_drewN ?_ _ | refine blk_drew ?_ | refine blk_alloc ?_ _)); exact BK218.out) hb); have n1_ := Aside0.mk (below_step (by repeat (first | (with_reducible first | exact HB.out | apply below_alloc | apply pw_below_drewN | apply below_drew1 | refine below_set ?_ GE218.out) | exact HB.out)) hb); have n2_ := Aside0.mk (hbox); have n3_ := Aside0.mk ((by rw [hg]; exact (below_size (by repeat (first | (with_reducible first | exact HB.out | apply below_alloc | apply pw_below_drewN | apply below_drew1 | refine below_set ?_ GE218.out) | exact HB.out))) : w.heap.size ≤ gb219)); have n4_ := Aside0.mk ((by rw [hg]; exact (below_size (by repeat (first | (with_reducible first | exact HB.out | apply below_alloc | apply pw_below_drewN | apply below_drew1 | refine below_set ?_ GE218.out) | exact HB.out))) : w.heap.size ≤ gb219)); have n5_ := Aside0.mk ((by rw [hg]; exact Nat.ne_of_lt (blk_lt (g := gb218) (o := .cells #[.slice A0_0 l0_0.length c0_0, .slice A0_1 l0_1.length c0_1, .slice A0_2 l0_2.length c0_2, .int .i64 a0_3, .int .i64 a0_4, .int .i64 a0_5, .int .i64 a0_6, .int .i64 a0_7, .int .i64 a0_8] 26 (0, 0)) (by (with_reducible repeat (first | refine blk_drewN ?_ _ | refine blk_drew ?_ | refine blk_alloc ?_ _)); exact BK218.out)) : gb218 ≠ gb219)); have n6_ := Aside0.mk ((by rw [hg]; exact Nat.ne_of_gt (blk_lt (g := gb218) (o := .cells #[.slice A0_0 l0_0.length c0_0, .slice A0_1 l0_1.length c0_1, .slice A0_2 l0_2.length c0_2, .int .i64 a0_3, .int .i64 a0_4, .int .i64 a0_5, .int .i64 a0_6, .int .i64 a0_7, .int .i64 a0_8] 26 (0, 0)) (by (with_reducible repeat (first | refine blk_drewN ?_ _ | refine blk_drew ?_ | refine blk_alloc ?_ _)); exact BK218.out)) : gb219 ≠ gb218)); clear BK218; clear HB; have BK218 := n0_; have HB := n1_; have BK219 := n2_; have GW219 := n3_; have GE219 := n4_; have NB218_219 := n5_; have NB219_218 := n6_; clear n0_ n1_ n2_ n3_ n4_ n5_ n6_; clear hb hbox hg; have hnb11 := NB219_218.out; have hnc11 := NB218_219.out; have hcz12_0 : w10.cell? ⟨gb219, 0, none⟩ = some (.int .i64 a1_0) := (blk_cell BK219.out 0).trans rfl; have hcz12_1 : w10.cell? ⟨gb219, 1, none⟩ = some (.int .i64 a1_1) := (blk_cell BK219.out 1).trans rfl; have hcz12_2 : w10.cell? ⟨gb219, 2, none⟩ = some (.int .i64 a1_2) := (blk_cell BK219.out 2).trans rfl; have hcz12_3 : w10.cell? ⟨gb219, 3, none⟩ = some (.int .i64 a1_3) := (blk_cell BK219.out 3).trans rfl; have hcz12_4 : w10.cell? ⟨gb219, 4, none⟩ = some (.int .i64 a1_4) := (blk_cell BK219.out 4).trans rfl; have hcz12_5 : w10.cell? ⟨gb219, 5, none⟩ = some (.int .i64 a1_5) := (blk_cell BK219.out 5).trans rfl; have hfz12_0 := blk_frozen BK219.out 0; have hfz12_1 := blk_frozen BK219.out 1; have hfz12_2 := blk_frozen BK219.out 2; have hfz12_3 := blk_frozen BK219.out 3; have hfz12_4 := blk_frozen BK219.out 4; have hfz12_5 := blk_frozen BK219.out 5)); go_upto_region 3 with (first | ((with_reducible refine gate_dst (N := 2) rfl ?_); refine box_event ?hg (N := 2) ?hd (cs := #[.slice A0_0 l0_0.length c0_0, .slice A0_1 l0_1.length c0_1, .slice A0_2 l0_2.length c0_2, .int .i64 a0_3, .int .i64 a0_4, .int .i64 a0_5, .int .i64 a0_6, .int .i64 a0_7, .int .i64 a0_8]) (t := 26) ?hr ?_; (case hd => rfl); (case hg => rfl); (case hr => first | (go_simp; done) | (go_simp; rfl)); intro gb218 hg w9 hbox hb; have n0_ := Aside0.mk (below_step (by repeat (first | (with_reducible first | exact HB.out | apply below_alloc | apply pw_below_drewN | apply below_drew1) | exact HB.out)) hb); have n1_ := Aside0.mk (hbox); have n2_ := Aside0.mk ((by rw [hg]; exact (below_size (by repeat (first | (with_reducible first | exact HB.out | apply below_alloc | apply pw_below_drewN | apply below_drew1) | exact HB.out))) : w.heap.size ≤ gb218)); have n3_ := Aside0.mk ((by rw [hg]; exact (below_size (by repeat (first | (with_reducible first | exact HB.out | apply below_alloc | apply pw_below_drewN | apply below_drew1) | exact HB.out))) : w.heap.size ≤ gb218)); clear HB; have HB := n0_; have BK218 := n1_; have GW218 := n2_; have GE218 := n3_; clear n0_ n1_ n2_ n3_; clear hb hbox hg) | ((with_reducible refine gate_dst (N := 3) rfl ?_); refine box_event ?hg (N := 3) ?hd (cs := #[.int .i64 a1_0, .int .i64 a1_1, .int .i64 a1_2, .int .i64 a1_3, .int .i64 a1_4, .int .i64 a1_5]) (t := 33) ?hr ?_; (case hd => rfl); (case hg => rfl); (case hr => first | (go_simp; done) | (go_simp; rfl)); intro gb219 hg w10 hbox hb; have n0_ := Aside0.mk (blk_below (g := gb218) (o := .cells #[.slice A0_0 l0_0.length c0_0, .slice A0_1 l0_1.length c0_1, .slice A0_2 l0_2.length c0_2, .int .i64 a0_3, .int .i64 a0_4, .int .i64 a0_5, .int .i64 a0_6, .int .i64 a0_7, .int .i64 a0_8] 26 (0, 0)) (by (with_reducible repeat (first | refine blk_drewN ?_ _ | refine blk_drew ?_ | refine blk_alloc ?_ _)); exact BK218.out) hb); have n1_ := Aside0.mk (below_step (by repeat (first | (with_reducible first | exact HB.out | apply below_alloc | apply pw_below_drewN | apply below_drew1 | refine below_set ?_ GE218.out) | exact HB.out)) hb); have n2_ := Aside0.mk (hbox); have n3_ := Aside0.mk ((by rw [hg]; exact (below_size (by repeat (first | (with_reducible first | exact HB.out | apply below_alloc | apply pw_below_drewN | apply below_drew1 | refine below_set ?_ GE218.out) | exact HB.out))) : w.heap.size ≤ gb219)); have n4_ := Aside0.mk ((by rw [hg]; exact (below_size (by repeat (first | (with_reducible first | exact HB.out | apply below_alloc | apply pw_below_drewN | apply below_drew1 | refine below_set ?_ GE218.out) | exact HB.out))) : w.heap.size ≤ gb219)); have n5_ := Aside0.mk ((by rw [hg]; exact Nat.ne_of_lt (blk_lt (g := gb218) (o := .cells #[.slice A0_0 l0_0.length c0_0, .slice A0_1 l0_1.length c0_1, .slice A0_2 l0_2.length c0_2, .int .i64 a0_3, .int .i64 a0_4, .int .i64 a0_5, .int .i64 a0_6, .int .i64 a0_7, .int .i64 a0_8] 26 (0, 0)) (by (with_reducible repeat (first | refine blk_drewN ?_ _ | refine blk_drew ?_ | refine blk_alloc ?_ _)); exact BK218.out)) : gb218 ≠ gb219)); have n6_ := Aside0.mk ((by rw [hg]; exact Nat.ne_of_gt (blk_lt (g := gb218) (o := .cells #[.slice A0_0 l0_0.length c0_0, .slice A0_1 l0_1.length c0_1, .slice A0_2 l0_2.length c0_2, .int .i64 a0_3, .int .i64 a0_4, .int .i64 a0_5, .int .i64 a0_6, .int .i64 a0_7, .int .i64 a0_8] 26 (0, 0)) (by (with_reducible repeat (first | refine blk_drewN ?_ _ | refine blk_drew ?_ | refine blk_alloc ?_ _)); exact BK218.out)) : gb219 ≠ gb218)); clear BK218; clear HB; have BK218 := n0_; have HB := n1_; have BK219 := n2_; have GW219 := n3_; have GE219 := n4_; have NB218_219 := n5_; have NB219_218 := n6_; clear n0_ n1_ n2_ n3_ n4_ n5_ n6_; clear hb hbox hg; have hnb11 := NB219_218.out; have hnc11 := NB218_219.out; have hcz12_0 : w10.cell? ⟨gb219, 0, none⟩ = some (.int .i64 a1_0) := (blk_cell BK219.out 0).trans rfl; have hcz12_1 : w10.cell? ⟨gb219, 1, none⟩ = some (.int .i64 a1_1) := (blk_cell BK219.out 1).trans rfl; have hcz12_2 : w10.cell? ⟨gb219, 2, none⟩ = some (.int .i64 a1_2) := (blk_cell BK219.out 2).trans rfl; have hcz12_3 : w10.cell? ⟨gb219, 3, none⟩ = some (.int .i64 a1_3) := (blk_cell BK219.out 3).trans rfl; have hcz12_4 : w10.cell? ⟨gb219, 4, none⟩ = some (.int .i64 a1_4) := (blk_cell BK219.out 4).trans rfl; have hcz12_5 : w10.cell? ⟨gb219, 5, none⟩ = some (.int .i64 a1_5) := (blk_cell BK219.out 5).trans rfl; have hfz12_0 := blk_frozen BK219.out 0; have hfz12_1 := blk_frozen BK219.out 1; have hfz12_2 := blk_frozen BK219.out 2; have hfz12_3 := blk_frozen BK219.out 3; have hfz12_4 := blk_frozen BK219.out 4; have hfz12_5 := blk_frozen BK219.out 5)))
 (try simp only [Act.put, List.setIfInBounds_toArray, List.set_cons_zero, List.set_cons_succ])
 go_cut [18] (fun v18 wc => ∃ (kq : Nat) (x18_7 : Bool), v18 = .bool x18_7 ∧ Aside0 (dormouseref21_one.j0 kq x18_7 l0_0 l0_1 l0_2 a0_3 a0_4 a0_5 a0_6 a0_7 a0_8 a1_0 a1_1 a1_2 a1_3 a1_4 a1_5 = some r) ∧ Aside0 (kq ≤ k) ∧ Aside0 (wc.heap[gb218]? = some (.cells #[(.slice A0_0 l0_0.length c0_0), (.slice A0_1 l0_1.length c0_1), (.slice A0_2 l0_2.length c0_2), .int .i64 a0_3, .int .i64 a0_4, .int .i64 a0_5, .int .i64 a0_6, .int .i64 a0_7, .int .i64 a0_8] 26 (0, 0))) ∧ Aside0 (wc.heap[gb219]? = some (.cells #[.int .i64 a1_0, .int .i64 a1_1, .int .i64 a1_2, .int .i64 a1_3, .int .i64 a1_4, .int .i64 a1_5] 33 (0, 0))) ∧ Aside0 (Below w.heap.size w wc))
 case first =>
  have H := HC8.out; clear HC8
  by_cases c13 : a1_3 < 0
  ·
   rw [if_pos c13] at H
   have c13b0 : decide (a1_3 < 0) = true := decide_eq_true c13
   clear c13
   (first | rw [c13b0] | (simp only [i64_w, i32_w]; rw [c13b0]) | skip)
   have H' := Aside0.mk H; clear H
   have hnb14 := NB219_218.out
   have hnc14 := NB218_219.out
   have hcz15_0 : w10.cell? ⟨gb219, 0, none⟩ = some (.int .i64 a1_0) := (blk_cell BK219.out 0).trans rfl; have hcz15_1 : w10.cell? ⟨gb219, 1, none⟩ = some (.int .i64 a1_1) := (blk_cell BK219.out 1).trans rfl; have hcz15_2 : w10.cell? ⟨gb219, 2, none⟩ = some (.int .i64 a1_2) := (blk_cell BK219.out 2).trans rfl; have hcz15_3 : w10.cell? ⟨gb219, 3, none⟩ = some (.int .i64 a1_3) := (blk_cell BK219.out 3).trans rfl; have hcz15_4 : w10.cell? ⟨gb219, 4, none⟩ = some (.int .i64 a1_4) := (blk_cell BK219.out 4).trans rfl; have hcz15_5 : w10.cell? ⟨gb219, 5, none⟩ = some (.int .i64 a1_5) := (blk_cell BK219.out 5).trans rfl; have hfz15_0 := blk_frozen BK219.out 0; have hfz15_1 := blk_frozen BK219.out 1; have hfz15_2 := blk_frozen BK219.out 2; have hfz15_3 := blk_frozen BK219.out 3; have hfz15_4 := blk_frozen BK219.out 4; have hfz15_5 := blk_frozen BK219.out 5
   go_wp2
   repeat (go_quiet (fail); try go_wp2)
   go_meet
   case rel => exact ⟨_, (true), (by first | rfl | (simp; done) | (simp [*]; done)), H', ⟨by first | omega | exact Nat.le_refl _⟩, ⟨by (with_reducible repeat (first | refine blk_drewN ?_ _ | refine blk_drew ?_ | refine blk_alloc ?_ _)); exact BK218.out⟩, ⟨by (with_reducible repeat (first | refine blk_drewN ?_ _ | refine blk_drew ?_ | refine blk_alloc ?_ _)); exact BK219.out⟩, ⟨by repeat (first | (with_reducible first | exact HB.out | apply below_alloc | apply pw_below_drewN | apply below_drew1 | refine below_set ?_ GE218.out | refine below_set ?_ GE219.out) | exact HB.out)⟩⟩
  rw [if_neg c13] at H
  have c13b0 : decide (a1_3 < 0) = false := decide_eq_false c13
  clear c13
  (first | rw [c13b0] | (simp only [i64_w, i32_w]; rw [c13b0]) | skip)
  have H' := Aside0.mk H; clear H
  have hnb16 := NB219_218.out
  have hnc16 := NB218_219.out
  have hcz17_0 : w10.cell? ⟨gb219, 0, none⟩ = some (.int .i64 a1_0) := (blk_cell BK219.out 0).trans rfl; have hcz17_1 : w10.cell? ⟨gb219, 1, none⟩ = some (.int .i64 a1_1) := (blk_cell BK219.out 1).trans rfl; have hcz17_2 : w10.cell? ⟨gb219, 2, none⟩ = some (.int .i64 a1_2) := (blk_cell BK219.out 2).trans rfl; have hcz17_3 : w10.cell? ⟨gb219, 3, none⟩ = some (.int .i64 a1_3) := (blk_cell BK219.out 3).trans rfl; have hcz17_4 : w10.cell? ⟨gb219, 4, none⟩ = some (.int .i64 a1_4) := (blk_cell BK219.out 4).trans rfl; have hcz17_5 : w10.cell? ⟨gb219, 5, none⟩ = some (.int .i64 a1_5) := (blk_cell BK219.out 5).trans rfl; have hfz17_0 := blk_frozen BK219.out 0; have hfz17_1 := blk_frozen BK219.out 1; have hfz17_2 := blk_frozen BK219.out 2; have hfz17_3 := blk_frozen BK219.out 3; have hfz17_4 := blk_frozen BK219.out 4; have hfz17_5 := blk_frozen BK219.out 5
  go_wp2
  repeat (go_quiet (fail); try go_wp2)
  go_meet
  case rel => exact ⟨_, (decide (a1_2 < 0)), (by first | rfl | (simp; done) | (simp [*]; done)), H', ⟨by first | omega | exact Nat.le_refl _⟩, ⟨by (with_reducible repeat (first | refine blk_drewN ?_ _ | refine blk_drew ?_ | refine blk_alloc ?_ _)); exact BK218.out⟩, ⟨by (with_reducible repeat (first | refine blk_drewN ?_ _ | refine blk_drew ?_ | refine blk_alloc ?_ _)); exact BK219.out⟩, ⟨by repeat (first | (with_reducible first | exact HB.out | apply below_alloc | apply pw_below_drewN | apply below_drew1 | refine below_set ?_ GE218.out | refine below_set ?_ GE219.out) | exact HB.out)⟩⟩
 case rest =>
  clear HC8; (try clear c1); (try clear c2); (try clear p2); (try clear c3); (try clear c3b0); (try clear c3b1); (try clear c6); (try clear c11); (try clear c13); (try clear c13b0); (try clear c14); (try clear c16); (try clear hcz12_0); (try clear hcz12_1); (try clear hcz12_2); (try clear hcz12_3); (try clear hcz12_4); (try clear hcz12_5); (try clear hcz15_0); (try clear hcz15_1); (try clear hcz15_2); (try clear hcz15_3); (try clear hcz15_4); (try clear hcz15_5); (try clear hcz17_0); (try clear hcz17_1); (try clear hcz17_2); (try clear hcz17_3); (try clear hcz17_4); (try clear hcz17_5); (try clear hcz7_0); (try clear hcz7_1); (try clear hcz7_2); (try clear hcz7_3); (try clear hcz7_4); (try clear hcz7_5); (try clear hfz12_0); (try clear hfz12_1); (try clear hfz12_2); (try clear hfz12_3); (try clear hfz12_4); (try clear hfz12_5); (try clear hfz15_0); (try clear hfz15_1); (try clear hfz15_2); (try clear hfz15_3); (try clear hfz15_4); (try clear hfz15_5); (try clear hfz17_0); (try clear hfz17_1); (try clear hfz17_2); (try clear hfz17_3); (try clear hfz17_4); (try clear hfz17_5); (try clear hfz7_0); (try clear hfz7_1); (try clear hfz7_2); (try clear hfz7_3); (try clear hfz7_4); (try clear hfz7_5)
  obtain ⟨kq, x18_7, rfl, HA, HJ7, BK218, BK219, HB⟩ := hcut
  cases kq with
  | zero => exact absurd HA.out (by simp [dormouseref21_one.j0])
  | succ kj7 =>
   have H := HA.out; clear HA
   simp only [dormouseref21_one.j0] at H
   by_cases c18 : x18_7 = true
   ·
    subst c18
    have H1 : (some false) = some r := by rw [if_pos rfl] at H; exact H
    clear H; have H := H1; clear H1
    obtain rfl := Option.some.inj H
    go_wp2
    repeat (go_quiet (fail); try go_wp2)
    go_ret
    exact ⟨by first | rfl | (simp [errW_none, errW_some] <;> rfl) | (simp [*, errW_none, errW_some] <;> rfl), by repeat (first | (with_reducible first | exact HB.out | apply below_alloc | apply pw_below_drewN | apply below_drew1 | refine below_set ?_ GE218.out | refine below_set ?_ GE219.out) | exact HB.out)⟩
   replace c18 := Bool.eq_false_iff.mpr c18
   subst c18
   have H1 : (if a1_0 = 1 then (if a1_3 < (l0_0.length : Int) then (if 0 ≤ a1_3 then (some (a1_2 == (wrap64 (a1_5 * ((rd_T45 l0_0 a1_3).f0))))) else (none)) else (some false)) else (if a1_0 = 3 then (if a1_3 < (l0_0.length : Int) then (some (a1_2 == a0_5)) else (some false)) else (if a1_3 ≥ (l0_1.length : Int) then (some false) else (if a1_0 = 5 then (some true) else (if a1_0 = 4 then (if 0 ≤ a1_3 then (if a1_3 < (l0_1.length : Int) then (if a1_2 = ((rd_T48 l0_1 a1_3).f1) then (some true) else (if a1_0 = 6 then (some (a1_2 == ((rd_T48 l0_1 a1_3).f2))) else (some false))) else (none)) else (none)) else (if a1_0 = 6 then (if 0 ≤ a1_3 then (if a1_3 < (l0_1.length : Int) then (some (a1_2 == ((rd_T48 l0_1 a1_3).f2))) else (none)) else (none)) else (some false))))))) = some r := by rw [if_neg (show ¬ (false = true) by decide)] at H; exact H
   clear H; have H := H1; clear H1
   by_cases c19 : a1_0 = 1
   ·
    rw [if_pos c19] at H
    have c19b0 : (a1_0 == 1) = true := beq_iff_eq.mpr c19
    have c19b1 : (a1_0 != 1) = false := bne_eq_false_iff_eq.mpr c19
    clear c19
    by_cases c20 : a1_3 < (l0_0.length : Int)
    ·
     rw [if_pos c20] at H
     have c20b0 : decide (a1_3 < (l0_0.length : Int)) = true := decide_eq_true c20
     clear c20
     by_cases c21 : 0 ≤ a1_3
     ·
      rw [if_pos c21] at H
      have c21b0 : decide (0 ≤ a1_3) = true := decide_eq_true c21
      clear c21
      obtain rfl := Option.some.inj H
      have hnb22 := NB219_218.out
      have hnc22 := NB218_219.out
      have hcz23_0 : wc.cell? ⟨gb219, 0, none⟩ = some (.int .i64 a1_0) := (blk_cell BK219.out 0).trans rfl; have hcz23_1 : wc.cell? ⟨gb219, 1, none⟩ = some (.int .i64 a1_1) := (blk_cell BK219.out 1).trans rfl; have hcz23_2 : wc.cell? ⟨gb219, 2, none⟩ = some (.int .i64 a1_2) := (blk_cell BK219.out 2).trans rfl; have hcz23_3 : wc.cell? ⟨gb219, 3, none⟩ = some (.int .i64 a1_3) := (blk_cell BK219.out 3).trans rfl; have hcz23_4 : wc.cell? ⟨gb219, 4, none⟩ = some (.int .i64 a1_4) := (blk_cell BK219.out 4).trans rfl; have hcz23_5 : wc.cell? ⟨gb219, 5, none⟩ = some (.int .i64 a1_5) := (blk_cell BK219.out 5).trans rfl; have hfz23_0 := blk_frozen BK219.out 0; have hfz23_1 := blk_frozen BK219.out 1; have hfz23_2 := blk_frozen BK219.out 2; have hfz23_3 := blk_frozen BK219.out 3; have hfz23_4 := blk_frozen BK219.out 4; have hfz23_5 := blk_frozen BK219.out 5; have hcz24_0 : wc.cell? ⟨gb218, 0, none⟩ = some (.slice A0_0 l0_0.length c0_0) := (blk_cell BK218.out 0).trans rfl; have hcz24_1 : wc.cell? ⟨gb218, 1, none⟩ = some (.slice A0_1 l0_1.length c0_1) := (blk_cell BK218.out 1).trans rfl; have hcz24_2 : wc.cell? ⟨gb218, 2, none⟩ = some (.slice A0_2 l0_2.length c0_2) := (blk_cell BK218.out 2).trans rfl; have hcz24_3 : wc.cell? ⟨gb218, 3, none⟩ = some (.int .i64 a0_3) := (blk_cell BK218.out 3).trans rfl; have hcz24_4 : wc.cell? ⟨gb218, 4, none⟩ = some (.int .i64 a0_4) := (blk_cell BK218.out 4).trans rfl; have hcz24_5 : wc.cell? ⟨gb218, 5, none⟩ = some (.int .i64 a0_5) := (blk_cell BK218.out 5).trans rfl; have hcz24_6 : wc.cell? ⟨gb218, 6, none⟩ = some (.int .i64 a0_6) := (blk_cell BK218.out 6).trans rfl; have hcz24_7 : wc.cell? ⟨gb218, 7, none⟩ = some (.int .i64 a0_7) := (blk_cell BK218.out 7).trans rfl; have hcz24_8 : wc.cell? ⟨gb218, 8, none⟩ = some (.int .i64 a0_8) := (blk_cell BK218.out 8).trans rfl; have hfz24_0 := blk_frozen BK218.out 0; have hfz24_1 := blk_frozen BK218.out 1; have hfz24_2 := blk_frozen BK218.out 2; have hfz24_3 := blk_frozen BK218.out 3; have hfz24_4 := blk_frozen BK218.out 4; have hfz24_5 := blk_frozen BK218.out 5; have hfz24_6 := blk_frozen BK218.out 6; have hfz24_7 := blk_frozen BK218.out 7; have hfz24_8 := blk_frozen BK218.out 8
      have p220 : 0 ≤ (a1_3 : Int) := of_decide_eq_true (by first | (with_reducible assumption) | assumption)
      have q220 : a1_3 < (l0_0.length : Int) := of_decide_eq_true (by first | (with_reducible assumption) | assumption)
      obtain ⟨ad220, e220, hx220_0, hx220_1⟩ := at_T45 HR0_0.out a1_3 p220 q220
      cases e220
      replace hx220_0 := (HB.out.cell (World.block_lt_of_cell? w _ hx220_0)).trans hx220_0
      replace hx220_1 := (HB.out.cell (World.block_lt_of_cell? w _ hx220_1)).trans hx220_1
      replace p220 := eq_true p220
      replace q220 := eq_true q220
      go_wp2
      repeat (go_quiet (fail); try go_wp2)
      go_ret
      exact ⟨by first | rfl | (simp [errW_none, errW_some] <;> rfl) | (simp [*, errW_none, errW_some] <;> rfl), by repeat (first | (with_reducible first | exact HB.out | apply below_alloc | apply pw_below_drewN | apply below_drew1 | refine below_set ?_ GE218.out | refine below_set ?_ GE219.out) | exact HB.out)⟩
     rw [if_neg c21] at H
     exact absurd H (by simp)
    rw [if_neg c20] at H
    have c20b0 : decide (a1_3 < (l0_0.length : Int)) = false := decide_eq_false c20
    clear c20
    obtain rfl := Option.some.inj H
    have hnb25 := NB219_218.out
    have hnc25 := NB218_219.out
    have hcz26_0 : wc.cell? ⟨gb219, 0, none⟩ = some (.int .i64 a1_0) := (blk_cell BK219.out 0).trans rfl; have hcz26_1 : wc.cell? ⟨gb219, 1, none⟩ = some (.int .i64 a1_1) := (blk_cell BK219.out 1).trans rfl; have hcz26_2 : wc.cell? ⟨gb219, 2, none⟩ = some (.int .i64 a1_2) := (blk_cell BK219.out 2).trans rfl; have hcz26_3 : wc.cell? ⟨gb219, 3, none⟩ = some (.int .i64 a1_3) := (blk_cell BK219.out 3).trans rfl; have hcz26_4 : wc.cell? ⟨gb219, 4, none⟩ = some (.int .i64 a1_4) := (blk_cell BK219.out 4).trans rfl; have hcz26_5 : wc.cell? ⟨gb219, 5, none⟩ = some (.int .i64 a1_5) := (blk_cell BK219.out 5).trans rfl; have hfz26_0 := blk_frozen BK219.out 0; have hfz26_1 := blk_frozen BK219.out 1; have hfz26_2 := blk_frozen BK219.out 2; have hfz26_3 := blk_frozen BK219.out 3; have hfz26_4 := blk_frozen BK219.out 4; have hfz26_5 := blk_frozen BK219.out 5; have hcz27_0 : wc.cell? ⟨gb218, 0, none⟩ = some (.slice A0_0 l0_0.length c0_0) := (blk_cell BK218.out 0).trans rfl; have hcz27_1 : wc.cell? ⟨gb218, 1, none⟩ = some (.slice A0_1 l0_1.length c0_1) := (blk_cell BK218.out 1).trans rfl; have hcz27_2 : wc.cell? ⟨gb218, 2, none⟩ = some (.slice A0_2 l0_2.length c0_2) := (blk_cell BK218.out 2).trans rfl; have hcz27_3 : wc.cell? ⟨gb218, 3, none⟩ = some (.int .i64 a0_3) := (blk_cell BK218.out 3).trans rfl; have hcz27_4 : wc.cell? ⟨gb218, 4, none⟩ = some (.int .i64 a0_4) := (blk_cell BK218.out 4).trans rfl; have hcz27_5 : wc.cell? ⟨gb218, 5, none⟩ = some (.int .i64 a0_5) := (blk_cell BK218.out 5).trans rfl; have hcz27_6 : wc.cell? ⟨gb218, 6, none⟩ = some (.int .i64 a0_6) := (blk_cell BK218.out 6).trans rfl; have hcz27_7 : wc.cell? ⟨gb218, 7, none⟩ = some (.int .i64 a0_7) := (blk_cell BK218.out 7).trans rfl; have hcz27_8 : wc.cell? ⟨gb218, 8, none⟩ = some (.int .i64 a0_8) := (blk_cell BK218.out 8).trans rfl; have hfz27_0 := blk_frozen BK218.out 0; have hfz27_1 := blk_frozen BK218.out 1; have hfz27_2 := blk_frozen BK218.out 2; have hfz27_3 := blk_frozen BK218.out 3; have hfz27_4 := blk_frozen BK218.out 4; have hfz27_5 := blk_frozen BK218.out 5; have hfz27_6 := blk_frozen BK218.out 6; have hfz27_7 := blk_frozen BK218.out 7; have hfz27_8 := blk_frozen BK218.out 8
    go_wp2
    repeat (go_quiet (fail); try go_wp2)
    go_ret
    exact ⟨by first | rfl | (simp [errW_none, errW_some] <;> rfl) | (simp [*, errW_none, errW_some] <;> rfl), by repeat (first | (with_reducible first | exact HB.out | apply below_alloc | apply pw_below_drewN | apply below_drew1 | refine below_set ?_ GE218.out | refine below_set ?_ GE219.out) | exact HB.out)⟩
   rw [if_neg c19] at H
   have c19b0 : (a1_0 == 1) = false := beq_eq_false_iff_ne.mpr c19
   have c19b1 : (a1_0 != 1) = true := bne_iff_ne.mpr c19
   by_cases c28 : a1_0 = 3
   ·
    rw [if_pos c28] at H
    have c28b0 : (a1_0 == 3) = true := beq_iff_eq.mpr c28
    have c28b1 : (a1_0 != 3) = false := bne_eq_false_iff_eq.mpr c28
    clear c28
    by_cases c29 : a1_3 < (l0_0.length : Int)
    ·
     rw [if_pos c29] at H
     have c29b0 : decide (a1_3 < (l0_0.length : Int)) = true := decide_eq_true c29
     clear c29
     obtain rfl := Option.some.inj H
     have hnb30 := NB219_218.out
     have hnc30 := NB218_219.out
     have hcz31_0 : wc.cell? ⟨gb219, 0, none⟩ = some (.int .i64 a1_0) := (blk_cell BK219.out 0).trans rfl; have hcz31_1 : wc.cell? ⟨gb219, 1, none⟩ = some (.int .i64 a1_1) := (blk_cell BK219.out 1).trans rfl; have hcz31_2 : wc.cell? ⟨gb219, 2, none⟩ = some (.int .i64 a1_2) := (blk_cell BK219.out 2).trans rfl; have hcz31_3 : wc.cell? ⟨gb219, 3, none⟩ = some (.int .i64 a1_3) := (blk_cell BK219.out 3).trans rfl; have hcz31_4 : wc.cell? ⟨gb219, 4, none⟩ = some (.int .i64 a1_4) := (blk_cell BK219.out 4).trans rfl; have hcz31_5 : wc.cell? ⟨gb219, 5, none⟩ = some (.int .i64 a1_5) := (blk_cell BK219.out 5).trans rfl; have hfz31_0 := blk_frozen BK219.out 0; have hfz31_1 := blk_frozen BK219.out 1; have hfz31_2 := blk_frozen BK219.out 2; have hfz31_3 := blk_frozen BK219.out 3; have hfz31_4 := blk_frozen BK219.out 4; have hfz31_5 := blk_frozen BK219.out 5; have hcz32_0 : wc.cell? ⟨gb218, 0, none⟩ = some (.slice A0_0 l0_0.length c0_0) := (blk_cell BK218.out 0).trans rfl; have hcz32_1 : wc.cell? ⟨gb218, 1, none⟩ = some (.slice A0_1 l0_1.length c0_1) := (blk_cell BK218.out 1).trans rfl; have hcz32_2 : wc.cell? ⟨gb218, 2, none⟩ = some (.slice A0_2 l0_2.length c0_2) := (blk_cell BK218.out 2).trans rfl; have hcz32_3 : wc.cell? ⟨gb218, 3, none⟩ = some (.int .i64 a0_3) := (blk_cell BK218.out 3).trans rfl; have hcz32_4 : wc.cell? ⟨gb218, 4, none⟩ = some (.int .i64 a0_4) := (blk_cell BK218.out 4).trans rfl; have hcz32_5 : wc.cell? ⟨gb218, 5, none⟩ = some (.int .i64 a0_5) := (blk_cell BK218.out 5).trans rfl; have hcz32_6 : wc.cell? ⟨gb218, 6, none⟩ = some (.int .i64 a0_6) := (blk_cell BK218.out 6).trans rfl; have hcz32_7 : wc.cell? ⟨gb218, 7, none⟩ = some (.int .i64 a0_7) := (blk_cell BK218.out 7).trans rfl; have hcz32_8 : wc.cell? ⟨gb218, 8, none⟩ = some (.int .i64 a0_8) := (blk_cell BK218.out 8).trans rfl; have hfz32_0 := blk_frozen BK218.out 0; have hfz32_1 := blk_frozen BK218.out 1; have hfz32_2 := blk_frozen BK218.out 2; have hfz32_3 := blk_frozen BK218.out 3; have hfz32_4 := blk_frozen BK218.out 4; have hfz32_5 := blk_frozen BK218.out 5; have hfz32_6 := blk_frozen BK218.out 6; have hfz32_7 := blk_frozen BK218.out 7; have hfz32_8 := blk_frozen BK218.out 8
     go_wp2
     repeat (go_quiet (fail); try go_wp2)
     go_ret
     exact ⟨by first | rfl | (simp [errW_none, errW_some] <;> rfl) | (simp [*, errW_none, errW_some] <;> rfl), by repeat (first | (with_reducible first | exact HB.out | apply below_alloc | apply pw_below_drewN | apply below_drew1 | refine below_set ?_ GE218.out | refine below_set ?_ GE219.out) | exact HB.out)⟩
    rw [if_neg c29] at H
    have c29b0 : decide (a1_3 < (l0_0.length : Int)) = false := decide_eq_false c29
    clear c29
    obtain rfl := Option.some.inj H
    have hnb33 := NB219_218.out
    have hnc33 := NB218_219.out
    have hcz34_0 : wc.cell? ⟨gb219, 0, none⟩ = some (.int .i64 a1_0) := (blk_cell BK219.out 0).trans rfl; have hcz34_1 : wc.cell? ⟨gb219, 1, none⟩ = some (.int .i64 a1_1) := (blk_cell BK219.out 1).trans rfl; have hcz34_2 : wc.cell? ⟨gb219, 2, none⟩ = some (.int .i64 a1_2) := (blk_cell BK219.out 2).trans rfl; have hcz34_3 : wc.cell? ⟨gb219, 3, none⟩ = some (.int .i64 a1_3) := (blk_cell BK219.out 3).trans rfl; have hcz34_4 : wc.cell? ⟨gb219, 4, none⟩ = some (.int .i64 a1_4) := (blk_cell BK219.out 4).trans rfl; have hcz34_5 : wc.cell? ⟨gb219, 5, none⟩ = some (.int .i64 a1_5) := (blk_cell BK219.out 5).trans rfl; have hfz34_0 := blk_frozen BK219.out 0; have hfz34_1 := blk_frozen BK219.out 1; have hfz34_2 := blk_frozen BK219.out 2; have hfz34_3 := blk_frozen BK219.out 3; have hfz34_4 := blk_frozen BK219.out 4; have hfz34_5 := blk_frozen BK219.out 5; have hcz35_0 : wc.cell? ⟨gb218, 0, none⟩ = some (.slice A0_0 l0_0.length c0_0) := (blk_cell BK218.out 0).trans rfl; have hcz35_1 : wc.cell? ⟨gb218, 1, none⟩ = some (.slice A0_1 l0_1.length c0_1) := (blk_cell BK218.out 1).trans rfl; have hcz35_2 : wc.cell? ⟨gb218, 2, none⟩ = some (.slice A0_2 l0_2.length c0_2) := (blk_cell BK218.out 2).trans rfl; have hcz35_3 : wc.cell? ⟨gb218, 3, none⟩ = some (.int .i64 a0_3) := (blk_cell BK218.out 3).trans rfl; have hcz35_4 : wc.cell? ⟨gb218, 4, none⟩ = some (.int .i64 a0_4) := (blk_cell BK218.out 4).trans rfl; have hcz35_5 : wc.cell? ⟨gb218, 5, none⟩ = some (.int .i64 a0_5) := (blk_cell BK218.out 5).trans rfl; have hcz35_6 : wc.cell? ⟨gb218, 6, none⟩ = some (.int .i64 a0_6) := (blk_cell BK218.out 6).trans rfl; have hcz35_7 : wc.cell? ⟨gb218, 7, none⟩ = some (.int .i64 a0_7) := (blk_cell BK218.out 7).trans rfl; have hcz35_8 : wc.cell? ⟨gb218, 8, none⟩ = some (.int .i64 a0_8) := (blk_cell BK218.out 8).trans rfl; have hfz35_0 := blk_frozen BK218.out 0; have hfz35_1 := blk_frozen BK218.out 1; have hfz35_2 := blk_frozen BK218.out 2; have hfz35_3 := blk_frozen BK218.out 3; have hfz35_4 := blk_frozen BK218.out 4; have hfz35_5 := blk_frozen BK218.out 5; have hfz35_6 := blk_frozen BK218.out 6; have hfz35_7 := blk_frozen BK218.out 7; have hfz35_8 := blk_frozen BK218.out 8
    go_wp2
    repeat (go_quiet (fail); try go_wp2)
    go_ret
    exact ⟨by first | rfl | (simp [errW_none, errW_some] <;> rfl) | (simp [*, errW_none, errW_some] <;> rfl), by repeat (first | (with_reducible first | exact HB.out | apply below_alloc | apply pw_below_drewN | apply below_drew1 | refine below_set ?_ GE218.out | refine below_set ?_ GE219.out) | exact HB.out)⟩
   rw [if_neg c28] at H
   have c28b0 : (a1_0 == 3) = false := beq_eq_false_iff_ne.mpr c28
   have c28b1 : (a1_0 != 3) = true := bne_iff_ne.mpr c28
   by_cases c36 : a1_3 ≥ (l0_1.length : Int)
   ·
    rw [if_pos c36] at H
    have c36b0 : decide ((l0_1.length : Int) ≤ a1_3) = true := decide_eq_true c36
    clear c36
    obtain rfl := Option.some.inj H
    have hnb37 := NB219_218.out
    have hnc37 := NB218_219.out
    have hcz38_0 : wc.cell? ⟨gb219, 0, none⟩ = some (.int .i64 a1_0) := (blk_cell BK219.out 0).trans rfl; have hcz38_1 : wc.cell? ⟨gb219, 1, none⟩ = some (.int .i64 a1_1) := (blk_cell BK219.out 1).trans rfl; have hcz38_2 : wc.cell? ⟨gb219, 2, none⟩ = some (.int .i64 a1_2) := (blk_cell BK219.out 2).trans rfl; have hcz38_3 : wc.cell? ⟨gb219, 3, none⟩ = some (.int .i64 a1_3) := (blk_cell BK219.out 3).trans rfl; have hcz38_4 : wc.cell? ⟨gb219, 4, none⟩ = some (.int .i64 a1_4) := (blk_cell BK219.out 4).trans rfl; have hcz38_5 : wc.cell? ⟨gb219, 5, none⟩ = some (.int .i64 a1_5) := (blk_cell BK219.out 5).trans rfl; have hfz38_0 := blk_frozen BK219.out 0; have hfz38_1 := blk_frozen BK219.out 1; have hfz38_2 := blk_frozen BK219.out 2; have hfz38_3 := blk_frozen BK219.out 3; have hfz38_4 := blk_frozen BK219.out 4; have hfz38_5 := blk_frozen BK219.out 5; have hcz39_0 : wc.cell? ⟨gb218, 0, none⟩ = some (.slice A0_0 l0_0.length c0_0) := (blk_cell BK218.out 0).trans rfl; have hcz39_1 : wc.cell? ⟨gb218, 1, none⟩ = some (.slice A0_1 l0_1.length c0_1) := (blk_cell BK218.out 1).trans rfl; have hcz39_2 : wc.cell? ⟨gb218, 2, none⟩ = some (.slice A0_2 l0_2.length c0_2) := (blk_cell BK218.out 2).trans rfl; have hcz39_3 : wc.cell? ⟨gb218, 3, none⟩ = some (.int .i64 a0_3) := (blk_cell BK218.out 3).trans rfl; have hcz39_4 : wc.cell? ⟨gb218, 4, none⟩ = some (.int .i64 a0_4) := (blk_cell BK218.out 4).trans rfl; have hcz39_5 : wc.cell? ⟨gb218, 5, none⟩ = some (.int .i64 a0_5) := (blk_cell BK218.out 5).trans rfl; have hcz39_6 : wc.cell? ⟨gb218, 6, none⟩ = some (.int .i64 a0_6) := (blk_cell BK218.out 6).trans rfl; have hcz39_7 : wc.cell? ⟨gb218, 7, none⟩ = some (.int .i64 a0_7) := (blk_cell BK218.out 7).trans rfl; have hcz39_8 : wc.cell? ⟨gb218, 8, none⟩ = some (.int .i64 a0_8) := (blk_cell BK218.out 8).trans rfl; have hfz39_0 := blk_frozen BK218.out 0; have hfz39_1 := blk_frozen BK218.out 1; have hfz39_2 := blk_frozen BK218.out 2; have hfz39_3 := blk_frozen BK218.out 3; have hfz39_4 := blk_frozen BK218.out 4; have hfz39_5 := blk_frozen BK218.out 5; have hfz39_6 := blk_frozen BK218.out 6; have hfz39_7 := blk_frozen BK218.out 7; have hfz39_8 := blk_frozen BK218.out 8
    go_wp2
    repeat (go_quiet (fail); try go_wp2)
    go_ret
    exact ⟨by first | rfl | (simp [errW_none, errW_some] <;> rfl) | (simp [*, errW_none, errW_some] <;> rfl), by repeat (first | (with_reducible first | exact HB.out | apply below_alloc | apply pw_below_drewN | apply below_drew1 | refine below_set ?_ GE218.out | refine below_set ?_ GE219.out) | exact HB.out)⟩
   rw [if_neg c36] at H
   have c36b0 : decide ((l0_1.length : Int) ≤ a1_3) = false := decide_eq_false c36
   clear c36
   by_cases c40 : a1_0 = 5
   ·
    rw [if_pos c40] at H
    have c40b0 : (a1_0 == 5) = true := beq_iff_eq.mpr c40
    have c40b1 : (a1_0 != 5) = false := bne_eq_false_iff_eq.mpr c40
    clear c40
    obtain rfl := Option.some.inj H
    have hnb41 := NB219_218.out
    have hnc41 := NB218_219.out
    have hcz42_0 : wc.cell? ⟨gb219, 0, none⟩ = some (.int .i64 a1_0) := (blk_cell BK219.out 0).trans rfl; have hcz42_1 : wc.cell? ⟨gb219, 1, none⟩ = some (.int .i64 a1_1) := (blk_cell BK219.out 1).trans rfl; have hcz42_2 : wc.cell? ⟨gb219, 2, none⟩ = some (.int .i64 a1_2) := (blk_cell BK219.out 2).trans rfl; have hcz42_3 : wc.cell? ⟨gb219, 3, none⟩ = some (.int .i64 a1_3) := (blk_cell BK219.out 3).trans rfl; have hcz42_4 : wc.cell? ⟨gb219, 4, none⟩ = some (.int .i64 a1_4) := (blk_cell BK219.out 4).trans rfl; have hcz42_5 : wc.cell? ⟨gb219, 5, none⟩ = some (.int .i64 a1_5) := (blk_cell BK219.out 5).trans rfl; have hfz42_0 := blk_frozen BK219.out 0; have hfz42_1 := blk_frozen BK219.out 1; have hfz42_2 := blk_frozen BK219.out 2; have hfz42_3 := blk_frozen BK219.out 3; have hfz42_4 := blk_frozen BK219.out 4; have hfz42_5 := blk_frozen BK219.out 5; have hcz43_0 : wc.cell? ⟨gb218, 0, none⟩ = some (.slice A0_0 l0_0.length c0_0) := (blk_cell BK218.out 0).trans rfl; have hcz43_1 : wc.cell? ⟨gb218, 1, none⟩ = some (.slice A0_1 l0_1.length c0_1) := (blk_cell BK218.out 1).trans rfl; have hcz43_2 : wc.cell? ⟨gb218, 2, none⟩ = some (.slice A0_2 l0_2.length c0_2) := (blk_cell BK218.out 2).trans rfl; have hcz43_3 : wc.cell? ⟨gb218, 3, none⟩ = some (.int .i64 a0_3) := (blk_cell BK218.out 3).trans rfl; have hcz43_4 : wc.cell? ⟨gb218, 4, none⟩ = some (.int .i64 a0_4) := (blk_cell BK218.out 4).trans rfl; have hcz43_5 : wc.cell? ⟨gb218, 5, none⟩ = some (.int .i64 a0_5) := (blk_cell BK218.out 5).trans rfl; have hcz43_6 : wc.cell? ⟨gb218, 6, none⟩ = some (.int .i64 a0_6) := (blk_cell BK218.out 6).trans rfl; have hcz43_7 : wc.cell? ⟨gb218, 7, none⟩ = some (.int .i64 a0_7) := (blk_cell BK218.out 7).trans rfl; have hcz43_8 : wc.cell? ⟨gb218, 8, none⟩ = some (.int .i64 a0_8) := (blk_cell BK218.out 8).trans rfl; have hfz43_0 := blk_frozen BK218.out 0; have hfz43_1 := blk_frozen BK218.out 1; have hfz43_2 := blk_frozen BK218.out 2; have hfz43_3 := blk_frozen BK218.out 3; have hfz43_4 := blk_frozen BK218.out 4; have hfz43_5 := blk_frozen BK218.out 5; have hfz43_6 := blk_frozen BK218.out 6; have hfz43_7 := blk_frozen BK218.out 7; have hfz43_8 := blk_frozen BK218.out 8
    go_wp2
    repeat (go_quiet (fail); try go_wp2)
    go_ret
    exact ⟨by first | rfl | (simp [errW_none, errW_some] <;> rfl) | (simp [*, errW_none, errW_some] <;> rfl), by repeat (first | (with_reducible first | exact HB.out | apply below_alloc | apply pw_below_drewN | apply below_drew1 | refine below_set ?_ GE218.out | refine below_set ?_ GE219.out) | exact HB.out)⟩
   rw [if_neg c40] at H
   have c40b0 : (a1_0 == 5) = false := beq_eq_false_iff_ne.mpr c40
   have c40b1 : (a1_0 != 5) = true := bne_iff_ne.mpr c40
   by_cases c44 : a1_0 = 4
   ·
    rw [if_pos c44] at H
    have c44b0 : (a1_0 == 4) = true := beq_iff_eq.mpr c44
    have c44b1 : (a1_0 != 4) = false := bne_eq_false_iff_eq.mpr c44
    clear c44
    by_cases c45 : 0 ≤ a1_3
    ·
     rw [if_pos c45] at H
     have c45b0 : decide (0 ≤ a1_3) = true := decide_eq_true c45
     clear c45
     by_cases c46 : a1_3 < (l0_1.length : Int)
     ·
      rw [if_pos c46] at H
      have c46b0 : decide (a1_3 < (l0_1.length : Int)) = true := decide_eq_true c46
      clear c46
      by_cases c47 : a1_2 = ((rd_T48 l0_1 a1_3).f1)
      ·
       rw [if_pos c47] at H
       have c47b0 : (a1_2 == ((rd_T48 l0_1 a1_3).f1)) = true := beq_iff_eq.mpr c47
       have c47b1 : (a1_2 != ((rd_T48 l0_1 a1_3).f1)) = false := bne_eq_false_iff_eq.mpr c47
       clear c47
       obtain rfl := Option.some.inj H
       have hnb48 := NB219_218.out
       have hnc48 := NB218_219.out
       have hcz49_0 : wc.cell? ⟨gb219, 0, none⟩ = some (.int .i64 a1_0) := (blk_cell BK219.out 0).trans rfl; have hcz49_1 : wc.cell? ⟨gb219, 1, none⟩ = some (.int .i64 a1_1) := (blk_cell BK219.out 1).trans rfl; have hcz49_2 : wc.cell? ⟨gb219, 2, none⟩ = some (.int .i64 a1_2) := (blk_cell BK219.out 2).trans rfl; have hcz49_3 : wc.cell? ⟨gb219, 3, none⟩ = some (.int .i64 a1_3) := (blk_cell BK219.out 3).trans rfl; have hcz49_4 : wc.cell? ⟨gb219, 4, none⟩ = some (.int .i64 a1_4) := (blk_cell BK219.out 4).trans rfl; have hcz49_5 : wc.cell? ⟨gb219, 5, none⟩ = some (.int .i64 a1_5) := (blk_cell BK219.out 5).trans rfl; have hfz49_0 := blk_frozen BK219.out 0; have hfz49_1 := blk_frozen BK219.out 1; have hfz49_2 := blk_frozen BK219.out 2; have hfz49_3 := blk_frozen BK219.out 3; have hfz49_4 := blk_frozen BK219.out 4; have hfz49_5 := blk_frozen BK219.out 5; have hcz50_0 : wc.cell? ⟨gb218, 0, none⟩ = some (.slice A0_0 l0_0.length c0_0) := (blk_cell BK218.out 0).trans rfl; have hcz50_1 : wc.cell? ⟨gb218, 1, none⟩ = some (.slice A0_1 l0_1.length c0_1) := (blk_cell BK218.out 1).trans rfl; have hcz50_2 : wc.cell? ⟨gb218, 2, none⟩ = some (.slice A0_2 l0_2.length c0_2) := (blk_cell BK218.out 2).trans rfl; have hcz50_3 : wc.cell? ⟨gb218, 3, none⟩ = some (.int .i64 a0_3) := (blk_cell BK218.out 3).trans rfl; have hcz50_4 : wc.cell? ⟨gb218, 4, none⟩ = some (.int .i64 a0_4) := (blk_cell BK218.out 4).trans rfl; have hcz50_5 : wc.cell? ⟨gb218, 5, none⟩ = some (.int .i64 a0_5) := (blk_cell BK218.out 5).trans rfl; have hcz50_6 : wc.cell? ⟨gb218, 6, none⟩ = some (.int .i64 a0_6) := (blk_cell BK218.out 6).trans rfl; have hcz50_7 : wc.cell? ⟨gb218, 7, none⟩ = some (.int .i64 a0_7) := (blk_cell BK218.out 7).trans rfl; have hcz50_8 : wc.cell? ⟨gb218, 8, none⟩ = some (.int .i64 a0_8) := (blk_cell BK218.out 8).trans rfl; have hfz50_0 := blk_frozen BK218.out 0; have hfz50_1 := blk_frozen BK218.out 1; have hfz50_2 := blk_frozen BK218.out 2; have hfz50_3 := blk_frozen BK218.out 3; have hfz50_4 := blk_frozen BK218.out 4; have hfz50_5 := blk_frozen BK218.out 5; have hfz50_6 := blk_frozen BK218.out 6; have hfz50_7 := blk_frozen BK218.out 7; have hfz50_8 := blk_frozen BK218.out 8
       have p221 : 0 ≤ (a1_3 : Int) := of_decide_eq_true (by first | (with_reducible assumption) | assumption)
       have q221 : a1_3 < (l0_1.length : Int) := of_decide_eq_true (by first | (with_reducible assumption) | assumption)
       obtain ⟨ad221, e221, hx221_0, hx221_1, hx221_2, hx221_3, hx221_4, hx221_5⟩ := at_T48 HR0_1.out a1_3 p221 q221
       cases e221
       replace hx221_0 := (HB.out.cell (World.block_lt_of_cell? w _ hx221_0)).trans hx221_0
       replace hx221_1 := (HB.out.cell (World.block_lt_of_cell? w _ hx221_1)).trans hx221_1
       replace hx221_2 := (HB.out.cell (World.block_lt_of_cell? w _ hx221_2)).trans hx221_2
       replace hx221_3 := (HB.out.cell (World.block_lt_of_cell? w _ hx221_3)).trans hx221_3
       replace hx221_4 := (HB.out.cell (World.block_lt_of_cell? w _ hx221_4)).trans hx221_4
       replace hx221_5 := (HB.out.cell (World.block_lt_of_cell? w _ hx221_5)).trans hx221_5
       replace p221 := eq_true p221
       replace q221 := eq_true q221
       go_wp2
       repeat (go_quiet (fail); try go_wp2)
       go_ret
       exact ⟨by first | rfl | (simp [errW_none, errW_some] <;> rfl) | (simp [*, errW_none, errW_some] <;> rfl), by repeat (first | (with_reducible first | exact HB.out | apply below_alloc | apply pw_below_drewN | apply below_drew1 | refine below_set ?_ GE218.out | refine below_set ?_ GE219.out) | exact HB.out)⟩
      rw [if_neg c47] at H
      have c47b0 : (a1_2 == ((rd_T48 l0_1 a1_3).f1)) = false := beq_eq_false_iff_ne.mpr c47
      have c47b1 : (a1_2 != ((rd_T48 l0_1 a1_3).f1)) = true := bne_iff_ne.mpr c47
      by_cases c51 : a1_0 = 6
      ·
       rw [if_pos c51] at H
       have c51b0 : (a1_0 == 6) = true := beq_iff_eq.mpr c51
       have c51b1 : (a1_0 != 6) = false := bne_eq_false_iff_eq.mpr c51
       clear c51
       obtain rfl := Option.some.inj H
       have hnb52 := NB219_218.out
       have hnc52 := NB218_219.out
       have hcz53_0 : wc.cell? ⟨gb219, 0, none⟩ = some (.int .i64 a1_0) := (blk_cell BK219.out 0).trans rfl; have hcz53_1 : wc.cell? ⟨gb219, 1, none⟩ = some (.int .i64 a1_1) := (blk_cell BK219.out 1).trans rfl; have hcz53_2 : wc.cell? ⟨gb219, 2, none⟩ = some (.int .i64 a1_2) := (blk_cell BK219.out 2).trans rfl; have hcz53_3 : wc.cell? ⟨gb219, 3, none⟩ = some (.int .i64 a1_3) := (blk_cell BK219.out 3).trans rfl; have hcz53_4 : wc.cell? ⟨gb219, 4, none⟩ = some (.int .i64 a1_4) := (blk_cell BK219.out 4).trans rfl; have hcz53_5 : wc.cell? ⟨gb219, 5, none⟩ = some (.int .i64 a1_5) := (blk_cell BK219.out 5).trans rfl; have hfz53_0 := blk_frozen BK219.out 0; have hfz53_1 := blk_frozen BK219.out 1; have hfz53_2 := blk_frozen BK219.out 2; have hfz53_3 := blk_frozen BK219.out 3; have hfz53_4 := blk_frozen BK219.out 4; have hfz53_5 := blk_frozen BK219.out 5; have hcz54_0 : wc.cell? ⟨gb218, 0, none⟩ = some (.slice A0_0 l0_0.length c0_0) := (blk_cell BK218.out 0).trans rfl; have hcz54_1 : wc.cell? ⟨gb218, 1, none⟩ = some (.slice A0_1 l0_1.length c0_1) := (blk_cell BK218.out 1).trans rfl; have hcz54_2 : wc.cell? ⟨gb218, 2, none⟩ = some (.slice A0_2 l0_2.length c0_2) := (blk_cell BK218.out 2).trans rfl; have hcz54_3 : wc.cell? ⟨gb218, 3, none⟩ = some (.int .i64 a0_3) := (blk_cell BK218.out 3).trans rfl; have hcz54_4 : wc.cell? ⟨gb218, 4, none⟩ = some (.int .i64 a0_4) := (blk_cell BK218.out 4).trans rfl; have hcz54_5 : wc.cell? ⟨gb218, 5, none⟩ = some (.int .i64 a0_5) := (blk_cell BK218.out 5).trans rfl; have hcz54_6 : wc.cell? ⟨gb218, 6, none⟩ = some (.int .i64 a0_6) := (blk_cell BK218.out 6).trans rfl; have hcz54_7 : wc.cell? ⟨gb218, 7, none⟩ = some (.int .i64 a0_7) := (blk_cell BK218.out 7).trans rfl; have hcz54_8 : wc.cell? ⟨gb218, 8, none⟩ = some (.int .i64 a0_8) := (blk_cell BK218.out 8).trans rfl; have hfz54_0 := blk_frozen BK218.out 0; have hfz54_1 := blk_frozen BK218.out 1; have hfz54_2 := blk_frozen BK218.out 2; have hfz54_3 := blk_frozen BK218.out 3; have hfz54_4 := blk_frozen BK218.out 4; have hfz54_5 := blk_frozen BK218.out 5; have hfz54_6 := blk_frozen BK218.out 6; have hfz54_7 := blk_frozen BK218.out 7; have hfz54_8 := blk_frozen BK218.out 8
       have p221 : 0 ≤ (a1_3 : Int) := of_decide_eq_true (by first | (with_reducible assumption) | assumption)
       have q221 : a1_3 < (l0_1.length : Int) := of_decide_eq_true (by first | (with_reducible assumption) | assumption)
       obtain ⟨ad221, e221, hx221_0, hx221_1, hx221_2, hx221_3, hx221_4, hx221_5⟩ := at_T48 HR0_1.out a1_3 p221 q221
       cases e221
       replace hx221_0 := (HB.out.cell (World.block_lt_of_cell? w _ hx221_0)).trans hx221_0
       replace hx221_1 := (HB.out.cell (World.block_lt_of_cell? w _ hx221_1)).trans hx221_1
       replace hx221_2 := (HB.out.cell (World.block_lt_of_cell? w _ hx221_2)).trans hx221_2
       replace hx221_3 := (HB.out.cell (World.block_lt_of_cell? w _ hx221_3)).trans hx221_3
       replace hx221_4 := (HB.out.cell (World.block_lt_of_cell? w _ hx221_4)).trans hx221_4
       replace hx221_5 := (HB.out.cell (World.block_lt_of_cell? w _ hx221_5)).trans hx221_5
       replace p221 := eq_true p221
       replace q221 := eq_true q221
       have p222 : 0 ≤ (a1_3 : Int) := of_decide_eq_true (by first | (with_reducible assumption) | assumption)
       have q222 : a1_3 < (l0_1.length : Int) := of_decide_eq_true (by first | (with_reducible assumption) | assumption)
       obtain ⟨ad222, e222, hx222_0, hx222_1, hx222_2, hx222_3, hx222_4, hx222_5⟩ := at_T48 HR0_1.out a1_3 p222 q222
       obtain rfl : ad221 = ad222 := (by injection e222)
       replace hx222_0 := (HB.out.cell (World.block_lt_of_cell? w _ hx222_0)).trans hx222_0
       replace hx222_1 := (HB.out.cell (World.block_lt_of_cell? w _ hx222_1)).trans hx222_1
       replace hx222_2 := (HB.out.cell (World.block_lt_of_cell? w _ hx222_2)).trans hx222_2
       replace hx222_3 := (HB.out.cell (World.block_lt_of_cell? w _ hx222_3)).trans hx222_3
       replace hx222_4 := (HB.out.cell (World.block_lt_of_cell? w _ hx222_4)).trans hx222_4
       replace hx222_5 := (HB.out.cell (World.block_lt_of_cell? w _ hx222_5)).trans hx222_5
       replace p222 := eq_true p222
       replace q222 := eq_true q222
       go_wp2
       repeat (go_quiet (fail); try go_wp2)
       go_ret
       exact ⟨by first | rfl | (simp [errW_none, errW_some] <;> rfl) | (simp [*, errW_none, errW_some] <;> rfl), by repeat (first | (with_reducible first | exact HB.out | apply below_alloc | apply pw_below_drewN | apply below_drew1 | refine below_set ?_ GE218.out | refine below_set ?_ GE219.out) | exact HB.out)⟩
      rw [if_neg c51] at H
      have c51b0 : (a1_0 == 6) = false := beq_eq_false_iff_ne.mpr c51
      have c51b1 : (a1_0 != 6) = true := bne_iff_ne.mpr c51
      obtain rfl := Option.some.inj H
      have hnb55 := NB219_218.out
      have hnc55 := NB218_219.out
      have hcz56_0 : wc.cell? ⟨gb219, 0, none⟩ = some (.int .i64 a1_0) := (blk_cell BK219.out 0).trans rfl; have hcz56_1 : wc.cell? ⟨gb219, 1, none⟩ = some (.int .i64 a1_1) := (blk_cell BK219.out 1).trans rfl; have hcz56_2 : wc.cell? ⟨gb219, 2, none⟩ = some (.int .i64 a1_2) := (blk_cell BK219.out 2).trans rfl; have hcz56_3 : wc.cell? ⟨gb219, 3, none⟩ = some (.int .i64 a1_3) := (blk_cell BK219.out 3).trans rfl; have hcz56_4 : wc.cell? ⟨gb219, 4, none⟩ = some (.int .i64 a1_4) := (blk_cell BK219.out 4).trans rfl; have hcz56_5 : wc.cell? ⟨gb219, 5, none⟩ = some (.int .i64 a1_5) := (blk_cell BK219.out 5).trans rfl; have hfz56_0 := blk_frozen BK219.out 0; have hfz56_1 := blk_frozen BK219.out 1; have hfz56_2 := blk_frozen BK219.out 2; have hfz56_3 := blk_frozen BK219.out 3; have hfz56_4 := blk_frozen BK219.out 4; have hfz56_5 := blk_frozen BK219.out 5; have hcz57_0 : wc.cell? ⟨gb218, 0, none⟩ = some (.slice A0_0 l0_0.length c0_0) := (blk_cell BK218.out 0).trans rfl; have hcz57_1 : wc.cell? ⟨gb218, 1, none⟩ = some (.slice A0_1 l0_1.length c0_1) := (blk_cell BK218.out 1).trans rfl; have hcz57_2 : wc.cell? ⟨gb218, 2, none⟩ = some (.slice A0_2 l0_2.length c0_2) := (blk_cell BK218.out 2).trans rfl; have hcz57_3 : wc.cell? ⟨gb218, 3, none⟩ = some (.int .i64 a0_3) := (blk_cell BK218.out 3).trans rfl; have hcz57_4 : wc.cell? ⟨gb218, 4, none⟩ = some (.int .i64 a0_4) := (blk_cell BK218.out 4).trans rfl; have hcz57_5 : wc.cell? ⟨gb218, 5, none⟩ = some (.int .i64 a0_5) := (blk_cell BK218.out 5).trans rfl; have hcz57_6 : wc.cell? ⟨gb218, 6, none⟩ = some (.int .i64 a0_6) := (blk_cell BK218.out 6).trans rfl; have hcz57_7 : wc.cell? ⟨gb218, 7, none⟩ = some (.int .i64 a0_7) := (blk_cell BK218.out 7).trans rfl; have hcz57_8 : wc.cell? ⟨gb218, 8, none⟩ = some (.int .i64 a0_8) := (blk_cell BK218.out 8).trans rfl; have hfz57_0 := blk_frozen BK218.out 0; have hfz57_1 := blk_frozen BK218.out 1; have hfz57_2 := blk_frozen BK218.out 2; have hfz57_3 := blk_frozen BK218.out 3; have hfz57_4 := blk_frozen BK218.out 4; have hfz57_5 := blk_frozen BK218.out 5; have hfz57_6 := blk_frozen BK218.out 6; have hfz57_7 := blk_frozen BK218.out 7; have hfz57_8 := blk_frozen BK218.out 8
      have p221 : 0 ≤ (a1_3 : Int) := of_decide_eq_true (by first | (with_reducible assumption) | assumption)
      have q221 : a1_3 < (l0_1.length : Int) := of_decide_eq_true (by first | (with_reducible assumption) | assumption)
      obtain ⟨ad221, e221, hx221_0, hx221_1, hx221_2, hx221_3, hx221_4, hx221_5⟩ := at_T48 HR0_1.out a1_3 p221 q221
      cases e221
      replace hx221_0 := (HB.out.cell (World.block_lt_of_cell? w _ hx221_0)).trans hx221_0
      replace hx221_1 := (HB.out.cell (World.block_lt_of_cell? w _ hx221_1)).trans hx221_1
      replace hx221_2 := (HB.out.cell (World.block_lt_of_cell? w _ hx221_2)).trans hx221_2
      replace hx221_3 := (HB.out.cell (World.block_lt_of_cell? w _ hx221_3)).trans hx221_3
      replace hx221_4 := (HB.out.cell (World.block_lt_of_cell? w _ hx221_4)).trans hx221_4
      replace hx221_5 := (HB.out.cell (World.block_lt_of_cell? w _ hx221_5)).trans hx221_5
      replace p221 := eq_true p221
      replace q221 := eq_true q221
      go_wp2
      repeat (go_quiet (fail); try go_wp2)
      go_ret
      exact ⟨by first | rfl | (simp [errW_none, errW_some] <;> rfl) | (simp [*, errW_none, errW_some] <;> rfl), by repeat (first | (with_reducible first | exact HB.out | apply below_alloc | apply pw_below_drewN | apply below_drew1 | refine below_set ?_ GE218.out | refine below_set ?_ GE219.out) | exact HB.out)⟩
     rw [if_neg c46] at H
     exact absurd H (by simp)
    rw [if_neg c45] at H
    exact absurd H (by simp)
   rw [if_neg c44] at H
   have c44b0 : (a1_0 == 4) = false := beq_eq_false_iff_ne.mpr c44
   have c44b1 : (a1_0 != 4) = true := bne_iff_ne.mpr c44
   by_cases c58 : a1_0 = 6
   ·
    rw [if_pos c58] at H
    have c58b0 : (a1_0 == 6) = true := beq_iff_eq.mpr c58
    have c58b1 : (a1_0 != 6) = false := bne_eq_false_iff_eq.mpr c58
    clear c58
    by_cases c59 : 0 ≤ a1_3
    ·
     rw [if_pos c59] at H
     have c59b0 : decide (0 ≤ a1_3) = true := decide_eq_true c59
     clear c59
     by_cases c60 : a1_3 < (l0_1.length : Int)
     ·
      rw [if_pos c60] at H
      have c60b0 : decide (a1_3 < (l0_1.length : Int)) = true := decide_eq_true c60
      clear c60
      obtain rfl := Option.some.inj H
      have hnb61 := NB219_218.out
      have hnc61 := NB218_219.out
      have hcz62_0 : wc.cell? ⟨gb219, 0, none⟩ = some (.int .i64 a1_0) := (blk_cell BK219.out 0).trans rfl; have hcz62_1 : wc.cell? ⟨gb219, 1, none⟩ = some (.int .i64 a1_1) := (blk_cell BK219.out 1).trans rfl; have hcz62_2 : wc.cell? ⟨gb219, 2, none⟩ = some (.int .i64 a1_2) := (blk_cell BK219.out 2).trans rfl; have hcz62_3 : wc.cell? ⟨gb219, 3, none⟩ = some (.int .i64 a1_3) := (blk_cell BK219.out 3).trans rfl; have hcz62_4 : wc.cell? ⟨gb219, 4, none⟩ = some (.int .i64 a1_4) := (blk_cell BK219.out 4).trans rfl; have hcz62_5 : wc.cell? ⟨gb219, 5, none⟩ = some (.int .i64 a1_5) := (blk_cell BK219.out 5).trans rfl; have hfz62_0 := blk_frozen BK219.out 0; have hfz62_1 := blk_frozen BK219.out 1; have hfz62_2 := blk_frozen BK219.out 2; have hfz62_3 := blk_frozen BK219.out 3; have hfz62_4 := blk_frozen BK219.out 4; have hfz62_5 := blk_frozen BK219.out 5; have hcz63_0 : wc.cell? ⟨gb218, 0, none⟩ = some (.slice A0_0 l0_0.length c0_0) := (blk_cell BK218.out 0).trans rfl; have hcz63_1 : wc.cell? ⟨gb218, 1, none⟩ = some (.slice A0_1 l0_1.length c0_1) := (blk_cell BK218.out 1).trans rfl; have hcz63_2 : wc.cell? ⟨gb218, 2, none⟩ = some (.slice A0_2 l0_2.length c0_2) := (blk_cell BK218.out 2).trans rfl; have hcz63_3 : wc.cell? ⟨gb218, 3, none⟩ = some (.int .i64 a0_3) := (blk_cell BK218.out 3).trans rfl; have hcz63_4 : wc.cell? ⟨gb218, 4, none⟩ = some (.int .i64 a0_4) := (blk_cell BK218.out 4).trans rfl; have hcz63_5 : wc.cell? ⟨gb218, 5, none⟩ = some (.int .i64 a0_5) := (blk_cell BK218.out 5).trans rfl; have hcz63_6 : wc.cell? ⟨gb218, 6, none⟩ = some (.int .i64 a0_6) := (blk_cell BK218.out 6).trans rfl; have hcz63_7 : wc.cell? ⟨gb218, 7, none⟩ = some (.int .i64 a0_7) := (blk_cell BK218.out 7).trans rfl; have hcz63_8 : wc.cell? ⟨gb218, 8, none⟩ = some (.int .i64 a0_8) := (blk_cell BK218.out 8).trans rfl; have hfz63_0 := blk_frozen BK218.out 0; have hfz63_1 := blk_frozen BK218.out 1; have hfz63_2 := blk_frozen BK218.out 2; have hfz63_3 := blk_frozen BK218.out 3; have hfz63_4 := blk_frozen BK218.out 4; have hfz63_5 := blk_frozen BK218.out 5; have hfz63_6 := blk_frozen BK218.out 6; have hfz63_7 := blk_frozen BK218.out 7; have hfz63_8 := blk_frozen BK218.out 8
      have p223 : 0 ≤ (a1_3 : Int) := of_decide_eq_true (by first | (with_reducible assumption) | assumption)
      have q223 : a1_3 < (l0_1.length : Int) := of_decide_eq_true (by first | (with_reducible assumption) | assumption)
      obtain ⟨ad223, e223, hx223_0, hx223_1, hx223_2, hx223_3, hx223_4, hx223_5⟩ := at_T48 HR0_1.out a1_3 p223 q223
      cases e223
      replace hx223_0 := (HB.out.cell (World.block_lt_of_cell? w _ hx223_0)).trans hx223_0
      replace hx223_1 := (HB.out.cell (World.block_lt_of_cell? w _ hx223_1)).trans hx223_1
      replace hx223_2 := (HB.out.cell (World.block_lt_of_cell? w _ hx223_2)).trans hx223_2
      replace hx223_3 := (HB.out.cell (World.block_lt_of_cell? w _ hx223_3)).trans hx223_3
      replace hx223_4 := (HB.out.cell (World.block_lt_of_cell? w _ hx223_4)).trans hx223_4
      replace hx223_5 := (HB.out.cell (World.block_lt_of_cell? w _ hx223_5)).trans hx223_5
      replace p223 := eq_true p223
      replace q223 := eq_true q223
      go_wp2
      repeat (go_quiet (fail); try go_wp2)
      go_ret
      exact ⟨by first | rfl | (simp [errW_none, errW_some] <;> rfl) | (simp [*, errW_none, errW_some] <;> rfl), by repeat (first | (with_reducible first | exact HB.out | apply below_alloc | apply pw_below_drewN | apply below_drew1 | refine below_set ?_ GE218.out | refine below_set ?_ GE219.out) | exact HB.out)⟩
     rw [if_neg c60] at H
     exact absurd H (by simp)
    rw [if_neg c59] at H
    exact absurd H (by simp)
   rw [if_neg c58] at H
   have c58b0 : (a1_0 == 6) = false := beq_eq_false_iff_ne.mpr c58
   have c58b1 : (a1_0 != 6) = true := bne_iff_ne.mpr c58
   obtain rfl := Option.some.inj H
   have hnb64 := NB219_218.out
   have hnc64 := NB218_219.out
   have hcz65_0 : wc.cell? ⟨gb219, 0, none⟩ = some (.int .i64 a1_0) := (blk_cell BK219.out 0).trans rfl; have hcz65_1 : wc.cell? ⟨gb219, 1, none⟩ = some (.int .i64 a1_1) := (blk_cell BK219.out 1).trans rfl; have hcz65_2 : wc.cell? ⟨gb219, 2, none⟩ = some (.int .i64 a1_2) := (blk_cell BK219.out 2).trans rfl; have hcz65_3 : wc.cell? ⟨gb219, 3, none⟩ = some (.int .i64 a1_3) := (blk_cell BK219.out 3).trans rfl; have hcz65_4 : wc.cell? ⟨gb219, 4, none⟩ = some (.int .i64 a1_4) := (blk_cell BK219.out 4).trans rfl; have hcz65_5 : wc.cell? ⟨gb219, 5, none⟩ = some (.int .i64 a1_5) := (blk_cell BK219.out 5).trans rfl; have hfz65_0 := blk_frozen BK219.out 0; have hfz65_1 := blk_frozen BK219.out 1; have hfz65_2 := blk_frozen BK219.out 2; have hfz65_3 := blk_frozen BK219.out 3; have hfz65_4 := blk_frozen BK219.out 4; have hfz65_5 := blk_frozen BK219.out 5; have hcz66_0 : wc.cell? ⟨gb218, 0, none⟩ = some (.slice A0_0 l0_0.length c0_0) := (blk_cell BK218.out 0).trans rfl; have hcz66_1 : wc.cell? ⟨gb218, 1, none⟩ = some (.slice A0_1 l0_1.length c0_1) := (blk_cell BK218.out 1).trans rfl; have hcz66_2 : wc.cell? ⟨gb218, 2, none⟩ = some (.slice A0_2 l0_2.length c0_2) := (blk_cell BK218.out 2).trans rfl; have hcz66_3 : wc.cell? ⟨gb218, 3, none⟩ = some (.int .i64 a0_3) := (blk_cell BK218.out 3).trans rfl; have hcz66_4 : wc.cell? ⟨gb218, 4, none⟩ = some (.int .i64 a0_4) := (blk_cell BK218.out 4).trans rfl; have hcz66_5 : wc.cell? ⟨gb218, 5, none⟩ = some (.int .i64 a0_5) := (blk_cell BK218.out 5).trans rfl; have hcz66_6 : wc.cell? ⟨gb218, 6, none⟩ = some (.int .i64 a0_6) := (blk_cell BK218.out 6).trans rfl; have hcz66_7 : wc.cell? ⟨gb218, 7, none⟩ = some (.int .i64 a0_7) := (blk_cell BK218.out 7).trans rfl; have hcz66_8 : wc.cell? ⟨gb218, 8, none⟩ = some (.int .i64 a0_8) := (blk_cell BK218.out 8).trans rfl; have hfz66_0 := blk_frozen BK218.out 0; have hfz66_1 := blk_frozen BK218.out 1; have hfz66_2 := blk_frozen BK218.out 2; have hfz66_3 := blk_frozen BK218.out 3; have hfz66_4 := blk_frozen BK218.out 4; have hfz66_5 := blk_frozen BK218.out 5; have hfz66_6 := blk_frozen BK218.out 6; have hfz66_7 := blk_frozen BK218.out 7; have hfz66_8 := blk_frozen BK218.out 8
   go_wp2
   repeat (go_quiet (fail); try go_wp2)
   go_ret
   exact ⟨by first | rfl | (simp [errW_none, errW_some] <;> rfl) | (simp [*, errW_none, errW_some] <;> rfl), by repeat (first | (with_reducible first | exact HB.out | apply below_alloc | apply pw_below_drewN | apply below_drew1 | refine below_set ?_ GE218.out | refine below_set ?_ GE219.out) | exact HB.out)⟩

end Go.Proofs.Ytahdadmibmgpmaa.PAll
