-- Written by the kit's print.py; laid as one text a function by this session's split.py.
import Derived.Test.YtfimgecceneagaaPAllx0
namespace Go.Proofs.Ytfimgecceneagaa.PAll
open Go.RowKit Go.Proofs.YtfimgecceneagaaW.PrintWords Go.Proofs.YtfimgecceneagaaW.PrintLast
set_option linter.unusedVariables false
set_option linter.unusedSimpArgs false

/-! ### dormouseref01_Energy: function 15 -/
def dormouseref01_Energy.j0 : Nat → Bool → List (S66) → List (S69) → List (S72) → Int → Int → Int → Int → Int → Int → Int → Int → Int → Int → Int → Int → Option (Int)
  | 0, _, _, _, _, _, _, _, _, _, _, _, _, _, _, _, _ => none
  | k + 1, x5, x165000, x165001, x165002, x165003, x165004, x165005, x165006, x165007, x165008, x166000, x166001, x166002, x166003, x166004, x166005 => if x166000 = 1 then (if x166003 ≥ 0 then (if x166003 < (x165000.length : Int) then (if 0 ≤ x166003 then (some (wrap64 (x166005 * ((rd_T66 x165000 x166003).f1)))) else (none)) else (some 0)) else (some 0)) else (if x166000 = 2 then (some (wrap64 (x166002 * x165003))) else (if x166000 = 3 then (some x165006) else (if x166000 = 4 then (if x5 = true then (if 0 ≤ x166003 then (if x166003 < (x165001.length : Int) then (some ((rd_T69 x165001 x166003).f3)) else (none)) else (none)) else (some 0)) else (if x166000 = 5 then (if x5 = true then (if 0 ≤ x166003 then (if x166003 < (x165001.length : Int) then (some (wrap64 (x166002 * ((rd_T69 x165001 x166003).f0)))) else (none)) else (none)) else (some 0)) else (if x166000 = 6 then (if x5 = true then (if 0 ≤ x166003 then (if x166003 < (x165001.length : Int) then (some ((rd_T69 x165001 x166003).f4)) else (none)) else (none)) else (some 0)) else (some 0))))))
def dormouseref01_Energy.f (k : Nat) (l0_0 : List (S66)) (l0_1 : List (S69)) (l0_2 : List (S72)) (a0_3 : Int) (a0_4 : Int) (a0_5 : Int) (a0_6 : Int) (a0_7 : Int) (a0_8 : Int) (a1_0 : Int) (a1_1 : Int) (a1_2 : Int) (a1_3 : Int) (a1_4 : Int) (a1_5 : Int) : Option (Int) := if a1_3 ≥ 0 then (dormouseref01_Energy.j0 k (decide (a1_3 < (l0_1.length : Int))) l0_0 l0_1 l0_2 a0_3 a0_4 a0_5 a0_6 a0_7 a0_8 a1_0 a1_1 a1_2 a1_3 a1_4 a1_5) else (dormouseref01_Energy.j0 k false l0_0 l0_1 l0_2 a0_3 a0_4 a0_5 a0_6 a0_7 a0_8 a1_0 a1_1 a1_2 a1_3 a1_4 a1_5)
theorem dormouseref01_Energy.mono_l : ∀ k, (∀ y0 y1 y2 y3 y4 y5 y6 y7 y8 y9 y10 y11 y12 y13 y14 y15, LeO (dormouseref01_Energy.j0 k y0 y1 y2 y3 y4 y5 y6 y7 y8 y9 y10 y11 y12 y13 y14 y15) (dormouseref01_Energy.j0 (k + 1) y0 y1 y2 y3 y4 y5 y6 y7 y8 y9 y10 y11 y12 y13 y14 y15))
  | 0 => fun _ _ _ _ _ _ _ _ _ _ _ _ _ _ _ _ r h => by simp [dormouseref01_Energy.j0] at h
  | k + 1 => by
    have ih0 := dormouseref01_Energy.mono_l k
    · intro y0 y1 y2 y3 y4 y5 y6 y7 y8 y9 y10 y11 y12 y13 y14 y15
      unfold dormouseref01_Energy.j0
      repeat' first
      | (with_reducible exact ih0 _ _ _ _ _ _ _ _ _ _ _ _ _ _ _ _)
      | (with_reducible exact LeO.refl _)
      | (with_reducible exact LeO.none _)
      | (with_reducible refine LeO.ite ?_ ?_)
      | (with_reducible refine LeO.bind ?_ (fun _ => ?_))
      | exact ih0 _ _ _ _ _ _ _ _ _ _ _ _ _ _ _ _
      | exact LeO.none _
      | refine LeO.ite ?_ ?_
      | refine LeO.bind ?_ (fun _ => ?_)
theorem dormouseref01_Energy.mono : ∀ a0 a1 a2 a3 a4 a5 a6 a7 a8 a9 a10 a11 a12 a13 a14 k, LeO (dormouseref01_Energy.f k a0 a1 a2 a3 a4 a5 a6 a7 a8 a9 a10 a11 a12 a13 a14) (dormouseref01_Energy.f (k + 1) a0 a1 a2 a3 a4 a5 a6 a7 a8 a9 a10 a11 a12 a13 a14) := by
  intro a0 a1 a2 a3 a4 a5 a6 a7 a8 a9 a10 a11 a12 a13 a14 k
  have ih0 := dormouseref01_Energy.mono_l k
  unfold dormouseref01_Energy.f
  repeat' first
      | (with_reducible exact ih0 _ _ _ _ _ _ _ _ _ _ _ _ _ _ _ _)
      | (with_reducible exact LeO.refl _)
      | (with_reducible exact LeO.none _)
      | (with_reducible refine LeO.ite ?_ ?_)
      | (with_reducible refine LeO.bind ?_ (fun _ => ?_))
      | exact ih0 _ _ _ _ _ _ _ _ _ _ _ _ _ _ _ _
      | exact LeO.none _
      | refine LeO.ite ?_ ?_
      | refine LeO.bind ?_ (fun _ => ?_)
set_option maxHeartbeats 8000000 in
set_option maxRecDepth 100000 in
theorem dormouseref01_Energy.calls (k : Nat) (A0_0 : Option Addr) (c0_0 : Nat) (l0_0 : List (S66)) (A0_1 : Option Addr) (c0_1 : Nat) (l0_1 : List (S69)) (A0_2 : Option Addr) (c0_2 : Nat) (l0_2 : List (S72)) (a0_3 : Int) (a0_4 : Int) (a0_5 : Int) (a0_6 : Int) (a0_7 : Int) (a0_8 : Int) (a1_0 : Int) (a1_1 : Int) (a1_2 : Int) (a1_3 : Int) (a1_4 : Int) (a1_5 : Int) (r : Int) (w : World) (hr0_0 : Kd.C k66 w A0_0 l0_0.length l0_0) (hc0_0 : l0_0.length ≤ c0_0) (hr0_1 : Kd.C k69 w A0_1 l0_1.length l0_1) (hc0_1 : l0_1.length ≤ c0_1) (hr0_2 : Kd.C k72 w A0_2 l0_2.length l0_2) (hc0_2 : l0_2.length ≤ c0_2) (h : dormouseref01_Energy.f k l0_0 l0_1 l0_2 a0_3 a0_4 a0_5 a0_6 a0_7 a0_8 a1_0 a1_1 a1_2 a1_3 a1_4 a1_5 = some r) :
    Calls Try.prog 15 #[.agg #[.slice A0_0 l0_0.length c0_0, .slice A0_1 l0_1.length c0_1, .slice A0_2 l0_2.length c0_2, .int .i64 a0_3, .int .i64 a0_4, .int .i64 a0_5, .int .i64 a0_6, .int .i64 a0_7, .int .i64 a0_8], .agg #[.int .i64 a1_0, .int .i64 a1_1, .int .i64 a1_2, .int .i64 a1_3, .int .i64 a1_4, .int .i64 a1_5]] w fun e w' => e = .returned (.int .i64 r) ∧ Below w.heap.size w w' := by
  have hu26 := Try.underlying26
  have hu28 := Try.underlying28
  have HR0_0 := Aside0.mk hr0_0
  have HC0_0 := Aside0.mk hc0_0
  clear hr0_0 hc0_0
  have HR0_1 := Aside0.mk hr0_1
  have HC0_1 := Aside0.mk hc0_1
  clear hr0_1 hc0_1
  have HR0_2 := Aside0.mk hr0_2
  have HC0_2 := Aside0.mk hc0_2
  clear hr0_2 hc0_2
  have HB := Aside0.mk (Below.refl w.heap.size w)
  have H : (if a1_3 ≥ 0 then (dormouseref01_Energy.j0 k (decide (a1_3 < (l0_1.length : Int))) l0_0 l0_1 l0_2 a0_3 a0_4 a0_5 a0_6 a0_7 a0_8 a1_0 a1_1 a1_2 a1_3 a1_4 a1_5) else (dormouseref01_Energy.j0 k false l0_0 l0_1 l0_2 a0_3 a0_4 a0_5 a0_6 a0_7 a0_8 a1_0 a1_1 a1_2 a1_3 a1_4 a1_5)) = some r := h
  clear h
  have HC3 := Aside0.mk H
  clear H
  go_enter Try.func15, Try.ntmps15
  go_upto_region 1 with (first | ((with_reducible refine gate_dst (N := 2) rfl ?_); (try (refine gate_guard (by rfl) ?_; dsimp only)); refine box_event ?hg (N := 2) ?hd (cs := #[.slice A0_0 l0_0.length c0_0, .slice A0_1 l0_1.length c0_1, .slice A0_2 l0_2.length c0_2, .int .i64 a0_3, .int .i64 a0_4, .int .i64 a0_5, .int .i64 a0_6, .int .i64 a0_7, .int .i64 a0_8]) (t := 26) ?hr ?_; (case hd => rfl); (case hg => rfl); (case hr => first | (go_simp; done) | (go_simp; rfl)); intro gb164 hg w4 hbox hb; have n0_ := Aside0.mk (below_step (by repeat (first | (with_reducible first | exact HB.out | apply below_alloc | apply pw_below_drewN | apply below_drew1) | exact HB.out)) hb); have n1_ := Aside0.mk (hbox); have n2_ := Aside0.mk ((by rw [hg]; exact (below_size (by repeat (first | (with_reducible first | exact HB.out | apply below_alloc | apply pw_below_drewN | apply below_drew1) | exact HB.out))) : w.heap.size ≤ gb164)); have n3_ := Aside0.mk ((by rw [hg]; exact (below_size (by repeat (first | (with_reducible first | exact HB.out | apply below_alloc | apply pw_below_drewN | apply below_drew1) | exact HB.out))) : w.heap.size ≤ gb164)); clear HB; have HB := n0_; have BK164 := n1_; have GW164 := n2_; have GE164 := n3_; clear n0_ n1_ n2_ n3_; clear hb hbox hg) | ((with_reducible refine gate_dst (N := 3) rfl ?_); (try (refine gate_guard (by rfl) ?_; dsimp only)); refine box_event ?hg (N := 3) ?hd (cs := #[.int .i64 a1_0, .int .i64 a1_1, .int .i64 a1_2, .int .i64 a1_3, .int .i64 a1_4, .int .i64 a1_5]) (t := 28) ?hr ?_; (case hd => rfl); (case hg => rfl); (case hr => first | (go_simp; done) | (go_simp; rfl)); intro gb165 hg w5 hbox hb; have n0_ := Aside0.mk (blk_below (g := gb164) (o := .cells #[.slice A0_0 l0_0.length c0_0, .slice A0_1 l0_1.length c0_1, .slice A0_2 l0_2.length c0_2, .int .i64 a0_3, .int .i64 a0_4, .int .i64 a0_5, .int .i64 a0_6, .int .i64 a0_7, .int .i64 a0_8] 26 (0, 0)) (by (with_reducible repeat (first | refine blk_drewN ?_ _ | refine blk_drew ?_ | refine blk_alloc ?_ _)); exact BK164.out) hb); have n1_ := Aside0.mk (below_step (by repeat (first | (with_reducible first | exact HB.out | apply below_alloc | apply pw_below_drewN | apply below_drew1 | refine below_set ?_ GE164.out) | exact HB.out)) hb); have n2_ := Aside0.mk (hbox); have n3_ := Aside0.mk ((by rw [hg]; exact (below_size (by repeat (first | (with_reducible first | exact HB.out | apply below_alloc | apply pw_below_drewN | apply below_drew1 | refine below_set ?_ GE164.out) | exact HB.out))) : w.heap.size ≤ gb165)); have n4_ := Aside0.mk ((by rw [hg]; exact (below_size (by repeat (first | (with_reducible first | exact HB.out | apply below_alloc | apply pw_below_drewN | apply below_drew1 | refine below_set ?_ GE164.out) | exact HB.out))) : w.heap.size ≤ gb165)); have n5_ := Aside0.mk ((by rw [hg]; exact Nat.ne_of_lt (blk_lt (g := gb164) (o := .cells #[.slice A0_0 l0_0.length c0_0, .slice A0_1 l0_1.length c0_1, .slice A0_2 l0_2.length c0_2, .int .i64 a0_3, .int .i64 a0_4, .int .i64 a0_5, .int .i64 a0_6, .int .i64 a0_7, .int .i64 a0_8] 26 (0, 0)) (by (with_reducible repeat (first | refine blk_drewN ?_ _ | refine blk_drew ?_ | refine blk_alloc ?_ _)); exact BK164.out)) : gb164 ≠ gb165)); have n6_ := Aside0.mk ((by rw [hg]; exact Nat.ne_of_gt (blk_lt (g := gb164) (o := .cells #[.slice A0_0 l0_0.length c0_0, .slice A0_1 l0_1.length c0_1, .slice A0_2 l0_2.length c0_2, .int .i64 a0_3, .int .i64 a0_4, .int .i64 a0_5, .int .i64 a0_6, .int .i64 a0_7, .int .i64 a0_8] 26 (0, 0)) (by (with_reducible repeat (first | refine blk_drewN ?_ _ | refine blk_drew ?_ | refine blk_alloc ?_ _)); exact BK164.out)) : gb165 ≠ gb164)); clear BK164; clear HB; have BK164 := n0_; have HB := n1_; have BK165 := n2_; have GW165 := n3_; have GE165 := n4_; have NB164_165 := n5_; have NB165_164 := n6_; clear n0_ n1_ n2_ n3_ n4_ n5_ n6_; clear hb hbox hg))
  repeat (go_quiet (first | ((with_reducible refine gate_dst (N := 2) rfl ?_); (try (refine gate_guard (by rfl) ?_; dsimp only)); refine box_event ?hg (N := 2) ?hd (cs := #[.slice A0_0 l0_0.length c0_0, .slice A0_1 l0_1.length c0_1, .slice A0_2 l0_2.length c0_2, .int .i64 a0_3, .int .i64 a0_4, .int .i64 a0_5, .int .i64 a0_6, .int .i64 a0_7, .int .i64 a0_8]) (t := 26) ?hr ?_; (case hd => rfl); (case hg => rfl); (case hr => first | (go_simp; done) | (go_simp; rfl)); intro gb164 hg w4 hbox hb; have n0_ := Aside0.mk (below_step (by repeat (first | (with_reducible first | exact HB.out | apply below_alloc | apply pw_below_drewN | apply below_drew1) | exact HB.out)) hb); have n1_ := Aside0.mk (hbox); have n2_ := Aside0.mk ((by rw [hg]; exact (below_size (by repeat (first | (with_reducible first | exact HB.out | apply below_alloc | apply pw_below_drewN | apply below_drew1) | exact HB.out))) : w.heap.size ≤ gb164)); have n3_ := Aside0.mk ((by rw [hg]; exact (below_size (by repeat (first | (with_reducible first | exact HB.out | apply below_alloc | apply pw_below_drewN | apply below_drew1) | exact HB.out))) : w.heap.size ≤ gb164)); clear HB; have HB := n0_; have BK164 := n1_; have GW164 := n2_; have GE164 := n3_; clear n0_ n1_ n2_ n3_; clear hb hbox hg) | ((with_reducible refine gate_dst (N := 3) rfl ?_); (try (refine gate_guard (by rfl) ?_; dsimp only)); refine box_event ?hg (N := 3) ?hd (cs := #[.int .i64 a1_0, .int .i64 a1_1, .int .i64 a1_2, .int .i64 a1_3, .int .i64 a1_4, .int .i64 a1_5]) (t := 28) ?hr ?_; (case hd => rfl); (case hg => rfl); (case hr => first | (go_simp; done) | (go_simp; rfl)); intro gb165 hg w5 hbox hb; have n0_ := Aside0.mk (blk_below (g := gb164) (o := .cells #[.slice A0_0 l0_0.length c0_0, .slice A0_1 l0_1.length c0_1, .slice A0_2 l0_2.length c0_2, .int .i64 a0_3, .int .i64 a0_4, .int .i64 a0_5, .int .i64 a0_6, .int .i64 a0_7, .int .i64 a0_8] 26 (0, 0)) (by (with_reducible repeat (first | refine blk_drewN ?_ _ | refine blk_drew ?_ | refine blk_alloc ?_ _)); exact BK164.out) hb); have n1_ := Aside0.mk (below_step (by repeat (first | (with_reducible first | exact HB.out | apply below_alloc | apply pw_below_drewN | apply below_drew1 | refine below_set ?_ GE164.out) | exact HB.out)) hb); have n2_ := Aside0.mk (hbox); have n3_ := Aside0.mk ((by rw [hg]; exact (below_size (by repeat (first | (with_reducible first | exact HB.out | apply below_alloc | apply pw_below_drewN | apply below_drew1 | refine below_set ?_ GE164.out) | exact HB.out))) : w.heap.size ≤ gb165)); have n4_ := Aside0.mk ((by rw [hg]; exact (below_size (by repeat (first | (with_reducible first | exact HB.out | apply below_alloc | apply pw_below_drewN | apply below_drew1 | refine below_set ?_ GE164.out) | exact HB.out))) : w.heap.size ≤ gb165)); have n5_ := Aside0.mk ((by rw [hg]; exact Nat.ne_of_lt (blk_lt (g := gb164) (o := .cells #[.slice A0_0 l0_0.length c0_0, .slice A0_1 l0_1.length c0_1, .slice A0_2 l0_2.length c0_2, .int .i64 a0_3, .int .i64 a0_4, .int .i64 a0_5, .int .i64 a0_6, .int .i64 a0_7, .int .i64 a0_8] 26 (0, 0)) (by (with_reducible repeat (first | refine blk_drewN ?_ _ | refine blk_drew ?_ | refine blk_alloc ?_ _)); exact BK164.out)) : gb164 ≠ gb165)); have n6_ := Aside0.mk ((by rw [hg]; exact Nat.ne_of_gt (blk_lt (g := gb164) (o := .cells #[.slice A0_0 l0_0.length c0_0, .slice A0_1 l0_1.length c0_1, .slice A0_2 l0_2.length c0_2, .int .i64 a0_3, .int .i64 a0_4, .int .i64 a0_5, .int .i64 a0_6, .int .i64 a0_7, .int .i64 a0_8] 26 (0, 0)) (by (with_reducible repeat (first | refine blk_drewN ?_ _ | refine blk_drew ?_ | refine blk_alloc ?_ _)); exact BK164.out)) : gb165 ≠ gb164)); clear BK164; clear HB; have BK164 := n0_; have HB := n1_; have BK165 := n2_; have GW165 := n3_; have GE165 := n4_; have NB164_165 := n5_; have NB165_164 := n6_; clear n0_ n1_ n2_ n3_ n4_ n5_ n6_; clear hb hbox hg)); go_upto_region 1 with (first | ((with_reducible refine gate_dst (N := 2) rfl ?_); (try (refine gate_guard (by rfl) ?_; dsimp only)); refine box_event ?hg (N := 2) ?hd (cs := #[.slice A0_0 l0_0.length c0_0, .slice A0_1 l0_1.length c0_1, .slice A0_2 l0_2.length c0_2, .int .i64 a0_3, .int .i64 a0_4, .int .i64 a0_5, .int .i64 a0_6, .int .i64 a0_7, .int .i64 a0_8]) (t := 26) ?hr ?_; (case hd => rfl); (case hg => rfl); (case hr => first | (go_simp; done) | (go_simp; rfl)); intro gb164 hg w4 hbox hb; have n0_ := Aside0.mk (below_step (by repeat (first | (with_reducible first | exact HB.out | apply below_alloc | apply pw_below_drewN | apply below_drew1) | exact HB.out)) hb); have n1_ := Aside0.mk (hbox); have n2_ := Aside0.mk ((by rw [hg]; exact (below_size (by repeat (first | (with_reducible first | exact HB.out | apply below_alloc | apply pw_below_drewN | apply below_drew1) | exact HB.out))) : w.heap.size ≤ gb164)); have n3_ := Aside0.mk ((by rw [hg]; exact (below_size (by repeat (first | (with_reducible first | exact HB.out | apply below_alloc | apply pw_below_drewN | apply below_drew1) | exact HB.out))) : w.heap.size ≤ gb164)); clear HB; have HB := n0_; have BK164 := n1_; have GW164 := n2_; have GE164 := n3_; clear n0_ n1_ n2_ n3_; clear hb hbox hg) | ((with_reducible refine gate_dst (N := 3) rfl ?_); (try (refine gate_guard (by rfl) ?_; dsimp only)); refine box_event ?hg (N := 3) ?hd (cs := #[.int .i64 a1_0, .int .i64 a1_1, .int .i64 a1_2, .int .i64 a1_3, .int .i64 a1_4, .int .i64 a1_5]) (t := 28) ?hr ?_; (case hd => rfl); (case hg => rfl); (case hr => first | (go_simp; done) | (go_simp; rfl)); intro gb165 hg w5 hbox hb; have n0_ := Aside0.mk (blk_below (g := gb164) (o := .cells #[.slice A0_0 l0_0.length c0_0, .slice A0_1 l0_1.length c0_1, .slice A0_2 l0_2.length c0_2, .int .i64 a0_3, .int .i64 a0_4, .int .i64 a0_5, .int .i64 a0_6, .int .i64 a0_7, .int .i64 a0_8] 26 (0, 0)) (by (with_reducible repeat (first | refine blk_drewN ?_ _ | refine blk_drew ?_ | refine blk_alloc ?_ _)); exact BK164.out) hb); have n1_ := Aside0.mk (below_step (by repeat (first | (with_reducible first | exact HB.out | apply below_alloc | apply pw_below_drewN | apply below_drew1 | refine below_set ?_ GE164.out) | exact HB.out)) hb); have n2_ := Aside0.mk (hbox); have n3_ := Aside0.mk ((by rw [hg]; exact (below_size (by repeat (first | (with_reducible first | exact HB.out | apply below_alloc | apply pw_below_drewN | apply below_drew1 | refine below_set ?_ GE164.out) | exact HB.out))) : w.heap.size ≤ gb165)); have n4_ := Aside0.mk ((by rw [hg]; exact (below_size (by repeat (first | (with_reducible first | exact HB.out | apply below_alloc | apply pw_below_drewN | apply below_drew1 | refine below_set ?_ GE164.out) | exact HB.out))) : w.heap.size ≤ gb165)); have n5_ := Aside0.mk ((by rw [hg]; exact Nat.ne_of_lt (blk_lt (g := gb164) (o := .cells #[.slice A0_0 l0_0.length c0_0, .slice A0_1 l0_1.length c0_1, .slice A0_2 l0_2.length c0_2, .int .i64 a0_3, .int .i64 a0_4, .int .i64 a0_5, .int .i64 a0_6, .int .i64 a0_7, .int .i64 a0_8] 26 (0, 0)) (by (with_reducible repeat (first | refine blk_drewN ?_ _ | refine blk_drew ?_ | refine blk_alloc ?_ _)); exact BK164.out)) : gb164 ≠ gb165)); have n6_ := Aside0.mk ((by rw [hg]; exact Nat.ne_of_gt (blk_lt (g := gb164) (o := .cells #[.slice A0_0 l0_0.length c0_0, .slice A0_1 l0_1.length c0_1, .slice A0_2 l0_2.length c0_2, .int .i64 a0_3, .int .i64 a0_4, .int .i64 a0_5, .int .i64 a0_6, .int .i64 a0_7, .int .i64 a0_8] 26 (0, 0)) (by (with_reducible repeat (first | refine blk_drewN ?_ _ | refine blk_drew ?_ | refine blk_alloc ?_ _)); exact BK164.out)) : gb165 ≠ gb164)); clear BK164; clear HB; have BK164 := n0_; have HB := n1_; have BK165 := n2_; have GW165 := n3_; have GE165 := n4_; have NB164_165 := n5_; have NB165_164 := n6_; clear n0_ n1_ n2_ n3_ n4_ n5_ n6_; clear hb hbox hg)))
  (try simp only [Act.put, List.setIfInBounds_toArray, List.set_cons_zero, List.set_cons_succ])
  go_cut [5] (fun v5 wc => ∃ (kq : Nat) (x5_2 : Bool), v5 = .bool x5_2 ∧ Aside0 (dormouseref01_Energy.j0 kq x5_2 l0_0 l0_1 l0_2 a0_3 a0_4 a0_5 a0_6 a0_7 a0_8 a1_0 a1_1 a1_2 a1_3 a1_4 a1_5 = some r) ∧ Aside0 (kq ≤ k) ∧ Aside0 (wc.heap[gb164]? = some (.cells #[(.slice A0_0 l0_0.length c0_0), (.slice A0_1 l0_1.length c0_1), (.slice A0_2 l0_2.length c0_2), .int .i64 a0_3, .int .i64 a0_4, .int .i64 a0_5, .int .i64 a0_6, .int .i64 a0_7, .int .i64 a0_8] 26 (0, 0))) ∧ Aside0 (wc.heap[gb165]? = some (.cells #[.int .i64 a1_0, .int .i64 a1_1, .int .i64 a1_2, .int .i64 a1_3, .int .i64 a1_4, .int .i64 a1_5] 28 (0, 0))) ∧ Aside0 (Below w.heap.size w wc))
  case first =>
    have H := HC3.out
    clear HC3
    by_cases c6 : a1_3 ≥ 0
    · rw [if_pos c6] at H
      have c6b0 : decide (0 ≤ a1_3) = true := decide_eq_true c6
      clear c6
      (first | rw [c6b0] | (simp only [i64_w, i32_w]; rw [c6b0]) | skip)
      have H' := Aside0.mk H
      clear H
      have hnb7 := NB165_164.out
      have hnc7 := NB164_165.out
      have hcz8_0 : w5.cell? ⟨gb165, 0, none⟩ = some (.int .i64 a1_0) := (blk_cell BK165.out 0).trans rfl
      have hcz8_1 : w5.cell? ⟨gb165, 1, none⟩ = some (.int .i64 a1_1) := (blk_cell BK165.out 1).trans rfl
      have hcz8_2 : w5.cell? ⟨gb165, 2, none⟩ = some (.int .i64 a1_2) := (blk_cell BK165.out 2).trans rfl
      have hcz8_3 : w5.cell? ⟨gb165, 3, none⟩ = some (.int .i64 a1_3) := (blk_cell BK165.out 3).trans rfl
      have hcz8_4 : w5.cell? ⟨gb165, 4, none⟩ = some (.int .i64 a1_4) := (blk_cell BK165.out 4).trans rfl
      have hcz8_5 : w5.cell? ⟨gb165, 5, none⟩ = some (.int .i64 a1_5) := (blk_cell BK165.out 5).trans rfl
      have hfz8_0 := blk_frozen BK165.out 0
      have hfz8_1 := blk_frozen BK165.out 1
      have hfz8_2 := blk_frozen BK165.out 2
      have hfz8_3 := blk_frozen BK165.out 3
      have hfz8_4 := blk_frozen BK165.out 4
      have hfz8_5 := blk_frozen BK165.out 5
      have hcz9_0 : w5.cell? ⟨gb164, 0, none⟩ = some (.slice A0_0 l0_0.length c0_0) := (blk_cell BK164.out 0).trans rfl
      have hcz9_1 : w5.cell? ⟨gb164, 1, none⟩ = some (.slice A0_1 l0_1.length c0_1) := (blk_cell BK164.out 1).trans rfl
      have hcz9_2 : w5.cell? ⟨gb164, 2, none⟩ = some (.slice A0_2 l0_2.length c0_2) := (blk_cell BK164.out 2).trans rfl
      have hcz9_3 : w5.cell? ⟨gb164, 3, none⟩ = some (.int .i64 a0_3) := (blk_cell BK164.out 3).trans rfl
      have hcz9_4 : w5.cell? ⟨gb164, 4, none⟩ = some (.int .i64 a0_4) := (blk_cell BK164.out 4).trans rfl
      have hcz9_5 : w5.cell? ⟨gb164, 5, none⟩ = some (.int .i64 a0_5) := (blk_cell BK164.out 5).trans rfl
      have hcz9_6 : w5.cell? ⟨gb164, 6, none⟩ = some (.int .i64 a0_6) := (blk_cell BK164.out 6).trans rfl
      have hcz9_7 : w5.cell? ⟨gb164, 7, none⟩ = some (.int .i64 a0_7) := (blk_cell BK164.out 7).trans rfl
      have hcz9_8 : w5.cell? ⟨gb164, 8, none⟩ = some (.int .i64 a0_8) := (blk_cell BK164.out 8).trans rfl
      have hfz9_0 := blk_frozen BK164.out 0
      have hfz9_1 := blk_frozen BK164.out 1
      have hfz9_2 := blk_frozen BK164.out 2
      have hfz9_3 := blk_frozen BK164.out 3
      have hfz9_4 := blk_frozen BK164.out 4
      have hfz9_5 := blk_frozen BK164.out 5
      have hfz9_6 := blk_frozen BK164.out 6
      have hfz9_7 := blk_frozen BK164.out 7
      have hfz9_8 := blk_frozen BK164.out 8
      go_wp2
      repeat (go_quiet (fail); try go_wp2)
      go_meet
      case rel => exact ⟨_, (decide (a1_3 < (l0_1.length : Int))), (by first | rfl | (simp; done) | (simp [*]; done)), H', ⟨by first | omega | exact Nat.le_refl _⟩, ⟨by (with_reducible repeat (first | refine blk_drewN ?_ _ | refine blk_drew ?_ | refine blk_alloc ?_ _)); exact BK164.out⟩, ⟨by (with_reducible repeat (first | refine blk_drewN ?_ _ | refine blk_drew ?_ | refine blk_alloc ?_ _)); exact BK165.out⟩, ⟨by repeat (first | (with_reducible first | exact HB.out | apply below_alloc | apply pw_below_drewN | apply below_drew1 | refine below_set ?_ GE164.out | refine below_set ?_ GE165.out) | exact HB.out)⟩⟩
    · rw [if_neg c6] at H
      have c6b0 : decide (0 ≤ a1_3) = false := decide_eq_false c6
      clear c6
      (first | rw [c6b0] | (simp only [i64_w, i32_w]; rw [c6b0]) | skip)
      have H' := Aside0.mk H
      clear H
      have hnb10 := NB165_164.out
      have hnc10 := NB164_165.out
      have hcz11_0 : w5.cell? ⟨gb165, 0, none⟩ = some (.int .i64 a1_0) := (blk_cell BK165.out 0).trans rfl
      have hcz11_1 : w5.cell? ⟨gb165, 1, none⟩ = some (.int .i64 a1_1) := (blk_cell BK165.out 1).trans rfl
      have hcz11_2 : w5.cell? ⟨gb165, 2, none⟩ = some (.int .i64 a1_2) := (blk_cell BK165.out 2).trans rfl
      have hcz11_3 : w5.cell? ⟨gb165, 3, none⟩ = some (.int .i64 a1_3) := (blk_cell BK165.out 3).trans rfl
      have hcz11_4 : w5.cell? ⟨gb165, 4, none⟩ = some (.int .i64 a1_4) := (blk_cell BK165.out 4).trans rfl
      have hcz11_5 : w5.cell? ⟨gb165, 5, none⟩ = some (.int .i64 a1_5) := (blk_cell BK165.out 5).trans rfl
      have hfz11_0 := blk_frozen BK165.out 0
      have hfz11_1 := blk_frozen BK165.out 1
      have hfz11_2 := blk_frozen BK165.out 2
      have hfz11_3 := blk_frozen BK165.out 3
      have hfz11_4 := blk_frozen BK165.out 4
      have hfz11_5 := blk_frozen BK165.out 5
      go_wp2
      repeat (go_quiet (fail); try go_wp2)
      go_meet
      case rel => exact ⟨_, (false), (by first | rfl | (simp; done) | (simp [*]; done)), H', ⟨by first | omega | exact Nat.le_refl _⟩, ⟨by (with_reducible repeat (first | refine blk_drewN ?_ _ | refine blk_drew ?_ | refine blk_alloc ?_ _)); exact BK164.out⟩, ⟨by (with_reducible repeat (first | refine blk_drewN ?_ _ | refine blk_drew ?_ | refine blk_alloc ?_ _)); exact BK165.out⟩, ⟨by repeat (first | (with_reducible first | exact HB.out | apply below_alloc | apply pw_below_drewN | apply below_drew1 | refine below_set ?_ GE164.out | refine below_set ?_ GE165.out) | exact HB.out)⟩⟩
  case rest =>
    clear HC3
    try clear c1
    try clear p2
    try clear c6
    try clear c6b0
    try clear c7
    try clear c10
    try clear hcz11_0
    try clear hcz11_1
    try clear hcz11_2
    try clear hcz11_3
    try clear hcz11_4
    try clear hcz11_5
    try clear hcz8_0
    try clear hcz8_1
    try clear hcz8_2
    try clear hcz8_3
    try clear hcz8_4
    try clear hcz8_5
    try clear hcz9_0
    try clear hcz9_1
    try clear hcz9_2
    try clear hcz9_3
    try clear hcz9_4
    try clear hcz9_5
    try clear hcz9_6
    try clear hcz9_7
    try clear hcz9_8
    try clear hfz11_0
    try clear hfz11_1
    try clear hfz11_2
    try clear hfz11_3
    try clear hfz11_4
    try clear hfz11_5
    try clear hfz8_0
    try clear hfz8_1
    try clear hfz8_2
    try clear hfz8_3
    try clear hfz8_4
    try clear hfz8_5
    try clear hfz9_0
    try clear hfz9_1
    try clear hfz9_2
    try clear hfz9_3
    try clear hfz9_4
    try clear hfz9_5
    try clear hfz9_6
    try clear hfz9_7
    try clear hfz9_8
    obtain ⟨kq, x5_2, rfl, HA, HJ2, BK164, BK165, HB⟩ := hcut
    cases kq with
    | zero => exact absurd HA.out (by simp [dormouseref01_Energy.j0])
    | succ kj2 =>
      have H := HA.out
      clear HA
      simp only [dormouseref01_Energy.j0] at H
      by_cases c12 : a1_0 = 1
      · rw [if_pos c12] at H
        have c12b0 : (a1_0 == 1) = true := beq_iff_eq.mpr c12
        have c12b1 : (a1_0 != 1) = false := bne_eq_false_iff_eq.mpr c12
        clear c12
        by_cases c13 : a1_3 ≥ 0
        · rw [if_pos c13] at H
          have c13b0 : decide (0 ≤ a1_3) = true := decide_eq_true c13
          clear c13
          by_cases c14 : a1_3 < (l0_0.length : Int)
          · rw [if_pos c14] at H
            have c14b0 : decide (a1_3 < (l0_0.length : Int)) = true := decide_eq_true c14
            clear c14
            by_cases c15 : 0 ≤ a1_3
            · rw [if_pos c15] at H
              have c15b0 : decide (0 ≤ a1_3) = true := decide_eq_true c15
              clear c15
              obtain rfl := Option.some.inj H
              have hnb16 := NB165_164.out
              have hnc16 := NB164_165.out
              have hcz17_0 : wc.cell? ⟨gb165, 0, none⟩ = some (.int .i64 a1_0) := (blk_cell BK165.out 0).trans rfl
              have hcz17_1 : wc.cell? ⟨gb165, 1, none⟩ = some (.int .i64 a1_1) := (blk_cell BK165.out 1).trans rfl
              have hcz17_2 : wc.cell? ⟨gb165, 2, none⟩ = some (.int .i64 a1_2) := (blk_cell BK165.out 2).trans rfl
              have hcz17_3 : wc.cell? ⟨gb165, 3, none⟩ = some (.int .i64 a1_3) := (blk_cell BK165.out 3).trans rfl
              have hcz17_4 : wc.cell? ⟨gb165, 4, none⟩ = some (.int .i64 a1_4) := (blk_cell BK165.out 4).trans rfl
              have hcz17_5 : wc.cell? ⟨gb165, 5, none⟩ = some (.int .i64 a1_5) := (blk_cell BK165.out 5).trans rfl
              have hfz17_0 := blk_frozen BK165.out 0
              have hfz17_1 := blk_frozen BK165.out 1
              have hfz17_2 := blk_frozen BK165.out 2
              have hfz17_3 := blk_frozen BK165.out 3
              have hfz17_4 := blk_frozen BK165.out 4
              have hfz17_5 := blk_frozen BK165.out 5
              have hcz18_0 : wc.cell? ⟨gb164, 0, none⟩ = some (.slice A0_0 l0_0.length c0_0) := (blk_cell BK164.out 0).trans rfl
              have hcz18_1 : wc.cell? ⟨gb164, 1, none⟩ = some (.slice A0_1 l0_1.length c0_1) := (blk_cell BK164.out 1).trans rfl
              have hcz18_2 : wc.cell? ⟨gb164, 2, none⟩ = some (.slice A0_2 l0_2.length c0_2) := (blk_cell BK164.out 2).trans rfl
              have hcz18_3 : wc.cell? ⟨gb164, 3, none⟩ = some (.int .i64 a0_3) := (blk_cell BK164.out 3).trans rfl
              have hcz18_4 : wc.cell? ⟨gb164, 4, none⟩ = some (.int .i64 a0_4) := (blk_cell BK164.out 4).trans rfl
              have hcz18_5 : wc.cell? ⟨gb164, 5, none⟩ = some (.int .i64 a0_5) := (blk_cell BK164.out 5).trans rfl
              have hcz18_6 : wc.cell? ⟨gb164, 6, none⟩ = some (.int .i64 a0_6) := (blk_cell BK164.out 6).trans rfl
              have hcz18_7 : wc.cell? ⟨gb164, 7, none⟩ = some (.int .i64 a0_7) := (blk_cell BK164.out 7).trans rfl
              have hcz18_8 : wc.cell? ⟨gb164, 8, none⟩ = some (.int .i64 a0_8) := (blk_cell BK164.out 8).trans rfl
              have hfz18_0 := blk_frozen BK164.out 0
              have hfz18_1 := blk_frozen BK164.out 1
              have hfz18_2 := blk_frozen BK164.out 2
              have hfz18_3 := blk_frozen BK164.out 3
              have hfz18_4 := blk_frozen BK164.out 4
              have hfz18_5 := blk_frozen BK164.out 5
              have hfz18_6 := blk_frozen BK164.out 6
              have hfz18_7 := blk_frozen BK164.out 7
              have hfz18_8 := blk_frozen BK164.out 8
              have p166 : 0 ≤ (a1_3 : Int) := of_decide_eq_true (by first | (with_reducible assumption) | assumption)
              have q166 : a1_3 < (l0_0.length : Int) := of_decide_eq_true (by first | (with_reducible assumption) | assumption)
              obtain ⟨ad166, e166, hx166_0, hx166_1⟩ := at_T66 HR0_0.out a1_3 p166 q166
              cases e166
              replace hx166_0 := (HB.out.cell (World.block_lt_of_cell? w _ hx166_0)).trans hx166_0
              replace hx166_1 := (HB.out.cell (World.block_lt_of_cell? w _ hx166_1)).trans hx166_1
              replace p166 := eq_true p166
              replace q166 := eq_true q166
              go_wp2
              repeat (go_quiet (fail); try go_wp2)
              go_ret
              exact ⟨by first | rfl | (simp [errW_none, errW_some] <;> rfl) | (simp [*, errW_none, errW_some] <;> rfl), by repeat (first | (with_reducible first | exact HB.out | apply below_alloc | apply pw_below_drewN | apply below_drew1 | refine below_set ?_ GE164.out | refine below_set ?_ GE165.out) | exact HB.out)⟩
            · rw [if_neg c15] at H
              exact absurd H (by simp)
          · rw [if_neg c14] at H
            have c14b0 : decide (a1_3 < (l0_0.length : Int)) = false := decide_eq_false c14
            clear c14
            obtain rfl := Option.some.inj H
            have hnb19 := NB165_164.out
            have hnc19 := NB164_165.out
            have hcz20_0 : wc.cell? ⟨gb165, 0, none⟩ = some (.int .i64 a1_0) := (blk_cell BK165.out 0).trans rfl
            have hcz20_1 : wc.cell? ⟨gb165, 1, none⟩ = some (.int .i64 a1_1) := (blk_cell BK165.out 1).trans rfl
            have hcz20_2 : wc.cell? ⟨gb165, 2, none⟩ = some (.int .i64 a1_2) := (blk_cell BK165.out 2).trans rfl
            have hcz20_3 : wc.cell? ⟨gb165, 3, none⟩ = some (.int .i64 a1_3) := (blk_cell BK165.out 3).trans rfl
            have hcz20_4 : wc.cell? ⟨gb165, 4, none⟩ = some (.int .i64 a1_4) := (blk_cell BK165.out 4).trans rfl
            have hcz20_5 : wc.cell? ⟨gb165, 5, none⟩ = some (.int .i64 a1_5) := (blk_cell BK165.out 5).trans rfl
            have hfz20_0 := blk_frozen BK165.out 0
            have hfz20_1 := blk_frozen BK165.out 1
            have hfz20_2 := blk_frozen BK165.out 2
            have hfz20_3 := blk_frozen BK165.out 3
            have hfz20_4 := blk_frozen BK165.out 4
            have hfz20_5 := blk_frozen BK165.out 5
            have hcz21_0 : wc.cell? ⟨gb164, 0, none⟩ = some (.slice A0_0 l0_0.length c0_0) := (blk_cell BK164.out 0).trans rfl
            have hcz21_1 : wc.cell? ⟨gb164, 1, none⟩ = some (.slice A0_1 l0_1.length c0_1) := (blk_cell BK164.out 1).trans rfl
            have hcz21_2 : wc.cell? ⟨gb164, 2, none⟩ = some (.slice A0_2 l0_2.length c0_2) := (blk_cell BK164.out 2).trans rfl
            have hcz21_3 : wc.cell? ⟨gb164, 3, none⟩ = some (.int .i64 a0_3) := (blk_cell BK164.out 3).trans rfl
            have hcz21_4 : wc.cell? ⟨gb164, 4, none⟩ = some (.int .i64 a0_4) := (blk_cell BK164.out 4).trans rfl
            have hcz21_5 : wc.cell? ⟨gb164, 5, none⟩ = some (.int .i64 a0_5) := (blk_cell BK164.out 5).trans rfl
            have hcz21_6 : wc.cell? ⟨gb164, 6, none⟩ = some (.int .i64 a0_6) := (blk_cell BK164.out 6).trans rfl
            have hcz21_7 : wc.cell? ⟨gb164, 7, none⟩ = some (.int .i64 a0_7) := (blk_cell BK164.out 7).trans rfl
            have hcz21_8 : wc.cell? ⟨gb164, 8, none⟩ = some (.int .i64 a0_8) := (blk_cell BK164.out 8).trans rfl
            have hfz21_0 := blk_frozen BK164.out 0
            have hfz21_1 := blk_frozen BK164.out 1
            have hfz21_2 := blk_frozen BK164.out 2
            have hfz21_3 := blk_frozen BK164.out 3
            have hfz21_4 := blk_frozen BK164.out 4
            have hfz21_5 := blk_frozen BK164.out 5
            have hfz21_6 := blk_frozen BK164.out 6
            have hfz21_7 := blk_frozen BK164.out 7
            have hfz21_8 := blk_frozen BK164.out 8
            go_wp2
            repeat (go_quiet (fail); try go_wp2)
            go_ret
            exact ⟨by first | rfl | (simp [errW_none, errW_some] <;> rfl) | (simp [*, errW_none, errW_some] <;> rfl), by repeat (first | (with_reducible first | exact HB.out | apply below_alloc | apply pw_below_drewN | apply below_drew1 | refine below_set ?_ GE164.out | refine below_set ?_ GE165.out) | exact HB.out)⟩
        · rw [if_neg c13] at H
          have c13b0 : decide (0 ≤ a1_3) = false := decide_eq_false c13
          clear c13
          obtain rfl := Option.some.inj H
          have hnb22 := NB165_164.out
          have hnc22 := NB164_165.out
          have hcz23_0 : wc.cell? ⟨gb165, 0, none⟩ = some (.int .i64 a1_0) := (blk_cell BK165.out 0).trans rfl
          have hcz23_1 : wc.cell? ⟨gb165, 1, none⟩ = some (.int .i64 a1_1) := (blk_cell BK165.out 1).trans rfl
          have hcz23_2 : wc.cell? ⟨gb165, 2, none⟩ = some (.int .i64 a1_2) := (blk_cell BK165.out 2).trans rfl
          have hcz23_3 : wc.cell? ⟨gb165, 3, none⟩ = some (.int .i64 a1_3) := (blk_cell BK165.out 3).trans rfl
          have hcz23_4 : wc.cell? ⟨gb165, 4, none⟩ = some (.int .i64 a1_4) := (blk_cell BK165.out 4).trans rfl
          have hcz23_5 : wc.cell? ⟨gb165, 5, none⟩ = some (.int .i64 a1_5) := (blk_cell BK165.out 5).trans rfl
          have hfz23_0 := blk_frozen BK165.out 0
          have hfz23_1 := blk_frozen BK165.out 1
          have hfz23_2 := blk_frozen BK165.out 2
          have hfz23_3 := blk_frozen BK165.out 3
          have hfz23_4 := blk_frozen BK165.out 4
          have hfz23_5 := blk_frozen BK165.out 5
          go_wp2
          repeat (go_quiet (fail); try go_wp2)
          go_ret
          exact ⟨by first | rfl | (simp [errW_none, errW_some] <;> rfl) | (simp [*, errW_none, errW_some] <;> rfl), by repeat (first | (with_reducible first | exact HB.out | apply below_alloc | apply pw_below_drewN | apply below_drew1 | refine below_set ?_ GE164.out | refine below_set ?_ GE165.out) | exact HB.out)⟩
      · rw [if_neg c12] at H
        have c12b0 : (a1_0 == 1) = false := beq_eq_false_iff_ne.mpr c12
        have c12b1 : (a1_0 != 1) = true := bne_iff_ne.mpr c12
        by_cases c24 : a1_0 = 2
        · rw [if_pos c24] at H
          have c24b0 : (a1_0 == 2) = true := beq_iff_eq.mpr c24
          have c24b1 : (a1_0 != 2) = false := bne_eq_false_iff_eq.mpr c24
          clear c24
          obtain rfl := Option.some.inj H
          have hnb25 := NB165_164.out
          have hnc25 := NB164_165.out
          have hcz26_0 : wc.cell? ⟨gb165, 0, none⟩ = some (.int .i64 a1_0) := (blk_cell BK165.out 0).trans rfl
          have hcz26_1 : wc.cell? ⟨gb165, 1, none⟩ = some (.int .i64 a1_1) := (blk_cell BK165.out 1).trans rfl
          have hcz26_2 : wc.cell? ⟨gb165, 2, none⟩ = some (.int .i64 a1_2) := (blk_cell BK165.out 2).trans rfl
          have hcz26_3 : wc.cell? ⟨gb165, 3, none⟩ = some (.int .i64 a1_3) := (blk_cell BK165.out 3).trans rfl
          have hcz26_4 : wc.cell? ⟨gb165, 4, none⟩ = some (.int .i64 a1_4) := (blk_cell BK165.out 4).trans rfl
          have hcz26_5 : wc.cell? ⟨gb165, 5, none⟩ = some (.int .i64 a1_5) := (blk_cell BK165.out 5).trans rfl
          have hfz26_0 := blk_frozen BK165.out 0
          have hfz26_1 := blk_frozen BK165.out 1
          have hfz26_2 := blk_frozen BK165.out 2
          have hfz26_3 := blk_frozen BK165.out 3
          have hfz26_4 := blk_frozen BK165.out 4
          have hfz26_5 := blk_frozen BK165.out 5
          have hcz27_0 : wc.cell? ⟨gb164, 0, none⟩ = some (.slice A0_0 l0_0.length c0_0) := (blk_cell BK164.out 0).trans rfl
          have hcz27_1 : wc.cell? ⟨gb164, 1, none⟩ = some (.slice A0_1 l0_1.length c0_1) := (blk_cell BK164.out 1).trans rfl
          have hcz27_2 : wc.cell? ⟨gb164, 2, none⟩ = some (.slice A0_2 l0_2.length c0_2) := (blk_cell BK164.out 2).trans rfl
          have hcz27_3 : wc.cell? ⟨gb164, 3, none⟩ = some (.int .i64 a0_3) := (blk_cell BK164.out 3).trans rfl
          have hcz27_4 : wc.cell? ⟨gb164, 4, none⟩ = some (.int .i64 a0_4) := (blk_cell BK164.out 4).trans rfl
          have hcz27_5 : wc.cell? ⟨gb164, 5, none⟩ = some (.int .i64 a0_5) := (blk_cell BK164.out 5).trans rfl
          have hcz27_6 : wc.cell? ⟨gb164, 6, none⟩ = some (.int .i64 a0_6) := (blk_cell BK164.out 6).trans rfl
          have hcz27_7 : wc.cell? ⟨gb164, 7, none⟩ = some (.int .i64 a0_7) := (blk_cell BK164.out 7).trans rfl
          have hcz27_8 : wc.cell? ⟨gb164, 8, none⟩ = some (.int .i64 a0_8) := (blk_cell BK164.out 8).trans rfl
          have hfz27_0 := blk_frozen BK164.out 0
          have hfz27_1 := blk_frozen BK164.out 1
          have hfz27_2 := blk_frozen BK164.out 2
          have hfz27_3 := blk_frozen BK164.out 3
          have hfz27_4 := blk_frozen BK164.out 4
          have hfz27_5 := blk_frozen BK164.out 5
          have hfz27_6 := blk_frozen BK164.out 6
          have hfz27_7 := blk_frozen BK164.out 7
          have hfz27_8 := blk_frozen BK164.out 8
          go_wp2
          repeat (go_quiet (fail); try go_wp2)
          go_ret
          exact ⟨by first | rfl | (simp [errW_none, errW_some] <;> rfl) | (simp [*, errW_none, errW_some] <;> rfl), by repeat (first | (with_reducible first | exact HB.out | apply below_alloc | apply pw_below_drewN | apply below_drew1 | refine below_set ?_ GE164.out | refine below_set ?_ GE165.out) | exact HB.out)⟩
        · rw [if_neg c24] at H
          have c24b0 : (a1_0 == 2) = false := beq_eq_false_iff_ne.mpr c24
          have c24b1 : (a1_0 != 2) = true := bne_iff_ne.mpr c24
          by_cases c28 : a1_0 = 3
          · rw [if_pos c28] at H
            have c28b0 : (a1_0 == 3) = true := beq_iff_eq.mpr c28
            have c28b1 : (a1_0 != 3) = false := bne_eq_false_iff_eq.mpr c28
            clear c28
            obtain rfl := Option.some.inj H
            have hnb29 := NB165_164.out
            have hnc29 := NB164_165.out
            have hcz30_0 : wc.cell? ⟨gb165, 0, none⟩ = some (.int .i64 a1_0) := (blk_cell BK165.out 0).trans rfl
            have hcz30_1 : wc.cell? ⟨gb165, 1, none⟩ = some (.int .i64 a1_1) := (blk_cell BK165.out 1).trans rfl
            have hcz30_2 : wc.cell? ⟨gb165, 2, none⟩ = some (.int .i64 a1_2) := (blk_cell BK165.out 2).trans rfl
            have hcz30_3 : wc.cell? ⟨gb165, 3, none⟩ = some (.int .i64 a1_3) := (blk_cell BK165.out 3).trans rfl
            have hcz30_4 : wc.cell? ⟨gb165, 4, none⟩ = some (.int .i64 a1_4) := (blk_cell BK165.out 4).trans rfl
            have hcz30_5 : wc.cell? ⟨gb165, 5, none⟩ = some (.int .i64 a1_5) := (blk_cell BK165.out 5).trans rfl
            have hfz30_0 := blk_frozen BK165.out 0
            have hfz30_1 := blk_frozen BK165.out 1
            have hfz30_2 := blk_frozen BK165.out 2
            have hfz30_3 := blk_frozen BK165.out 3
            have hfz30_4 := blk_frozen BK165.out 4
            have hfz30_5 := blk_frozen BK165.out 5
            have hcz31_0 : wc.cell? ⟨gb164, 0, none⟩ = some (.slice A0_0 l0_0.length c0_0) := (blk_cell BK164.out 0).trans rfl
            have hcz31_1 : wc.cell? ⟨gb164, 1, none⟩ = some (.slice A0_1 l0_1.length c0_1) := (blk_cell BK164.out 1).trans rfl
            have hcz31_2 : wc.cell? ⟨gb164, 2, none⟩ = some (.slice A0_2 l0_2.length c0_2) := (blk_cell BK164.out 2).trans rfl
            have hcz31_3 : wc.cell? ⟨gb164, 3, none⟩ = some (.int .i64 a0_3) := (blk_cell BK164.out 3).trans rfl
            have hcz31_4 : wc.cell? ⟨gb164, 4, none⟩ = some (.int .i64 a0_4) := (blk_cell BK164.out 4).trans rfl
            have hcz31_5 : wc.cell? ⟨gb164, 5, none⟩ = some (.int .i64 a0_5) := (blk_cell BK164.out 5).trans rfl
            have hcz31_6 : wc.cell? ⟨gb164, 6, none⟩ = some (.int .i64 a0_6) := (blk_cell BK164.out 6).trans rfl
            have hcz31_7 : wc.cell? ⟨gb164, 7, none⟩ = some (.int .i64 a0_7) := (blk_cell BK164.out 7).trans rfl
            have hcz31_8 : wc.cell? ⟨gb164, 8, none⟩ = some (.int .i64 a0_8) := (blk_cell BK164.out 8).trans rfl
            have hfz31_0 := blk_frozen BK164.out 0
            have hfz31_1 := blk_frozen BK164.out 1
            have hfz31_2 := blk_frozen BK164.out 2
            have hfz31_3 := blk_frozen BK164.out 3
            have hfz31_4 := blk_frozen BK164.out 4
            have hfz31_5 := blk_frozen BK164.out 5
            have hfz31_6 := blk_frozen BK164.out 6
            have hfz31_7 := blk_frozen BK164.out 7
            have hfz31_8 := blk_frozen BK164.out 8
            go_wp2
            repeat (go_quiet (fail); try go_wp2)
            go_ret
            exact ⟨by first | rfl | (simp [errW_none, errW_some] <;> rfl) | (simp [*, errW_none, errW_some] <;> rfl), by repeat (first | (with_reducible first | exact HB.out | apply below_alloc | apply pw_below_drewN | apply below_drew1 | refine below_set ?_ GE164.out | refine below_set ?_ GE165.out) | exact HB.out)⟩
          · rw [if_neg c28] at H
            have c28b0 : (a1_0 == 3) = false := beq_eq_false_iff_ne.mpr c28
            have c28b1 : (a1_0 != 3) = true := bne_iff_ne.mpr c28
            by_cases c32 : a1_0 = 4
            · rw [if_pos c32] at H
              have c32b0 : (a1_0 == 4) = true := beq_iff_eq.mpr c32
              have c32b1 : (a1_0 != 4) = false := bne_eq_false_iff_eq.mpr c32
              clear c32
              by_cases c33 : x5_2 = true
              · subst c33
                have H1 : (if 0 ≤ a1_3 then (if a1_3 < (l0_1.length : Int) then (some ((rd_T69 l0_1 a1_3).f3)) else (none)) else (none)) = some r := by rw [if_pos rfl] at H; exact H
                clear H
                have H := H1
                clear H1
                by_cases c34 : 0 ≤ a1_3
                · rw [if_pos c34] at H
                  have c34b0 : decide (0 ≤ a1_3) = true := decide_eq_true c34
                  clear c34
                  by_cases c35 : a1_3 < (l0_1.length : Int)
                  · rw [if_pos c35] at H
                    have c35b0 : decide (a1_3 < (l0_1.length : Int)) = true := decide_eq_true c35
                    clear c35
                    obtain rfl := Option.some.inj H
                    have hnb36 := NB165_164.out
                    have hnc36 := NB164_165.out
                    have hcz37_0 : wc.cell? ⟨gb165, 0, none⟩ = some (.int .i64 a1_0) := (blk_cell BK165.out 0).trans rfl
                    have hcz37_1 : wc.cell? ⟨gb165, 1, none⟩ = some (.int .i64 a1_1) := (blk_cell BK165.out 1).trans rfl
                    have hcz37_2 : wc.cell? ⟨gb165, 2, none⟩ = some (.int .i64 a1_2) := (blk_cell BK165.out 2).trans rfl
                    have hcz37_3 : wc.cell? ⟨gb165, 3, none⟩ = some (.int .i64 a1_3) := (blk_cell BK165.out 3).trans rfl
                    have hcz37_4 : wc.cell? ⟨gb165, 4, none⟩ = some (.int .i64 a1_4) := (blk_cell BK165.out 4).trans rfl
                    have hcz37_5 : wc.cell? ⟨gb165, 5, none⟩ = some (.int .i64 a1_5) := (blk_cell BK165.out 5).trans rfl
                    have hfz37_0 := blk_frozen BK165.out 0
                    have hfz37_1 := blk_frozen BK165.out 1
                    have hfz37_2 := blk_frozen BK165.out 2
                    have hfz37_3 := blk_frozen BK165.out 3
                    have hfz37_4 := blk_frozen BK165.out 4
                    have hfz37_5 := blk_frozen BK165.out 5
                    have hcz38_0 : wc.cell? ⟨gb164, 0, none⟩ = some (.slice A0_0 l0_0.length c0_0) := (blk_cell BK164.out 0).trans rfl
                    have hcz38_1 : wc.cell? ⟨gb164, 1, none⟩ = some (.slice A0_1 l0_1.length c0_1) := (blk_cell BK164.out 1).trans rfl
                    have hcz38_2 : wc.cell? ⟨gb164, 2, none⟩ = some (.slice A0_2 l0_2.length c0_2) := (blk_cell BK164.out 2).trans rfl
                    have hcz38_3 : wc.cell? ⟨gb164, 3, none⟩ = some (.int .i64 a0_3) := (blk_cell BK164.out 3).trans rfl
                    have hcz38_4 : wc.cell? ⟨gb164, 4, none⟩ = some (.int .i64 a0_4) := (blk_cell BK164.out 4).trans rfl
                    have hcz38_5 : wc.cell? ⟨gb164, 5, none⟩ = some (.int .i64 a0_5) := (blk_cell BK164.out 5).trans rfl
                    have hcz38_6 : wc.cell? ⟨gb164, 6, none⟩ = some (.int .i64 a0_6) := (blk_cell BK164.out 6).trans rfl
                    have hcz38_7 : wc.cell? ⟨gb164, 7, none⟩ = some (.int .i64 a0_7) := (blk_cell BK164.out 7).trans rfl
                    have hcz38_8 : wc.cell? ⟨gb164, 8, none⟩ = some (.int .i64 a0_8) := (blk_cell BK164.out 8).trans rfl
                    have hfz38_0 := blk_frozen BK164.out 0
                    have hfz38_1 := blk_frozen BK164.out 1
                    have hfz38_2 := blk_frozen BK164.out 2
                    have hfz38_3 := blk_frozen BK164.out 3
                    have hfz38_4 := blk_frozen BK164.out 4
                    have hfz38_5 := blk_frozen BK164.out 5
                    have hfz38_6 := blk_frozen BK164.out 6
                    have hfz38_7 := blk_frozen BK164.out 7
                    have hfz38_8 := blk_frozen BK164.out 8
                    have p167 : 0 ≤ (a1_3 : Int) := of_decide_eq_true (by first | (with_reducible assumption) | assumption)
                    have q167 : a1_3 < (l0_1.length : Int) := of_decide_eq_true (by first | (with_reducible assumption) | assumption)
                    obtain ⟨ad167, e167, hx167_0, hx167_1, hx167_2, hx167_3, hx167_4, hx167_5⟩ := at_T69 HR0_1.out a1_3 p167 q167
                    cases e167
                    replace hx167_0 := (HB.out.cell (World.block_lt_of_cell? w _ hx167_0)).trans hx167_0
                    replace hx167_1 := (HB.out.cell (World.block_lt_of_cell? w _ hx167_1)).trans hx167_1
                    replace hx167_2 := (HB.out.cell (World.block_lt_of_cell? w _ hx167_2)).trans hx167_2
                    replace hx167_3 := (HB.out.cell (World.block_lt_of_cell? w _ hx167_3)).trans hx167_3
                    replace hx167_4 := (HB.out.cell (World.block_lt_of_cell? w _ hx167_4)).trans hx167_4
                    replace hx167_5 := (HB.out.cell (World.block_lt_of_cell? w _ hx167_5)).trans hx167_5
                    replace p167 := eq_true p167
                    replace q167 := eq_true q167
                    go_wp2
                    repeat (go_quiet (fail); try go_wp2)
                    go_ret
                    exact ⟨by first | rfl | (simp [errW_none, errW_some] <;> rfl) | (simp [*, errW_none, errW_some] <;> rfl), by repeat (first | (with_reducible first | exact HB.out | apply below_alloc | apply pw_below_drewN | apply below_drew1 | refine below_set ?_ GE164.out | refine below_set ?_ GE165.out) | exact HB.out)⟩
                  · rw [if_neg c35] at H
                    exact absurd H (by simp)
                · rw [if_neg c34] at H
                  exact absurd H (by simp)
              · replace c33 := Bool.eq_false_iff.mpr c33
                subst c33
                have H1 : (some 0) = some r := by rw [if_neg (show ¬ (false = true) by decide)] at H; exact H
                clear H
                have H := H1
                clear H1
                obtain rfl := Option.some.inj H
                have hnb39 := NB165_164.out
                have hnc39 := NB164_165.out
                have hcz40_0 : wc.cell? ⟨gb165, 0, none⟩ = some (.int .i64 a1_0) := (blk_cell BK165.out 0).trans rfl
                have hcz40_1 : wc.cell? ⟨gb165, 1, none⟩ = some (.int .i64 a1_1) := (blk_cell BK165.out 1).trans rfl
                have hcz40_2 : wc.cell? ⟨gb165, 2, none⟩ = some (.int .i64 a1_2) := (blk_cell BK165.out 2).trans rfl
                have hcz40_3 : wc.cell? ⟨gb165, 3, none⟩ = some (.int .i64 a1_3) := (blk_cell BK165.out 3).trans rfl
                have hcz40_4 : wc.cell? ⟨gb165, 4, none⟩ = some (.int .i64 a1_4) := (blk_cell BK165.out 4).trans rfl
                have hcz40_5 : wc.cell? ⟨gb165, 5, none⟩ = some (.int .i64 a1_5) := (blk_cell BK165.out 5).trans rfl
                have hfz40_0 := blk_frozen BK165.out 0
                have hfz40_1 := blk_frozen BK165.out 1
                have hfz40_2 := blk_frozen BK165.out 2
                have hfz40_3 := blk_frozen BK165.out 3
                have hfz40_4 := blk_frozen BK165.out 4
                have hfz40_5 := blk_frozen BK165.out 5
                go_wp2
                repeat (go_quiet (fail); try go_wp2)
                go_ret
                exact ⟨by first | rfl | (simp [errW_none, errW_some] <;> rfl) | (simp [*, errW_none, errW_some] <;> rfl), by repeat (first | (with_reducible first | exact HB.out | apply below_alloc | apply pw_below_drewN | apply below_drew1 | refine below_set ?_ GE164.out | refine below_set ?_ GE165.out) | exact HB.out)⟩
            · rw [if_neg c32] at H
              have c32b0 : (a1_0 == 4) = false := beq_eq_false_iff_ne.mpr c32
              have c32b1 : (a1_0 != 4) = true := bne_iff_ne.mpr c32
              by_cases c41 : a1_0 = 5
              · rw [if_pos c41] at H
                have c41b0 : (a1_0 == 5) = true := beq_iff_eq.mpr c41
                have c41b1 : (a1_0 != 5) = false := bne_eq_false_iff_eq.mpr c41
                clear c41
                by_cases c42 : x5_2 = true
                · subst c42
                  have H1 : (if 0 ≤ a1_3 then (if a1_3 < (l0_1.length : Int) then (some (wrap64 (a1_2 * ((rd_T69 l0_1 a1_3).f0)))) else (none)) else (none)) = some r := by rw [if_pos rfl] at H; exact H
                  clear H
                  have H := H1
                  clear H1
                  by_cases c43 : 0 ≤ a1_3
                  · rw [if_pos c43] at H
                    have c43b0 : decide (0 ≤ a1_3) = true := decide_eq_true c43
                    clear c43
                    by_cases c44 : a1_3 < (l0_1.length : Int)
                    · rw [if_pos c44] at H
                      have c44b0 : decide (a1_3 < (l0_1.length : Int)) = true := decide_eq_true c44
                      clear c44
                      obtain rfl := Option.some.inj H
                      have hnb45 := NB165_164.out
                      have hnc45 := NB164_165.out
                      have hcz46_0 : wc.cell? ⟨gb165, 0, none⟩ = some (.int .i64 a1_0) := (blk_cell BK165.out 0).trans rfl
                      have hcz46_1 : wc.cell? ⟨gb165, 1, none⟩ = some (.int .i64 a1_1) := (blk_cell BK165.out 1).trans rfl
                      have hcz46_2 : wc.cell? ⟨gb165, 2, none⟩ = some (.int .i64 a1_2) := (blk_cell BK165.out 2).trans rfl
                      have hcz46_3 : wc.cell? ⟨gb165, 3, none⟩ = some (.int .i64 a1_3) := (blk_cell BK165.out 3).trans rfl
                      have hcz46_4 : wc.cell? ⟨gb165, 4, none⟩ = some (.int .i64 a1_4) := (blk_cell BK165.out 4).trans rfl
                      have hcz46_5 : wc.cell? ⟨gb165, 5, none⟩ = some (.int .i64 a1_5) := (blk_cell BK165.out 5).trans rfl
                      have hfz46_0 := blk_frozen BK165.out 0
                      have hfz46_1 := blk_frozen BK165.out 1
                      have hfz46_2 := blk_frozen BK165.out 2
                      have hfz46_3 := blk_frozen BK165.out 3
                      have hfz46_4 := blk_frozen BK165.out 4
                      have hfz46_5 := blk_frozen BK165.out 5
                      have hcz47_0 : wc.cell? ⟨gb164, 0, none⟩ = some (.slice A0_0 l0_0.length c0_0) := (blk_cell BK164.out 0).trans rfl
                      have hcz47_1 : wc.cell? ⟨gb164, 1, none⟩ = some (.slice A0_1 l0_1.length c0_1) := (blk_cell BK164.out 1).trans rfl
                      have hcz47_2 : wc.cell? ⟨gb164, 2, none⟩ = some (.slice A0_2 l0_2.length c0_2) := (blk_cell BK164.out 2).trans rfl
                      have hcz47_3 : wc.cell? ⟨gb164, 3, none⟩ = some (.int .i64 a0_3) := (blk_cell BK164.out 3).trans rfl
                      have hcz47_4 : wc.cell? ⟨gb164, 4, none⟩ = some (.int .i64 a0_4) := (blk_cell BK164.out 4).trans rfl
                      have hcz47_5 : wc.cell? ⟨gb164, 5, none⟩ = some (.int .i64 a0_5) := (blk_cell BK164.out 5).trans rfl
                      have hcz47_6 : wc.cell? ⟨gb164, 6, none⟩ = some (.int .i64 a0_6) := (blk_cell BK164.out 6).trans rfl
                      have hcz47_7 : wc.cell? ⟨gb164, 7, none⟩ = some (.int .i64 a0_7) := (blk_cell BK164.out 7).trans rfl
                      have hcz47_8 : wc.cell? ⟨gb164, 8, none⟩ = some (.int .i64 a0_8) := (blk_cell BK164.out 8).trans rfl
                      have hfz47_0 := blk_frozen BK164.out 0
                      have hfz47_1 := blk_frozen BK164.out 1
                      have hfz47_2 := blk_frozen BK164.out 2
                      have hfz47_3 := blk_frozen BK164.out 3
                      have hfz47_4 := blk_frozen BK164.out 4
                      have hfz47_5 := blk_frozen BK164.out 5
                      have hfz47_6 := blk_frozen BK164.out 6
                      have hfz47_7 := blk_frozen BK164.out 7
                      have hfz47_8 := blk_frozen BK164.out 8
                      have p168 : 0 ≤ (a1_3 : Int) := of_decide_eq_true (by first | (with_reducible assumption) | assumption)
                      have q168 : a1_3 < (l0_1.length : Int) := of_decide_eq_true (by first | (with_reducible assumption) | assumption)
                      obtain ⟨ad168, e168, hx168_0, hx168_1, hx168_2, hx168_3, hx168_4, hx168_5⟩ := at_T69 HR0_1.out a1_3 p168 q168
                      cases e168
                      replace hx168_0 := (HB.out.cell (World.block_lt_of_cell? w _ hx168_0)).trans hx168_0
                      replace hx168_1 := (HB.out.cell (World.block_lt_of_cell? w _ hx168_1)).trans hx168_1
                      replace hx168_2 := (HB.out.cell (World.block_lt_of_cell? w _ hx168_2)).trans hx168_2
                      replace hx168_3 := (HB.out.cell (World.block_lt_of_cell? w _ hx168_3)).trans hx168_3
                      replace hx168_4 := (HB.out.cell (World.block_lt_of_cell? w _ hx168_4)).trans hx168_4
                      replace hx168_5 := (HB.out.cell (World.block_lt_of_cell? w _ hx168_5)).trans hx168_5
                      replace p168 := eq_true p168
                      replace q168 := eq_true q168
                      go_wp2
                      repeat (go_quiet (fail); try go_wp2)
                      go_ret
                      exact ⟨by first | rfl | (simp [errW_none, errW_some] <;> rfl) | (simp [*, errW_none, errW_some] <;> rfl), by repeat (first | (with_reducible first | exact HB.out | apply below_alloc | apply pw_below_drewN | apply below_drew1 | refine below_set ?_ GE164.out | refine below_set ?_ GE165.out) | exact HB.out)⟩
                    · rw [if_neg c44] at H
                      exact absurd H (by simp)
                  · rw [if_neg c43] at H
                    exact absurd H (by simp)
                · replace c42 := Bool.eq_false_iff.mpr c42
                  subst c42
                  have H1 : (some 0) = some r := by rw [if_neg (show ¬ (false = true) by decide)] at H; exact H
                  clear H
                  have H := H1
                  clear H1
                  obtain rfl := Option.some.inj H
                  have hnb48 := NB165_164.out
                  have hnc48 := NB164_165.out
                  have hcz49_0 : wc.cell? ⟨gb165, 0, none⟩ = some (.int .i64 a1_0) := (blk_cell BK165.out 0).trans rfl
                  have hcz49_1 : wc.cell? ⟨gb165, 1, none⟩ = some (.int .i64 a1_1) := (blk_cell BK165.out 1).trans rfl
                  have hcz49_2 : wc.cell? ⟨gb165, 2, none⟩ = some (.int .i64 a1_2) := (blk_cell BK165.out 2).trans rfl
                  have hcz49_3 : wc.cell? ⟨gb165, 3, none⟩ = some (.int .i64 a1_3) := (blk_cell BK165.out 3).trans rfl
                  have hcz49_4 : wc.cell? ⟨gb165, 4, none⟩ = some (.int .i64 a1_4) := (blk_cell BK165.out 4).trans rfl
                  have hcz49_5 : wc.cell? ⟨gb165, 5, none⟩ = some (.int .i64 a1_5) := (blk_cell BK165.out 5).trans rfl
                  have hfz49_0 := blk_frozen BK165.out 0
                  have hfz49_1 := blk_frozen BK165.out 1
                  have hfz49_2 := blk_frozen BK165.out 2
                  have hfz49_3 := blk_frozen BK165.out 3
                  have hfz49_4 := blk_frozen BK165.out 4
                  have hfz49_5 := blk_frozen BK165.out 5
                  go_wp2
                  repeat (go_quiet (fail); try go_wp2)
                  go_ret
                  exact ⟨by first | rfl | (simp [errW_none, errW_some] <;> rfl) | (simp [*, errW_none, errW_some] <;> rfl), by repeat (first | (with_reducible first | exact HB.out | apply below_alloc | apply pw_below_drewN | apply below_drew1 | refine below_set ?_ GE164.out | refine below_set ?_ GE165.out) | exact HB.out)⟩
              · rw [if_neg c41] at H
                have c41b0 : (a1_0 == 5) = false := beq_eq_false_iff_ne.mpr c41
                have c41b1 : (a1_0 != 5) = true := bne_iff_ne.mpr c41
                by_cases c50 : a1_0 = 6
                · rw [if_pos c50] at H
                  have c50b0 : (a1_0 == 6) = true := beq_iff_eq.mpr c50
                  have c50b1 : (a1_0 != 6) = false := bne_eq_false_iff_eq.mpr c50
                  clear c50
                  by_cases c51 : x5_2 = true
                  · subst c51
                    have H1 : (if 0 ≤ a1_3 then (if a1_3 < (l0_1.length : Int) then (some ((rd_T69 l0_1 a1_3).f4)) else (none)) else (none)) = some r := by rw [if_pos rfl] at H; exact H
                    clear H
                    have H := H1
                    clear H1
                    by_cases c52 : 0 ≤ a1_3
                    · rw [if_pos c52] at H
                      have c52b0 : decide (0 ≤ a1_3) = true := decide_eq_true c52
                      clear c52
                      by_cases c53 : a1_3 < (l0_1.length : Int)
                      · rw [if_pos c53] at H
                        have c53b0 : decide (a1_3 < (l0_1.length : Int)) = true := decide_eq_true c53
                        clear c53
                        obtain rfl := Option.some.inj H
                        have hnb54 := NB165_164.out
                        have hnc54 := NB164_165.out
                        have hcz55_0 : wc.cell? ⟨gb165, 0, none⟩ = some (.int .i64 a1_0) := (blk_cell BK165.out 0).trans rfl
                        have hcz55_1 : wc.cell? ⟨gb165, 1, none⟩ = some (.int .i64 a1_1) := (blk_cell BK165.out 1).trans rfl
                        have hcz55_2 : wc.cell? ⟨gb165, 2, none⟩ = some (.int .i64 a1_2) := (blk_cell BK165.out 2).trans rfl
                        have hcz55_3 : wc.cell? ⟨gb165, 3, none⟩ = some (.int .i64 a1_3) := (blk_cell BK165.out 3).trans rfl
                        have hcz55_4 : wc.cell? ⟨gb165, 4, none⟩ = some (.int .i64 a1_4) := (blk_cell BK165.out 4).trans rfl
                        have hcz55_5 : wc.cell? ⟨gb165, 5, none⟩ = some (.int .i64 a1_5) := (blk_cell BK165.out 5).trans rfl
                        have hfz55_0 := blk_frozen BK165.out 0
                        have hfz55_1 := blk_frozen BK165.out 1
                        have hfz55_2 := blk_frozen BK165.out 2
                        have hfz55_3 := blk_frozen BK165.out 3
                        have hfz55_4 := blk_frozen BK165.out 4
                        have hfz55_5 := blk_frozen BK165.out 5
                        have hcz56_0 : wc.cell? ⟨gb164, 0, none⟩ = some (.slice A0_0 l0_0.length c0_0) := (blk_cell BK164.out 0).trans rfl
                        have hcz56_1 : wc.cell? ⟨gb164, 1, none⟩ = some (.slice A0_1 l0_1.length c0_1) := (blk_cell BK164.out 1).trans rfl
                        have hcz56_2 : wc.cell? ⟨gb164, 2, none⟩ = some (.slice A0_2 l0_2.length c0_2) := (blk_cell BK164.out 2).trans rfl
                        have hcz56_3 : wc.cell? ⟨gb164, 3, none⟩ = some (.int .i64 a0_3) := (blk_cell BK164.out 3).trans rfl
                        have hcz56_4 : wc.cell? ⟨gb164, 4, none⟩ = some (.int .i64 a0_4) := (blk_cell BK164.out 4).trans rfl
                        have hcz56_5 : wc.cell? ⟨gb164, 5, none⟩ = some (.int .i64 a0_5) := (blk_cell BK164.out 5).trans rfl
                        have hcz56_6 : wc.cell? ⟨gb164, 6, none⟩ = some (.int .i64 a0_6) := (blk_cell BK164.out 6).trans rfl
                        have hcz56_7 : wc.cell? ⟨gb164, 7, none⟩ = some (.int .i64 a0_7) := (blk_cell BK164.out 7).trans rfl
                        have hcz56_8 : wc.cell? ⟨gb164, 8, none⟩ = some (.int .i64 a0_8) := (blk_cell BK164.out 8).trans rfl
                        have hfz56_0 := blk_frozen BK164.out 0
                        have hfz56_1 := blk_frozen BK164.out 1
                        have hfz56_2 := blk_frozen BK164.out 2
                        have hfz56_3 := blk_frozen BK164.out 3
                        have hfz56_4 := blk_frozen BK164.out 4
                        have hfz56_5 := blk_frozen BK164.out 5
                        have hfz56_6 := blk_frozen BK164.out 6
                        have hfz56_7 := blk_frozen BK164.out 7
                        have hfz56_8 := blk_frozen BK164.out 8
                        have p169 : 0 ≤ (a1_3 : Int) := of_decide_eq_true (by first | (with_reducible assumption) | assumption)
                        have q169 : a1_3 < (l0_1.length : Int) := of_decide_eq_true (by first | (with_reducible assumption) | assumption)
                        obtain ⟨ad169, e169, hx169_0, hx169_1, hx169_2, hx169_3, hx169_4, hx169_5⟩ := at_T69 HR0_1.out a1_3 p169 q169
                        cases e169
                        replace hx169_0 := (HB.out.cell (World.block_lt_of_cell? w _ hx169_0)).trans hx169_0
                        replace hx169_1 := (HB.out.cell (World.block_lt_of_cell? w _ hx169_1)).trans hx169_1
                        replace hx169_2 := (HB.out.cell (World.block_lt_of_cell? w _ hx169_2)).trans hx169_2
                        replace hx169_3 := (HB.out.cell (World.block_lt_of_cell? w _ hx169_3)).trans hx169_3
                        replace hx169_4 := (HB.out.cell (World.block_lt_of_cell? w _ hx169_4)).trans hx169_4
                        replace hx169_5 := (HB.out.cell (World.block_lt_of_cell? w _ hx169_5)).trans hx169_5
                        replace p169 := eq_true p169
                        replace q169 := eq_true q169
                        go_wp2
                        repeat (go_quiet (fail); try go_wp2)
                        go_ret
                        exact ⟨by first | rfl | (simp [errW_none, errW_some] <;> rfl) | (simp [*, errW_none, errW_some] <;> rfl), by repeat (first | (with_reducible first | exact HB.out | apply below_alloc | apply pw_below_drewN | apply below_drew1 | refine below_set ?_ GE164.out | refine below_set ?_ GE165.out) | exact HB.out)⟩
                      · rw [if_neg c53] at H
                        exact absurd H (by simp)
                    · rw [if_neg c52] at H
                      exact absurd H (by simp)
                  · replace c51 := Bool.eq_false_iff.mpr c51
                    subst c51
                    have H1 : (some 0) = some r := by rw [if_neg (show ¬ (false = true) by decide)] at H; exact H
                    clear H
                    have H := H1
                    clear H1
                    obtain rfl := Option.some.inj H
                    have hnb57 := NB165_164.out
                    have hnc57 := NB164_165.out
                    have hcz58_0 : wc.cell? ⟨gb165, 0, none⟩ = some (.int .i64 a1_0) := (blk_cell BK165.out 0).trans rfl
                    have hcz58_1 : wc.cell? ⟨gb165, 1, none⟩ = some (.int .i64 a1_1) := (blk_cell BK165.out 1).trans rfl
                    have hcz58_2 : wc.cell? ⟨gb165, 2, none⟩ = some (.int .i64 a1_2) := (blk_cell BK165.out 2).trans rfl
                    have hcz58_3 : wc.cell? ⟨gb165, 3, none⟩ = some (.int .i64 a1_3) := (blk_cell BK165.out 3).trans rfl
                    have hcz58_4 : wc.cell? ⟨gb165, 4, none⟩ = some (.int .i64 a1_4) := (blk_cell BK165.out 4).trans rfl
                    have hcz58_5 : wc.cell? ⟨gb165, 5, none⟩ = some (.int .i64 a1_5) := (blk_cell BK165.out 5).trans rfl
                    have hfz58_0 := blk_frozen BK165.out 0
                    have hfz58_1 := blk_frozen BK165.out 1
                    have hfz58_2 := blk_frozen BK165.out 2
                    have hfz58_3 := blk_frozen BK165.out 3
                    have hfz58_4 := blk_frozen BK165.out 4
                    have hfz58_5 := blk_frozen BK165.out 5
                    go_wp2
                    repeat (go_quiet (fail); try go_wp2)
                    go_ret
                    exact ⟨by first | rfl | (simp [errW_none, errW_some] <;> rfl) | (simp [*, errW_none, errW_some] <;> rfl), by repeat (first | (with_reducible first | exact HB.out | apply below_alloc | apply pw_below_drewN | apply below_drew1 | refine below_set ?_ GE164.out | refine below_set ?_ GE165.out) | exact HB.out)⟩
                · rw [if_neg c50] at H
                  have c50b0 : (a1_0 == 6) = false := beq_eq_false_iff_ne.mpr c50
                  have c50b1 : (a1_0 != 6) = true := bne_iff_ne.mpr c50
                  obtain rfl := Option.some.inj H
                  have hnb59 := NB165_164.out
                  have hnc59 := NB164_165.out
                  have hcz60_0 : wc.cell? ⟨gb165, 0, none⟩ = some (.int .i64 a1_0) := (blk_cell BK165.out 0).trans rfl
                  have hcz60_1 : wc.cell? ⟨gb165, 1, none⟩ = some (.int .i64 a1_1) := (blk_cell BK165.out 1).trans rfl
                  have hcz60_2 : wc.cell? ⟨gb165, 2, none⟩ = some (.int .i64 a1_2) := (blk_cell BK165.out 2).trans rfl
                  have hcz60_3 : wc.cell? ⟨gb165, 3, none⟩ = some (.int .i64 a1_3) := (blk_cell BK165.out 3).trans rfl
                  have hcz60_4 : wc.cell? ⟨gb165, 4, none⟩ = some (.int .i64 a1_4) := (blk_cell BK165.out 4).trans rfl
                  have hcz60_5 : wc.cell? ⟨gb165, 5, none⟩ = some (.int .i64 a1_5) := (blk_cell BK165.out 5).trans rfl
                  have hfz60_0 := blk_frozen BK165.out 0
                  have hfz60_1 := blk_frozen BK165.out 1
                  have hfz60_2 := blk_frozen BK165.out 2
                  have hfz60_3 := blk_frozen BK165.out 3
                  have hfz60_4 := blk_frozen BK165.out 4
                  have hfz60_5 := blk_frozen BK165.out 5
                  go_wp2
                  repeat (go_quiet (fail); try go_wp2)
                  go_ret
                  exact ⟨by first | rfl | (simp [errW_none, errW_some] <;> rfl) | (simp [*, errW_none, errW_some] <;> rfl), by repeat (first | (with_reducible first | exact HB.out | apply below_alloc | apply pw_below_drewN | apply below_drew1 | refine below_set ?_ GE164.out | refine below_set ?_ GE165.out) | exact HB.out)⟩

end Go.Proofs.Ytfimgecceneagaa.PAll
