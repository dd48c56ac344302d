-- Written by the kit's print.py; laid as one text a function by this session's split.py.
import Derived.Test.YtahdadmibmgpmaaPAllx0
import Derived.Test.YtahdadmibmgpmaaPAllf23
namespace Go.Proofs.Ytahdadmibmgpmaa.PAll
open Go.RowKit Go.Proofs.YtahdadmibmgpmaaW.PrintWords Go.Proofs.YtahdadmibmgpmaaW.PrintLast
set_option linter.unusedVariables false
set_option linter.unusedSimpArgs false

/-! ### dormouseref21_Parts: function 13 -/
def dormouseref21_Parts.l0 : Nat → List (S33) → Int → Int → Int → List (S45) → List (S48) → List (S51) → Int → Int → Int → Int → Int → Int → Option (Bool)
  | 0, _, _, _, _, _, _, _, _, _, _, _, _, _ => none
  | k + 1, x1, x2, x7, x8, x225000, x225001, x225002, x225003, x225004, x225005, x225006, x225007, x225008 => if x8 < (x1.length : Int) then (if 0 ≤ x8 then (if ((rd_T33 x1 x8).f1) = x7 then ((dormouseref21_one.f k x225000 x225001 x225002 x225003 x225004 x225005 x225006 x225007 x225008 ((rd_T33 x1 x8).f0) ((rd_T33 x1 x8).f1) ((rd_T33 x1 x8).f2) ((rd_T33 x1 x8).f3) ((rd_T33 x1 x8).f4) ((rd_T33 x1 x8).f5)).bind fun t227 => (if t227 = true then (dormouseref21_Parts.l0 k x1 x2 (wrap64 (x7 + ((rd_T33 x1 x8).f2))) (wrap64 (x8 + 1)) x225000 x225001 x225002 x225003 x225004 x225005 x225006 x225007 x225008) else (some false))) else (some false)) else (none)) else (some (x7 == x2))
def dormouseref21_Parts.f (k : Nat) (l0_0 : List (S45)) (l0_1 : List (S48)) (l0_2 : List (S51)) (a0_3 : Int) (a0_4 : Int) (a0_5 : Int) (a0_6 : Int) (a0_7 : Int) (a0_8 : Int) (l1 : List (S33)) (a2 : Int) : Option (Bool) := dormouseref21_Parts.l0 k l1 a2 0 0 l0_0 l0_1 l0_2 a0_3 a0_4 a0_5 a0_6 a0_7 a0_8
theorem dormouseref21_Parts.mono_l : ∀ k, (∀ y0 y1 y2 y3 y4 y5 y6 y7 y8 y9 y10 y11 y12, LeO (dormouseref21_Parts.l0 k y0 y1 y2 y3 y4 y5 y6 y7 y8 y9 y10 y11 y12) (dormouseref21_Parts.l0 (k + 1) y0 y1 y2 y3 y4 y5 y6 y7 y8 y9 y10 y11 y12))
  | 0 => fun _ _ _ _ _ _ _ _ _ _ _ _ _ r h => by simp [dormouseref21_Parts.l0] at h
  | k + 1 => by
    have ih0 := dormouseref21_Parts.mono_l k
    · intro y0 y1 y2 y3 y4 y5 y6 y7 y8 y9 y10 y11 y12
      unfold dormouseref21_Parts.l0
      repeat' first
      | (with_reducible exact ih0 _ _ _ _ _ _ _ _ _ _ _ _ _)
      | (with_reducible exact dormouseref21_one.mono _ _ _ _ _ _ _ _ _ _ _ _ _ _ _ _)
      | (with_reducible exact LeO.refl _)
      | (with_reducible exact LeO.none _)
      | (with_reducible refine LeO.ite ?_ ?_)
      | (with_reducible refine LeO.bind ?_ (fun _ => ?_))
      | exact ih0 _ _ _ _ _ _ _ _ _ _ _ _ _
      | exact dormouseref21_one.mono _ _ _ _ _ _ _ _ _ _ _ _ _ _ _ _
      | exact LeO.none _
      | refine LeO.ite ?_ ?_
      | refine LeO.bind ?_ (fun _ => ?_)
theorem dormouseref21_Parts.mono : ∀ a0 a1 a2 a3 a4 a5 a6 a7 a8 a9 a10 k, LeO (dormouseref21_Parts.f k a0 a1 a2 a3 a4 a5 a6 a7 a8 a9 a10) (dormouseref21_Parts.f (k + 1) a0 a1 a2 a3 a4 a5 a6 a7 a8 a9 a10) := by
  intro a0 a1 a2 a3 a4 a5 a6 a7 a8 a9 a10 k
  have ih0 := dormouseref21_Parts.mono_l k
  unfold dormouseref21_Parts.f
  repeat' first
      | (with_reducible exact ih0 _ _ _ _ _ _ _ _ _ _ _ _ _)
      | (with_reducible exact dormouseref21_one.mono _ _ _ _ _ _ _ _ _ _ _ _ _ _ _ _)
      | (with_reducible exact LeO.refl _)
      | (with_reducible exact LeO.none _)
      | (with_reducible refine LeO.ite ?_ ?_)
      | (with_reducible refine LeO.bind ?_ (fun _ => ?_))
      | exact ih0 _ _ _ _ _ _ _ _ _ _ _ _ _
      | exact dormouseref21_one.mono _ _ _ _ _ _ _ _ _ _ _ _ _ _ _ _
      | exact LeO.none _
      | refine LeO.ite ?_ ?_
      | refine LeO.bind ?_ (fun _ => ?_)
def dormouseref21_Parts.T5 : Bool × List (List Nat × List Nat) := (true, [([], []), ([], []), ([0, 1], [0, 1]), ([2], [2]), ([3], [3]), ([], []), ([4, 5], [4, 5]), ([6], [6]), ([7], [7]), ([7], [7]), ([7], [7]), ([9, 10, 7], [7, 9, 10]), ([11, 7], [7, 11]), ([8, 12, 7, 7], [7, 8, 12]), ([13, 7], [7, 13]), ([7, 14], [7, 14])])
def dormouseref21_Parts.B5 : List Nat := [0, 0, 3, 7, 15, 0, 63, 127, 255, 255, 255, 1791, 3839, 8191, 16383, 32767]
theorem dormouseref21_Parts.tab5 : rtab .any (opsOf Try.f13 5) = dormouseref21_Parts.T5 := by kernel_rfl
theorem dormouseref21_Parts.bits5 : waitsOk dormouseref21_Parts.T5.2 dormouseref21_Parts.B5 = true := by kernel_rfl
theorem zAf13 {α : Type _} (l : List α) (i : Nat) (a : α) : l.toArray.setIfInBounds i a = (l.set i a).toArray := List.setIfInBounds_toArray l i a
theorem zBf13 {α : Type _} (x : α) (xs : List α) (a : α) : (x :: xs).set 0 a = a :: xs := rfl
theorem zCf13 {α : Type _} (x : α) (xs : List α) (n : Nat) (a : α) : (x :: xs).set (n + 1) a = x :: xs.set n a := rfl
abbrev qf13_0 : Array Bool := #[false, false, false, false, false, false, false, false, false, false, false, false, false, false, false, false]
abbrev qf13_1 : Array Bool := #[true, false, false, false, false, false, false, false, false, false, false, false, false, false, false, false]
abbrev qf13_2 : Array Bool := #[true, true, false, false, false, false, false, false, false, false, false, false, false, false, false, false]
abbrev qf13_3 : Array Bool := #[true, true, true, false, false, false, false, false, false, false, false, false, false, false, false, false]
abbrev qf13_4 : Array Bool := #[true, true, true, true, false, false, false, false, false, false, false, false, false, false, false, false]
abbrev qf13_5 : Array Bool := #[true, true, true, true, false, true, false, false, false, false, false, false, false, false, false, false]
abbrev qf13_6 : Array Bool := #[true, true, true, true, true, true, false, false, false, false, false, false, false, false, false, false]
abbrev qf13_7 : Array Bool := #[true, true, true, true, true, true, true, false, false, false, false, false, false, false, false, false]
abbrev qf13_8 : Array Bool := #[true, true, true, true, true, true, true, true, false, false, false, false, false, false, false, false]
abbrev qf13_9 : Array Bool := #[true, true, true, true, true, true, true, true, false, true, false, false, false, false, false, false]
abbrev qf13_10 : Array Bool := #[true, true, true, true, true, true, true, true, false, true, true, false, false, false, false, false]
abbrev qf13_11 : Array Bool := #[true, true, true, true, true, true, true, true, false, true, true, true, false, false, false, false]
abbrev qf13_12 : Array Bool := #[true, true, true, true, true, true, true, true, true, true, true, true, false, false, false, false]
abbrev qf13_13 : Array Bool := #[true, true, true, true, true, true, true, true, true, true, true, true, true, false, false, false]
abbrev qf13_14 : Array Bool := #[true, true, true, true, true, true, true, true, true, true, true, true, true, true, false, false]
abbrev qf13_15 : Array Bool := #[true, true, true, true, true, true, true, true, true, true, true, true, true, true, true, false]
abbrev qf13_16 : Array Bool := #[true, true, true, true, true, true, true, true, true, true, true, true, true, true, true, true]
set_option maxHeartbeats 8000000 in
set_option maxRecDepth 100000 in
theorem dormouseref21_Parts.calls (k : Nat) (A0_0 : Option Addr) (c0_0 : Nat) (l0_0 : List (S45)) (A0_1 : Option Addr) (c0_1 : Nat) (l0_1 : List (S48)) (A0_2 : Option Addr) (c0_2 : Nat) (l0_2 : List (S51)) (a0_3 : Int) (a0_4 : Int) (a0_5 : Int) (a0_6 : Int) (a0_7 : Int) (a0_8 : Int) (A1 : Option Addr) (c1 : Nat) (l1 : List (S33)) (a2 : Int) (r : Bool) (w : World) (hr0_0 : Kd.C k45 w A0_0 l0_0.length l0_0) (hc0_0 : l0_0.length ≤ c0_0) (hr0_1 : Kd.C k48 w A0_1 l0_1.length l0_1) (hc0_1 : l0_1.length ≤ c0_1) (hr0_2 : Kd.C k51 w A0_2 l0_2.length l0_2) (hc0_2 : l0_2.length ≤ c0_2) (hr1 : Kd.C k33 w A1 l1.length l1) (hc1 : l1.length ≤ c1) (h : dormouseref21_Parts.f k l0_0 l0_1 l0_2 a0_3 a0_4 a0_5 a0_6 a0_7 a0_8 l1 a2 = some r) :
    Calls Try.prog 13 #[.agg #[.slice A0_0 l0_0.length c0_0, .slice A0_1 l0_1.length c0_1, .slice A0_2 l0_2.length c0_2, .int .i64 a0_3, .int .i64 a0_4, .int .i64 a0_5, .int .i64 a0_6, .int .i64 a0_7, .int .i64 a0_8], .slice A1 l1.length c1, .int .i64 a2] w fun e w' => e = .returned (.bool r) ∧ Below w.heap.size w w' := by
 have hu26 := Try.underlying26
 have hu33 := Try.underlying33
 have HR0_0 := Aside0.mk hr0_0
 have HC0_0 := Aside0.mk hc0_0
 clear hr0_0 hc0_0
 have HR0_1 := Aside0.mk hr0_1
 have HC0_1 := Aside0.mk hc0_1
 clear hr0_1 hc0_1
 have HR0_2 := Aside0.mk hr0_2
 have HC0_2 := Aside0.mk hc0_2
 clear hr0_2 hc0_2
 have HR1 := Aside0.mk hr1
 have HC1 := Aside0.mk hc1
 clear hr1 hc1; have HB := Aside0.mk (Below.refl w.heap.size w)
 have H : (dormouseref21_Parts.l0 k l1 a2 0 0 l0_0 l0_1 l0_2 a0_3 a0_4 a0_5 a0_6 a0_7 a0_8) = some r := h
 clear h; have H' := Aside0.mk H; clear H
 go_enter Try.func13, Try.ntmps13
 go_wp2_with (first | ((with_reducible refine gate_dst (N := 3) rfl ?_); refine box_event ?hg (N := 3) ?hd (cs := #[.slice A0_0 l0_0.length c0_0, .slice A0_1 l0_1.length c0_1, .slice A0_2 l0_2.length c0_2, .int .i64 a0_3, .int .i64 a0_4, .int .i64 a0_5, .int .i64 a0_6, .int .i64 a0_7, .int .i64 a0_8]) (t := 26) ?hr ?_; (case hd => rfl); (case hg => rfl); (case hr => first | (go_simp; done) | (go_simp; rfl)); intro gb224 hg w4 hbox hb; have n0_ := Aside0.mk (below_step (by repeat (first | (with_reducible first | exact HB.out | apply below_alloc | apply pw_below_drewN | apply below_drew1) | exact HB.out)) hb); have n1_ := Aside0.mk (hbox); have n2_ := Aside0.mk ((by rw [hg]; exact (below_size (by repeat (first | (with_reducible first | exact HB.out | apply below_alloc | apply pw_below_drewN | apply below_drew1) | exact HB.out))) : w.heap.size ≤ gb224)); have n3_ := Aside0.mk ((by rw [hg]; exact (below_size (by repeat (first | (with_reducible first | exact HB.out | apply below_alloc | apply pw_below_drewN | apply below_drew1) | exact HB.out))) : w.heap.size ≤ gb224)); clear HB; have HB := n0_; have BK224 := n1_; have GW224 := n2_; have GE224 := n3_; clear n0_ n1_ n2_ n3_; clear hb hbox hg))
 go_loopg [7, 8] k (fun kq v7 v8 w' => ∃ (x7_1 : Int) (x8_1 : Int), v7 = .int .i64 x7_1 ∧ v8 = .int .i64 x8_1 ∧ Aside0 (dormouseref21_Parts.l0 kq l1 a2 x7_1 x8_1 l0_0 l0_1 l0_2 a0_3 a0_4 a0_5 a0_6 a0_7 a0_8 = some r) ∧ Aside0 (kq ≤ k) ∧ Aside0 (w'.heap[gb224]? = some (.cells #[(.slice A0_0 l0_0.length c0_0), (.slice A0_1 l0_1.length c0_1), (.slice A0_2 l0_2.length c0_2), .int .i64 a0_3, .int .i64 a0_4, .int .i64 a0_5, .int .i64 a0_6, .int .i64 a0_7, .int .i64 a0_8] 26 (0, 0))) ∧ Aside0 (Below w.heap.size w w'))
 case atStart => exact ⟨(0), (0), (by first | rfl | (simp; done) | (simp [*]; done)), (by first | rfl | (simp; done) | (simp [*]; done)), H', ⟨Nat.le_refl _⟩, ⟨by (with_reducible repeat (first | refine blk_drewN ?_ _ | refine blk_drew ?_ | refine blk_alloc ?_ _)); exact BK224.out⟩, ⟨by repeat (first | (with_reducible first | exact HB.out | apply below_alloc | apply pw_below_drewN | apply below_drew1 | refine below_set ?_ GE224.out) | exact HB.out)⟩⟩
 case round =>
  clear H'
  (try clear c1); (try clear p2)
  obtain ⟨x7_1, x8_1, rfl, rfl, HA, HK1, BK224, HB⟩ := hrel
  cases gk with
  | zero => exact absurd HA.out (by simp [dormouseref21_Parts.l0])
  | succ k1 =>
   have H := HA.out; clear HA
   simp only [dormouseref21_Parts.l0] at H
   by_cases c5 : x8_1 < (l1.length : Int)
   ·
    rw [if_pos c5] at H
    have c5b0 : decide (x8_1 < (l1.length : Int)) = true := decide_eq_true c5
    clear c5
    by_cases c6 : 0 ≤ x8_1
    ·
     rw [if_pos c6] at H
     have c6b0 : decide (0 ≤ x8_1) = true := decide_eq_true c6
     clear c6
     by_cases c7 : ((rd_T33 l1 x8_1).f1) = x7_1
     ·
      rw [if_pos c7] at H
      have c7b0 : (((rd_T33 l1 x8_1).f1) == x7_1) = true := beq_iff_eq.mpr c7
      have c7b1 : (((rd_T33 l1 x8_1).f1) != x7_1) = false := bne_eq_false_iff_eq.mpr c7
      clear c7
      replace H := Option.bind_eq_some_iff.mp H
      obtain ⟨t227, A80, H⟩ := H
      replace H : (if t227 = true then (dormouseref21_Parts.l0 k1 l1 a2 (wrap64 (x7_1 + ((rd_T33 l1 x8_1).f2))) (wrap64 (x8_1 + 1)) l0_0 l0_1 l0_2 a0_3 a0_4 a0_5 a0_6 a0_7 a0_8) else (some false)) = some r := H
      have A8 := Aside0.mk A80
      clear A80
      by_cases c9 : t227 = true
      ·
       subst c9
       have H1 : (dormouseref21_Parts.l0 k1 l1 a2 (wrap64 (x7_1 + ((rd_T33 l1 x8_1).f2))) (wrap64 (x8_1 + 1)) l0_0 l0_1 l0_2 a0_3 a0_4 a0_5 a0_6 a0_7 a0_8) = some r := by rw [if_pos rfl] at H; exact H
       clear H; have H := H1; clear H1; have H' := Aside0.mk H; clear H
       try go_wp2
       have n0_ := Aside0.mk (blk_drew BK224.out); have n1_ := Aside0.mk (below_drew1 HB.out); clear BK224; clear HB; have BK224 := n0_; have HB := n1_; clear n0_ n1_
       have p225 : 0 ≤ (x8_1 : Int) := of_decide_eq_true (by first | (with_reducible assumption) | assumption)
       have q225 : x8_1 < (l1.length : Int) := of_decide_eq_true (by first | (with_reducible assumption) | assumption)
       obtain ⟨ad225, e225, hx225_0, hx225_1, hx225_2, hx225_3, hx225_4, hx225_5⟩ := at_T33 HR1.out x8_1 p225 q225
       have hw225_5 := hx225_5
       have hw225_4 := hx225_4
       have hw225_3 := hx225_3
       have hw225_2 := hx225_2
       have hw225_1 := hx225_1
       have hw225_0 := hx225_0
       cases e225
       replace hx225_0 := (HB.out.cell (World.block_lt_of_cell? w _ hx225_0)).trans hx225_0
       replace hx225_1 := (HB.out.cell (World.block_lt_of_cell? w _ hx225_1)).trans hx225_1
       replace hx225_2 := (HB.out.cell (World.block_lt_of_cell? w _ hx225_2)).trans hx225_2
       replace hx225_3 := (HB.out.cell (World.block_lt_of_cell? w _ hx225_3)).trans hx225_3
       replace hx225_4 := (HB.out.cell (World.block_lt_of_cell? w _ hx225_4)).trans hx225_4
       replace hx225_5 := (HB.out.cell (World.block_lt_of_cell? w _ hx225_5)).trans hx225_5
       replace p225 := eq_true p225
       replace q225 := eq_true q225
       have p226 : 0 ≤ (x8_1 : Int) := of_decide_eq_true (by first | (with_reducible assumption) | assumption)
       have q226 : x8_1 < (l1.length : Int) := of_decide_eq_true (by first | (with_reducible assumption) | assumption)
       obtain ⟨ad226, e226, hx226_0, hx226_1, hx226_2, hx226_3, hx226_4, hx226_5⟩ := at_T33 HR1.out x8_1 p226 q226
       have hw226_5 := hx226_5
       have hw226_4 := hx226_4
       have hw226_3 := hx226_3
       have hw226_2 := hx226_2
       have hw226_1 := hx226_1
       have hw226_0 := hx226_0
       obtain rfl : ad225 = ad226 := (by injection e226)
       replace hx226_0 := (HB.out.cell (World.block_lt_of_cell? w _ hx226_0)).trans hx226_0
       replace hx226_1 := (HB.out.cell (World.block_lt_of_cell? w _ hx226_1)).trans hx226_1
       replace hx226_2 := (HB.out.cell (World.block_lt_of_cell? w _ hx226_2)).trans hx226_2
       replace hx226_3 := (HB.out.cell (World.block_lt_of_cell? w _ hx226_3)).trans hx226_3
       replace hx226_4 := (HB.out.cell (World.block_lt_of_cell? w _ hx226_4)).trans hx226_4
       replace hx226_5 := (HB.out.cell (World.block_lt_of_cell? w _ hx226_5)).trans hx226_5
       replace p226 := eq_true p226
       replace q226 := eq_true q226
       refine start_ (n := 16) (S := fun w' => w'.cell? ⟨gb224, 0, none⟩ = some (.slice A0_0 l0_0.length c0_0) ∧ w'.cell? ⟨gb224, 1, none⟩ = some (.slice A0_1 l0_1.length c0_1) ∧ w'.cell? ⟨gb224, 2, none⟩ = some (.slice A0_2 l0_2.length c0_2) ∧ w'.cell? ⟨gb224, 3, none⟩ = some (.int .i64 a0_3) ∧ w'.cell? ⟨gb224, 4, none⟩ = some (.int .i64 a0_4) ∧ w'.cell? ⟨gb224, 5, none⟩ = some (.int .i64 a0_5) ∧ w'.cell? ⟨gb224, 6, none⟩ = some (.int .i64 a0_6) ∧ w'.cell? ⟨gb224, 7, none⟩ = some (.int .i64 a0_7) ∧ w'.cell? ⟨gb224, 8, none⟩ = some (.int .i64 a0_8) ∧ w'.cell? (ad225.add ((x8_1).toNat * 6)) = some (.int .i64 ((rd_T33 l1 x8_1).f0)) ∧ w'.cell? ⟨(ad225.add ((x8_1).toNat * 6)).block, (ad225.add ((x8_1).toNat * 6)).off + 1, none⟩ = some (.int .i64 ((rd_T33 l1 x8_1).f1)) ∧ w'.cell? ⟨(ad225.add ((x8_1).toNat * 6)).block, (ad225.add ((x8_1).toNat * 6)).off + 2, none⟩ = some (.int .i64 ((rd_T33 l1 x8_1).f2)) ∧ w'.cell? ⟨(ad225.add ((x8_1).toNat * 6)).block, (ad225.add ((x8_1).toNat * 6)).off + 3, none⟩ = some (.int .i64 ((rd_T33 l1 x8_1).f3)) ∧ w'.cell? ⟨(ad225.add ((x8_1).toNat * 6)).block, (ad225.add ((x8_1).toNat * 6)).off + 4, none⟩ = some (.int .i64 ((rd_T33 l1 x8_1).f4)) ∧ w'.cell? ⟨(ad225.add ((x8_1).toNat * 6)).block, (ad225.add ((x8_1).toNat * 6)).off + 5, none⟩ = some (.int .i64 ((rd_T33 l1 x8_1).f5)) ∧ w'.cell? (ad225.add ((x8_1).toNat * 6)) = some (.int .i64 ((rd_T33 l1 x8_1).f0)) ∧ w'.cell? ⟨(ad225.add ((x8_1).toNat * 6)).block, (ad225.add ((x8_1).toNat * 6)).off + 1, none⟩ = some (.int .i64 ((rd_T33 l1 x8_1).f1)) ∧ w'.cell? ⟨(ad225.add ((x8_1).toNat * 6)).block, (ad225.add ((x8_1).toNat * 6)).off + 2, none⟩ = some (.int .i64 ((rd_T33 l1 x8_1).f2)) ∧ w'.cell? ⟨(ad225.add ((x8_1).toNat * 6)).block, (ad225.add ((x8_1).toNat * 6)).off + 3, none⟩ = some (.int .i64 ((rd_T33 l1 x8_1).f3)) ∧ w'.cell? ⟨(ad225.add ((x8_1).toNat * 6)).block, (ad225.add ((x8_1).toNat * 6)).off + 4, none⟩ = some (.int .i64 ((rd_T33 l1 x8_1).f4)) ∧ w'.cell? ⟨(ad225.add ((x8_1).toNat * 6)).block, (ad225.add ((x8_1).toNat * 6)).off + 5, none⟩ = some (.int .i64 ((rd_T33 l1 x8_1).f5))) (ds := []) qf13_0 (by kernel_rfl) rfl rfl ⟨(blk_cell BK224.out 0).trans rfl, (blk_cell BK224.out 1).trans rfl, (blk_cell BK224.out 2).trans rfl, (blk_cell BK224.out 3).trans rfl, (blk_cell BK224.out 4).trans rfl, (blk_cell BK224.out 5).trans rfl, (blk_cell BK224.out 6).trans rfl, (blk_cell BK224.out 7).trans rfl, (blk_cell BK224.out 8).trans rfl, ((HB.out.cell (World.block_lt_of_cell? w _ hw225_0)).trans hw225_0), ((HB.out.cell (World.block_lt_of_cell? w _ hw225_1)).trans hw225_1), ((HB.out.cell (World.block_lt_of_cell? w _ hw225_2)).trans hw225_2), ((HB.out.cell (World.block_lt_of_cell? w _ hw225_3)).trans hw225_3), ((HB.out.cell (World.block_lt_of_cell? w _ hw225_4)).trans hw225_4), ((HB.out.cell (World.block_lt_of_cell? w _ hw225_5)).trans hw225_5), ((HB.out.cell (World.block_lt_of_cell? w _ hw226_0)).trans hw226_0), ((HB.out.cell (World.block_lt_of_cell? w _ hw226_1)).trans hw226_1), ((HB.out.cell (World.block_lt_of_cell? w _ hw226_2)).trans hw226_2), ((HB.out.cell (World.block_lt_of_cell? w _ hw226_3)).trans hw226_3), ((HB.out.cell (World.block_lt_of_cell? w _ hw226_4)).trans hw226_4), ((HB.out.cell (World.block_lt_of_cell? w _ hw226_5)).trans hw226_5)⟩ (fun hHeld => ?_); refine with_tabW dormouseref21_Parts.tab5 dormouseref21_Parts.bits5 (fun HT_ HW_ => ?_)
       generalize wr.drew = w10 at BK224 HB hx225_0 hx225_1 hx225_2 hx225_3 hx225_4 hx225_5 hx226_0 hx226_1 hx226_2 hx226_3 hx226_4 hx226_5 hHeld ⊢
       refine pure_ (i := 0) (N := some 15) (v := ?_) (a' := ?_) qf13_1 rfl rfl (any_of HT_.out (by kernel_rfl)) (fun _ _ _ h => h) (Or.inl ⟨by rfl, ?_⟩) ?_ ?_; rotate_left; (· (intro w'; go_simp; with_reducible rfl)); rotate_left; (· (simp only [Act.put, zAf13, zBf13, zCf13, i64_w, i32_w]; rfl))
       refine pure_ (i := 1) (N := some 16) (v := ?_) (a' := ?_) qf13_2 rfl rfl (any_of HT_.out (by kernel_rfl)) (fun _ _ _ h => h) (Or.inl ⟨by rfl, ?_⟩) ?_ ?_; rotate_left; (· (intro w'; go_simp; with_reducible rfl)); rotate_left; (· (simp only [Act.put, zAf13, zBf13, zCf13, i64_w, i32_w]; rfl))
       refine pure_ (i := 2) (N := some 17) (v := ?_) (a' := ?_) qf13_3 rfl rfl (any_of HT_.out (by kernel_rfl)) (fun _ _ _ h => h) (Or.inl ⟨by rfl, ?_⟩) ?_ ?_; rotate_left; (· (intro w'; go_simp; with_reducible rfl)); rotate_left; (· (simp only [Act.put, zAf13, zBf13, zCf13, i64_w, i32_w]; rfl))
       refine pure_ (i := 3) (N := some 18) (v := ?_) (a' := ?_) qf13_4 rfl rfl (any_of HT_.out (by kernel_rfl)) (fun _ _ _ h => h) (Or.inl ⟨by rfl, ?_⟩) ?_ ?_; rotate_left; (· (intro w'; go_simp; with_reducible rfl)); rotate_left; (· (simp only [Act.put, zAf13, zBf13, zCf13, i64_w, i32_w]; rfl))
       refine pure_ (i := 5) (N := some 20) (v := ?_) (a' := ?_) qf13_5 rfl rfl (any_of HT_.out (by kernel_rfl)) (fun _ _ _ h => h) (Or.inl ⟨by rfl, ?_⟩) ?_ ?_; rotate_left; (· (intro w'; go_simp; with_reducible rfl)); rotate_left; (· (simp only [Act.put, zAf13, zBf13, zCf13, i64_w, i32_w]; rfl))
       refine take_ (i := 4) (N := some 19) (v := ?_) (a' := ?_) qf13_6 rfl rfl (take_ofW HT_.out HW_.out (by kernel_rfl)) (fun _ _ _ h => h) (Or.inl ⟨by rfl, ?_⟩) hHeld ?_ ?_; rotate_left; (· (rintro w' ⟨s0, s1, s2, s3, s4, s5, s6, s7, s8, s9, s10, s11, s12, s13, s14, s15, s16, s17, s18, s19, s20⟩; go_simp; with_reducible rfl)); rotate_left; (· (simp only [Act.put, zAf13, zBf13, zCf13, i64_w, i32_w]; rfl))
       refine pure_ (i := 6) (N := some 21) (v := ?_) (a' := ?_) qf13_7 rfl rfl (any_of HT_.out (by kernel_rfl)) (fun _ _ _ h => h) (Or.inl ⟨by rfl, ?_⟩) ?_ ?_; rotate_left; (· (intro w'; go_simp; with_reducible rfl)); rotate_left; (· (simp only [Act.put, zAf13, zBf13, zCf13, i64_w, i32_w]; rfl))
       refine pure_ (i := 7) (N := some 22) (v := ?_) (a' := ?_) qf13_8 rfl rfl (any_of HT_.out (by kernel_rfl)) (fun _ _ _ h => h) (Or.inl ⟨by rfl, ?_⟩) ?_ ?_; rotate_left; (· (intro w'; go_simp; with_reducible rfl)); rotate_left; (· (simp only [Act.put, zAf13, zBf13, zCf13, i64_w, i32_w]; rfl))
       refine pure_ (i := 9) (N := some 24) (v := ?_) (a' := ?_) qf13_9 rfl rfl (any_of HT_.out (by kernel_rfl)) (fun _ _ _ h => h) (Or.inl ⟨by rfl, ?_⟩) ?_ ?_; rotate_left; (· (intro w'; go_simp; with_reducible rfl)); rotate_left; (· (simp only [Act.put, zAf13, zBf13, zCf13, i64_w, i32_w]; rfl))
       refine pure_ (i := 10) (N := some 25) (v := ?_) (a' := ?_) qf13_10 rfl rfl (any_of HT_.out (by kernel_rfl)) (fun _ _ _ h => h) (Or.inl ⟨by rfl, ?_⟩) ?_ ?_; rotate_left; (· (intro w'; go_simp; with_reducible rfl)); rotate_left; (· (simp only [Act.put, zAf13, zBf13, zCf13, i64_w, i32_w]; rfl))
       refine pure_ (i := 11) (N := some 26) (v := ?_) (a' := ?_) qf13_11 rfl rfl (any_of HT_.out (by kernel_rfl)) (fun _ _ _ h => h) (Or.inl ⟨by rfl, ?_⟩) ?_ ?_; rotate_left; (· (intro w'; go_simp; with_reducible rfl)); rotate_left; (· (simp only [Act.put, zAf13, zBf13, zCf13, i64_w, i32_w]; rfl))
       refine take_ (i := 8) (N := some 23) (v := ?_) (a' := ?_) qf13_12 rfl rfl (take_ofW HT_.out HW_.out (by kernel_rfl)) (fun _ _ _ h => h) (Or.inl ⟨by rfl, ?_⟩) hHeld ?_ ?_; rotate_left; (· (rintro w' ⟨s0, s1, s2, s3, s4, s5, s6, s7, s8, s9, s10, s11, s12, s13, s14, s15, s16, s17, s18, s19, s20⟩; go_simp; with_reducible rfl)); rotate_left; (· (simp only [Act.put, zAf13, zBf13, zCf13, i64_w, i32_w]; rfl))
       refine take_ (i := 12) (N := some 27) (v := ?_) (a' := ?_) qf13_13 rfl rfl (take_ofW HT_.out HW_.out (by kernel_rfl)) (fun _ _ _ h => h) (Or.inl ⟨by rfl, ?_⟩) hHeld ?_ ?_; rotate_left; (· (rintro w' ⟨s0, s1, s2, s3, s4, s5, s6, s7, s8, s9, s10, s11, s12, s13, s14, s15, s16, s17, s18, s19, s20⟩; go_simp; with_reducible rfl)); rotate_left; (· (simp only [Act.put, zAf13, zBf13, zCf13, i64_w, i32_w]; rfl))
       refine one_ (i := 13) (N := some 28) qf13_14 rfl rfl (one_of HT_.out (by kernel_rfl)) (by decide) (fun K hK => ?_)
       refine goes_ Try.func23 (by kernel_rfl) rfl #[.agg #[.slice A0_0 l0_0.length c0_0, .slice A0_1 l0_1.length c0_1, .slice A0_2 l0_2.length c0_2, .int .i64 a0_3, .int .i64 a0_4, .int .i64 a0_5, .int .i64 a0_6, .int .i64 a0_7, .int .i64 a0_8], .agg #[.int .i64 ((rd_T33 l1 x8_1).f0), .int .i64 ((rd_T33 l1 x8_1).f1), .int .i64 ((rd_T33 l1 x8_1).f2), .int .i64 ((rd_T33 l1 x8_1).f3), .int .i64 ((rd_T33 l1 x8_1).f4), .int .i64 ((rd_T33 l1 x8_1).f5)]] (by rfl) rfl rfl (by (try simp only [List.map_toArray, List.map_cons, List.map_nil]); first | done | rfl | (simp only [List.length_drop, List.length_take]; rfl)) ?_
       with_reducible refine (dormouseref21_one.calls k1 _ _ l0_0 _ _ l0_1 _ _ l0_2 a0_3 a0_4 a0_5 a0_6 a0_7 a0_8 ((rd_T33 l1 x8_1).f0) ((rd_T33 l1 x8_1).f1) ((rd_T33 l1 x8_1).f2) ((rd_T33 l1 x8_1).f3) ((rd_T33 l1 x8_1).f4) ((rd_T33 l1 x8_1).f5) true _ ?side1 ?side2 ?side3 ?side4 ?side5 ?side6 A8.out).mono ?_
       (case side1 => repeat (first | exact (Kd.C_below HR0_0.out HB.out) | (with_reducible refine Kd.C_alloc ?_ _) | (with_reducible refine Kd.C_drewN ?_ _) | (with_reducible refine Kd.C_drew ?_)))
       (case side2 => exact HC0_0.out)
       (case side3 => repeat (first | exact (Kd.C_below HR0_1.out HB.out) | (with_reducible refine Kd.C_alloc ?_ _) | (with_reducible refine Kd.C_drewN ?_ _) | (with_reducible refine Kd.C_drew ?_)))
       (case side4 => exact HC0_1.out)
       (case side5 => repeat (first | exact (Kd.C_below HR0_2.out HB.out) | (with_reducible refine Kd.C_alloc ?_ _) | (with_reducible refine Kd.C_drewN ?_ _) | (with_reducible refine Kd.C_drew ?_)))
       (case side6 => exact HC0_2.out)
       rintro e w11 ⟨rfl, hb⟩
       refine ⟨_, rfl, ?_⟩
       have n0_ := Aside0.mk (blk_below (g := gb224) (o := .cells #[.slice A0_0 l0_0.length c0_0, .slice A0_1 l0_1.length c0_1, .slice A0_2 l0_2.length c0_2, .int .i64 a0_3, .int .i64 a0_4, .int .i64 a0_5, .int .i64 a0_6, .int .i64 a0_7, .int .i64 a0_8] 26 (0, 0)) (by (with_reducible repeat (first | refine blk_drewN ?_ _ | refine blk_drew ?_ | refine blk_alloc ?_ _)); exact BK224.out) hb); have n1_ := Aside0.mk (below_step (by repeat (first | (with_reducible first | exact HB.out | apply below_alloc | apply pw_below_drewN | apply below_drew1 | refine below_set ?_ GE224.out) | exact HB.out)) hb); clear BK224; clear HB; have BK224 := n0_; have HB := n1_; clear n0_ n1_; (try clear hb); (try clear hb2); (try clear hk); (try clear hi)
       refine hK.out _ _ ⟨(blk_cell BK224.out 0).trans rfl, (blk_cell BK224.out 1).trans rfl, (blk_cell BK224.out 2).trans rfl, (blk_cell BK224.out 3).trans rfl, (blk_cell BK224.out 4).trans rfl, (blk_cell BK224.out 5).trans rfl, (blk_cell BK224.out 6).trans rfl, (blk_cell BK224.out 7).trans rfl, (blk_cell BK224.out 8).trans rfl, ((HB.out.cell (World.block_lt_of_cell? w _ hw225_0)).trans hw225_0), ((HB.out.cell (World.block_lt_of_cell? w _ hw225_1)).trans hw225_1), ((HB.out.cell (World.block_lt_of_cell? w _ hw225_2)).trans hw225_2), ((HB.out.cell (World.block_lt_of_cell? w _ hw225_3)).trans hw225_3), ((HB.out.cell (World.block_lt_of_cell? w _ hw225_4)).trans hw225_4), ((HB.out.cell (World.block_lt_of_cell? w _ hw225_5)).trans hw225_5), ((HB.out.cell (World.block_lt_of_cell? w _ hw226_0)).trans hw226_0), ((HB.out.cell (World.block_lt_of_cell? w _ hw226_1)).trans hw226_1), ((HB.out.cell (World.block_lt_of_cell? w _ hw226_2)).trans hw226_2), ((HB.out.cell (World.block_lt_of_cell? w _ hw226_3)).trans hw226_3), ((HB.out.cell (World.block_lt_of_cell? w _ hw226_4)).trans hw226_4), ((HB.out.cell (World.block_lt_of_cell? w _ hw226_5)).trans hw226_5)⟩ (fun hHeld => ?_)
       clear hK K
       refine norm_ (a' := ?_) ?_ ?_
       rotate_left
       ·
        show Act.put _ (some 28) _ = _
        simp only [Act.put, zAf13, zBf13, zCf13, i64_w, i32_w]
        rfl
       refine pure_ (i := 14) (N := some 29) (v := ?_) (a' := ?_) qf13_15 rfl rfl (any_of HT_.out (by kernel_rfl)) (fun _ _ _ h => h) (Or.inl ⟨by rfl, ?_⟩) ?_ ?_; rotate_left; (· (intro w'; go_simp; with_reducible rfl)); rotate_left; (· (simp only [Act.put, zAf13, zBf13, zCf13, i64_w, i32_w]; rfl))
       refine pure_ (i := 15) (N := some 30) (v := ?_) (a' := ?_) qf13_16 rfl rfl (any_of HT_.out (by kernel_rfl)) (fun _ _ _ h => h) (Or.inl ⟨by rfl, ?_⟩) ?_ ?_; rotate_left; (· (intro w'; go_simp; with_reducible rfl)); rotate_left; (· (simp only [Act.put, zAf13, zBf13, zCf13, i64_w, i32_w]; rfl))
       refine done_ (done_of HT_.out (by kernel_rfl)) ?_
       have p228 : 0 ≤ (x8_1 : Int) := of_decide_eq_true (by first | (with_reducible assumption) | assumption)
       have q228 : x8_1 < (l1.length : Int) := of_decide_eq_true (by first | (with_reducible assumption) | assumption)
       obtain ⟨ad228, e228, hx228_0, hx228_1, hx228_2, hx228_3, hx228_4, hx228_5⟩ := at_T33 HR1.out x8_1 p228 q228
       obtain rfl : ad225 = ad228 := (by injection e228)
       replace hx228_0 := (HB.out.cell (World.block_lt_of_cell? w _ hx228_0)).trans hx228_0
       replace hx228_1 := (HB.out.cell (World.block_lt_of_cell? w _ hx228_1)).trans hx228_1
       replace hx228_2 := (HB.out.cell (World.block_lt_of_cell? w _ hx228_2)).trans hx228_2
       replace hx228_3 := (HB.out.cell (World.block_lt_of_cell? w _ hx228_3)).trans hx228_3
       replace hx228_4 := (HB.out.cell (World.block_lt_of_cell? w _ hx228_4)).trans hx228_4
       replace hx228_5 := (HB.out.cell (World.block_lt_of_cell? w _ hx228_5)).trans hx228_5
       replace p228 := eq_true p228
       replace q228 := eq_true q228
       try go_wp2
       go_roundg k1
       case measure => have := HK1.out; omega
       case rel => exact ⟨(wrap64 (x7_1 + ((rd_T33 l1 x8_1).f2))), (wrap64 (x8_1 + 1)), (by first | rfl | (simp; done) | (simp [*]; done)), (by first | rfl | (simp; done) | (simp [*]; done)), H', ⟨by have := HK1.out; omega⟩, ⟨by (with_reducible repeat (first | refine blk_drewN ?_ _ | refine blk_drew ?_ | refine blk_alloc ?_ _)); exact BK224.out⟩, ⟨by repeat (first | (with_reducible first | exact HB.out | apply below_alloc | apply pw_below_drewN | apply below_drew1 | refine below_set ?_ GE224.out) | exact HB.out)⟩⟩
      replace c9 := Bool.eq_false_iff.mpr c9
      subst c9
      have H1 : (some false) = some r := by rw [if_neg (show ¬ (false = true) by decide)] at H; exact H
      clear H; have H := H1; clear H1
      obtain rfl := Option.some.inj H
      try go_wp2
      have n0_ := Aside0.mk (blk_drew BK224.out); have n1_ := Aside0.mk (below_drew1 HB.out); clear BK224; clear HB; have BK224 := n0_; have HB := n1_; clear n0_ n1_
      have p225 : 0 ≤ (x8_1 : Int) := of_decide_eq_true (by first | (with_reducible assumption) | assumption)
      have q225 : x8_1 < (l1.length : Int) := of_decide_eq_true (by first | (with_reducible assumption) | assumption)
      obtain ⟨ad225, e225, hx225_0, hx225_1, hx225_2, hx225_3, hx225_4, hx225_5⟩ := at_T33 HR1.out x8_1 p225 q225
      have hw225_5 := hx225_5
      have hw225_4 := hx225_4
      have hw225_3 := hx225_3
      have hw225_2 := hx225_2
      have hw225_1 := hx225_1
      have hw225_0 := hx225_0
      cases e225
      replace hx225_0 := (HB.out.cell (World.block_lt_of_cell? w _ hx225_0)).trans hx225_0
      replace hx225_1 := (HB.out.cell (World.block_lt_of_cell? w _ hx225_1)).trans hx225_1
      replace hx225_2 := (HB.out.cell (World.block_lt_of_cell? w _ hx225_2)).trans hx225_2
      replace hx225_3 := (HB.out.cell (World.block_lt_of_cell? w _ hx225_3)).trans hx225_3
      replace hx225_4 := (HB.out.cell (World.block_lt_of_cell? w _ hx225_4)).trans hx225_4
      replace hx225_5 := (HB.out.cell (World.block_lt_of_cell? w _ hx225_5)).trans hx225_5
      replace p225 := eq_true p225
      replace q225 := eq_true q225
      have p226 : 0 ≤ (x8_1 : Int) := of_decide_eq_true (by first | (with_reducible assumption) | assumption)
      have q226 : x8_1 < (l1.length : Int) := of_decide_eq_true (by first | (with_reducible assumption) | assumption)
      obtain ⟨ad226, e226, hx226_0, hx226_1, hx226_2, hx226_3, hx226_4, hx226_5⟩ := at_T33 HR1.out x8_1 p226 q226
      have hw226_5 := hx226_5
      have hw226_4 := hx226_4
      have hw226_3 := hx226_3
      have hw226_2 := hx226_2
      have hw226_1 := hx226_1
      have hw226_0 := hx226_0
      obtain rfl : ad225 = ad226 := (by injection e226)
      replace hx226_0 := (HB.out.cell (World.block_lt_of_cell? w _ hx226_0)).trans hx226_0
      replace hx226_1 := (HB.out.cell (World.block_lt_of_cell? w _ hx226_1)).trans hx226_1
      replace hx226_2 := (HB.out.cell (World.block_lt_of_cell? w _ hx226_2)).trans hx226_2
      replace hx226_3 := (HB.out.cell (World.block_lt_of_cell? w _ hx226_3)).trans hx226_3
      replace hx226_4 := (HB.out.cell (World.block_lt_of_cell? w _ hx226_4)).trans hx226_4
      replace hx226_5 := (HB.out.cell (World.block_lt_of_cell? w _ hx226_5)).trans hx226_5
      replace p226 := eq_true p226
      replace q226 := eq_true q226
      refine start_ (n := 16) (S := fun w' => w'.cell? ⟨gb224, 0, none⟩ = some (.slice A0_0 l0_0.length c0_0) ∧ w'.cell? ⟨gb224, 1, none⟩ = some (.slice A0_1 l0_1.length c0_1) ∧ w'.cell? ⟨gb224, 2, none⟩ = some (.slice A0_2 l0_2.length c0_2) ∧ w'.cell? ⟨gb224, 3, none⟩ = some (.int .i64 a0_3) ∧ w'.cell? ⟨gb224, 4, none⟩ = some (.int .i64 a0_4) ∧ w'.cell? ⟨gb224, 5, none⟩ = some (.int .i64 a0_5) ∧ w'.cell? ⟨gb224, 6, none⟩ = some (.int .i64 a0_6) ∧ w'.cell? ⟨gb224, 7, none⟩ = some (.int .i64 a0_7) ∧ w'.cell? ⟨gb224, 8, none⟩ = some (.int .i64 a0_8) ∧ w'.cell? (ad225.add ((x8_1).toNat * 6)) = some (.int .i64 ((rd_T33 l1 x8_1).f0)) ∧ w'.cell? ⟨(ad225.add ((x8_1).toNat * 6)).block, (ad225.add ((x8_1).toNat * 6)).off + 1, none⟩ = some (.int .i64 ((rd_T33 l1 x8_1).f1)) ∧ w'.cell? ⟨(ad225.add ((x8_1).toNat * 6)).block, (ad225.add ((x8_1).toNat * 6)).off + 2, none⟩ = some (.int .i64 ((rd_T33 l1 x8_1).f2)) ∧ w'.cell? ⟨(ad225.add ((x8_1).toNat * 6)).block, (ad225.add ((x8_1).toNat * 6)).off + 3, none⟩ = some (.int .i64 ((rd_T33 l1 x8_1).f3)) ∧ w'.cell? ⟨(ad225.add ((x8_1).toNat * 6)).block, (ad225.add ((x8_1).toNat * 6)).off + 4, none⟩ = some (.int .i64 ((rd_T33 l1 x8_1).f4)) ∧ w'.cell? ⟨(ad225.add ((x8_1).toNat * 6)).block, (ad225.add ((x8_1).toNat * 6)).off + 5, none⟩ = some (.int .i64 ((rd_T33 l1 x8_1).f5)) ∧ w'.cell? (ad225.add ((x8_1).toNat * 6)) = some (.int .i64 ((rd_T33 l1 x8_1).f0)) ∧ w'.cell? ⟨(ad225.add ((x8_1).toNat * 6)).block, (ad225.add ((x8_1).toNat * 6)).off + 1, none⟩ = some (.int .i64 ((rd_T33 l1 x8_1).f1)) ∧ w'.cell? ⟨(ad225.add ((x8_1).toNat * 6)).block, (ad225.add ((x8_1).toNat * 6)).off + 2, none⟩ = some (.int .i64 ((rd_T33 l1 x8_1).f2)) ∧ w'.cell? ⟨(ad225.add ((x8_1).toNat * 6)).block, (ad225.add ((x8_1).toNat * 6)).off + 3, none⟩ = some (.int .i64 ((rd_T33 l1 x8_1).f3)) ∧ w'.cell? ⟨(ad225.add ((x8_1).toNat * 6)).block, (ad225.add ((x8_1).toNat * 6)).off + 4, none⟩ = some (.int .i64 ((rd_T33 l1 x8_1).f4)) ∧ w'.cell? ⟨(ad225.add ((x8_1).toNat * 6)).block, (ad225.add ((x8_1).toNat * 6)).off + 5, none⟩ = some (.int .i64 ((rd_T33 l1 x8_1).f5))) (ds := []) qf13_0 (by kernel_rfl) rfl rfl ⟨(blk_cell BK224.out 0).trans rfl, (blk_cell BK224.out 1).trans rfl, (blk_cell BK224.out 2).trans rfl, (blk_cell BK224.out 3).trans rfl, (blk_cell BK224.out 4).trans rfl, (blk_cell BK224.out 5).trans rfl, (blk_cell BK224.out 6).trans rfl, (blk_cell BK224.out 7).trans rfl, (blk_cell BK224.out 8).trans rfl, ((HB.out.cell (World.block_lt_of_cell? w _ hw225_0)).trans hw225_0), ((HB.out.cell (World.block_lt_of_cell? w _ hw225_1)).trans hw225_1), ((HB.out.cell (World.block_lt_of_cell? w _ hw225_2)).trans hw225_2), ((HB.out.cell (World.block_lt_of_cell? w _ hw225_3)).trans hw225_3), ((HB.out.cell (World.block_lt_of_cell? w _ hw225_4)).trans hw225_4), ((HB.out.cell (World.block_lt_of_cell? w _ hw225_5)).trans hw225_5), ((HB.out.cell (World.block_lt_of_cell? w _ hw226_0)).trans hw226_0), ((HB.out.cell (World.block_lt_of_cell? w _ hw226_1)).trans hw226_1), ((HB.out.cell (World.block_lt_of_cell? w _ hw226_2)).trans hw226_2), ((HB.out.cell (World.block_lt_of_cell? w _ hw226_3)).trans hw226_3), ((HB.out.cell (World.block_lt_of_cell? w _ hw226_4)).trans hw226_4), ((HB.out.cell (World.block_lt_of_cell? w _ hw226_5)).trans hw226_5)⟩ (fun hHeld => ?_); refine with_tabW dormouseref21_Parts.tab5 dormouseref21_Parts.bits5 (fun HT_ HW_ => ?_)
      generalize wr.drew = w12 at BK224 HB hx225_0 hx225_1 hx225_2 hx225_3 hx225_4 hx225_5 hx226_0 hx226_1 hx226_2 hx226_3 hx226_4 hx226_5 hHeld ⊢
      refine pure_ (i := 0) (N := some 15) (v := ?_) (a' := ?_) qf13_1 rfl rfl (any_of HT_.out (by kernel_rfl)) (fun _ _ _ h => h) (Or.inl ⟨by rfl, ?_⟩) ?_ ?_; rotate_left; (· (intro w'; go_simp; with_reducible rfl)); rotate_left; (· (simp only [Act.put, zAf13, zBf13, zCf13, i64_w, i32_w]; rfl))
      refine pure_ (i := 1) (N := some 16) (v := ?_) (a' := ?_) qf13_2 rfl rfl (any_of HT_.out (by kernel_rfl)) (fun _ _ _ h => h) (Or.inl ⟨by rfl, ?_⟩) ?_ ?_; rotate_left; (· (intro w'; go_simp; with_reducible rfl)); rotate_left; (· (simp only [Act.put, zAf13, zBf13, zCf13, i64_w, i32_w]; rfl))
      refine pure_ (i := 2) (N := some 17) (v := ?_) (a' := ?_) qf13_3 rfl rfl (any_of HT_.out (by kernel_rfl)) (fun _ _ _ h => h) (Or.inl ⟨by rfl, ?_⟩) ?_ ?_; rotate_left; (· (intro w'; go_simp; with_reducible rfl)); rotate_left; (· (simp only [Act.put, zAf13, zBf13, zCf13, i64_w, i32_w]; rfl))
      refine pure_ (i := 3) (N := some 18) (v := ?_) (a' := ?_) qf13_4 rfl rfl (any_of HT_.out (by kernel_rfl)) (fun _ _ _ h => h) (Or.inl ⟨by rfl, ?_⟩) ?_ ?_; rotate_left; (· (intro w'; go_simp; with_reducible rfl)); rotate_left; (· (simp only [Act.put, zAf13, zBf13, zCf13, i64_w, i32_w]; rfl))
      refine pure_ (i := 5) (N := some 20) (v := ?_) (a' := ?_) qf13_5 rfl rfl (any_of HT_.out (by kernel_rfl)) (fun _ _ _ h => h) (Or.inl ⟨by rfl, ?_⟩) ?_ ?_; rotate_left; (· (intro w'; go_simp; with_reducible rfl)); rotate_left; (· (simp only [Act.put, zAf13, zBf13, zCf13, i64_w, i32_w]; rfl))
      refine take_ (i := 4) (N := some 19) (v := ?_) (a' := ?_) qf13_6 rfl rfl (take_ofW HT_.out HW_.out (by kernel_rfl)) (fun _ _ _ h => h) (Or.inl ⟨by rfl, ?_⟩) hHeld ?_ ?_; rotate_left; (· (rintro w' ⟨s0, s1, s2, s3, s4, s5, s6, s7, s8, s9, s10, s11, s12, s13, s14, s15, s16, s17, s18, s19, s20⟩; go_simp; with_reducible rfl)); rotate_left; (· (simp only [Act.put, zAf13, zBf13, zCf13, i64_w, i32_w]; rfl))
      refine pure_ (i := 6) (N := some 21) (v := ?_) (a' := ?_) qf13_7 rfl rfl (any_of HT_.out (by kernel_rfl)) (fun _ _ _ h => h) (Or.inl ⟨by rfl, ?_⟩) ?_ ?_; rotate_left; (· (intro w'; go_simp; with_reducible rfl)); rotate_left; (· (simp only [Act.put, zAf13, zBf13, zCf13, i64_w, i32_w]; rfl))
      refine pure_ (i := 7) (N := some 22) (v := ?_) (a' := ?_) qf13_8 rfl rfl (any_of HT_.out (by kernel_rfl)) (fun _ _ _ h => h) (Or.inl ⟨by rfl, ?_⟩) ?_ ?_; rotate_left; (· (intro w'; go_simp; with_reducible rfl)); rotate_left; (· (simp only [Act.put, zAf13, zBf13, zCf13, i64_w, i32_w]; rfl))
      refine pure_ (i := 9) (N := some 24) (v := ?_) (a' := ?_) qf13_9 rfl rfl (any_of HT_.out (by kernel_rfl)) (fun _ _ _ h => h) (Or.inl ⟨by rfl, ?_⟩) ?_ ?_; rotate_left; (· (intro w'; go_simp; with_reducible rfl)); rotate_left; (· (simp only [Act.put, zAf13, zBf13, zCf13, i64_w, i32_w]; rfl))
      refine pure_ (i := 10) (N := some 25) (v := ?_) (a' := ?_) qf13_10 rfl rfl (any_of HT_.out (by kernel_rfl)) (fun _ _ _ h => h) (Or.inl ⟨by rfl, ?_⟩) ?_ ?_; rotate_left; (· (intro w'; go_simp; with_reducible rfl)); rotate_left; (· (simp only [Act.put, zAf13, zBf13, zCf13, i64_w, i32_w]; rfl))
      refine pure_ (i := 11) (N := some 26) (v := ?_) (a' := ?_) qf13_11 rfl rfl (any_of HT_.out (by kernel_rfl)) (fun _ _ _ h => h) (Or.inl ⟨by rfl, ?_⟩) ?_ ?_; rotate_left; (· (intro w'; go_simp; with_reducible rfl)); rotate_left; (· (simp only [Act.put, zAf13, zBf13, zCf13, i64_w, i32_w]; rfl))
      refine take_ (i := 8) (N := some 23) (v := ?_) (a' := ?_) qf13_12 rfl rfl (take_ofW HT_.out HW_.out (by kernel_rfl)) (fun _ _ _ h => h) (Or.inl ⟨by rfl, ?_⟩) hHeld ?_ ?_; rotate_left; (· (rintro w' ⟨s0, s1, s2, s3, s4, s5, s6, s7, s8, s9, s10, s11, s12, s13, s14, s15, s16, s17, s18, s19, s20⟩; go_simp; with_reducible rfl)); rotate_left; (· (simp only [Act.put, zAf13, zBf13, zCf13, i64_w, i32_w]; rfl))
      refine take_ (i := 12) (N := some 27) (v := ?_) (a' := ?_) qf13_13 rfl rfl (take_ofW HT_.out HW_.out (by kernel_rfl)) (fun _ _ _ h => h) (Or.inl ⟨by rfl, ?_⟩) hHeld ?_ ?_; rotate_left; (· (rintro w' ⟨s0, s1, s2, s3, s4, s5, s6, s7, s8, s9, s10, s11, s12, s13, s14, s15, s16, s17, s18, s19, s20⟩; go_simp; with_reducible rfl)); rotate_left; (· (simp only [Act.put, zAf13, zBf13, zCf13, i64_w, i32_w]; rfl))
      refine one_ (i := 13) (N := some 28) qf13_14 rfl rfl (one_of HT_.out (by kernel_rfl)) (by decide) (fun K hK => ?_)
      refine goes_ Try.func23 (by kernel_rfl) rfl #[.agg #[.slice A0_0 l0_0.length c0_0, .slice A0_1 l0_1.length c0_1, .slice A0_2 l0_2.length c0_2, .int .i64 a0_3, .int .i64 a0_4, .int .i64 a0_5, .int .i64 a0_6, .int .i64 a0_7, .int .i64 a0_8], .agg #[.int .i64 ((rd_T33 l1 x8_1).f0), .int .i64 ((rd_T33 l1 x8_1).f1), .int .i64 ((rd_T33 l1 x8_1).f2), .int .i64 ((rd_T33 l1 x8_1).f3), .int .i64 ((rd_T33 l1 x8_1).f4), .int .i64 ((rd_T33 l1 x8_1).f5)]] (by rfl) rfl rfl (by (try simp only [List.map_toArray, List.map_cons, List.map_nil]); first | done | rfl | (simp only [List.length_drop, List.length_take]; rfl)) ?_
      with_reducible refine (dormouseref21_one.calls k1 _ _ l0_0 _ _ l0_1 _ _ l0_2 a0_3 a0_4 a0_5 a0_6 a0_7 a0_8 ((rd_T33 l1 x8_1).f0) ((rd_T33 l1 x8_1).f1) ((rd_T33 l1 x8_1).f2) ((rd_T33 l1 x8_1).f3) ((rd_T33 l1 x8_1).f4) ((rd_T33 l1 x8_1).f5) false _ ?side1 ?side2 ?side3 ?side4 ?side5 ?side6 A8.out).mono ?_
      (case side1 => repeat (first | exact (Kd.C_below HR0_0.out HB.out) | (with_reducible refine Kd.C_alloc ?_ _) | (with_reducible refine Kd.C_drewN ?_ _) | (with_reducible refine Kd.C_drew ?_)))
      (case side2 => exact HC0_0.out)
      (case side3 => repeat (first | exact (Kd.C_below HR0_1.out HB.out) | (with_reducible refine Kd.C_alloc ?_ _) | (with_reducible refine Kd.C_drewN ?_ _) | (with_reducible refine Kd.C_drew ?_)))
      (case side4 => exact HC0_1.out)
      (case side5 => repeat (first | exact (Kd.C_below HR0_2.out HB.out) | (with_reducible refine Kd.C_alloc ?_ _) | (with_reducible refine Kd.C_drewN ?_ _) | (with_reducible refine Kd.C_drew ?_)))
      (case side6 => exact HC0_2.out)
      rintro e w13 ⟨rfl, hb⟩
      refine ⟨_, rfl, ?_⟩
      have n0_ := Aside0.mk (blk_below (g := gb224) (o := .cells #[.slice A0_0 l0_0.length c0_0, .slice A0_1 l0_1.length c0_1, .slice A0_2 l0_2.length c0_2, .int .i64 a0_3, .int .i64 a0_4, .int .i64 a0_5, .int .i64 a0_6, .int .i64 a0_7, .int .i64 a0_8] 26 (0, 0)) (by (with_reducible repeat (first | refine blk_drewN ?_ _ | refine blk_drew ?_ | refine blk_alloc ?_ _)); exact BK224.out) hb); have n1_ := Aside0.mk (below_step (by repeat (first | (with_reducible first | exact HB.out | apply below_alloc | apply pw_below_drewN | apply below_drew1 | refine below_set ?_ GE224.out) | exact HB.out)) hb); clear BK224; clear HB; have BK224 := n0_; have HB := n1_; clear n0_ n1_; (try clear hb); (try clear hb2); (try clear hk); (try clear hi)
      refine hK.out _ _ ⟨(blk_cell BK224.out 0).trans rfl, (blk_cell BK224.out 1).trans rfl, (blk_cell BK224.out 2).trans rfl, (blk_cell BK224.out 3).trans rfl, (blk_cell BK224.out 4).trans rfl, (blk_cell BK224.out 5).trans rfl, (blk_cell BK224.out 6).trans rfl, (blk_cell BK224.out 7).trans rfl, (blk_cell BK224.out 8).trans rfl, ((HB.out.cell (World.block_lt_of_cell? w _ hw225_0)).trans hw225_0), ((HB.out.cell (World.block_lt_of_cell? w _ hw225_1)).trans hw225_1), ((HB.out.cell (World.block_lt_of_cell? w _ hw225_2)).trans hw225_2), ((HB.out.cell (World.block_lt_of_cell? w _ hw225_3)).trans hw225_3), ((HB.out.cell (World.block_lt_of_cell? w _ hw225_4)).trans hw225_4), ((HB.out.cell (World.block_lt_of_cell? w _ hw225_5)).trans hw225_5), ((HB.out.cell (World.block_lt_of_cell? w _ hw226_0)).trans hw226_0), ((HB.out.cell (World.block_lt_of_cell? w _ hw226_1)).trans hw226_1), ((HB.out.cell (World.block_lt_of_cell? w _ hw226_2)).trans hw226_2), ((HB.out.cell (World.block_lt_of_cell? w _ hw226_3)).trans hw226_3), ((HB.out.cell (World.block_lt_of_cell? w _ hw226_4)).trans hw226_4), ((HB.out.cell (World.block_lt_of_cell? w _ hw226_5)).trans hw226_5)⟩ (fun hHeld => ?_)
      clear hK K
      refine norm_ (a' := ?_) ?_ ?_
      rotate_left
      ·
       show Act.put _ (some 28) _ = _
       simp only [Act.put, zAf13, zBf13, zCf13, i64_w, i32_w]
       rfl
      refine pure_ (i := 14) (N := some 29) (v := ?_) (a' := ?_) qf13_15 rfl rfl (any_of HT_.out (by kernel_rfl)) (fun _ _ _ h => h) (Or.inl ⟨by rfl, ?_⟩) ?_ ?_; rotate_left; (· (intro w'; go_simp; with_reducible rfl)); rotate_left; (· (simp only [Act.put, zAf13, zBf13, zCf13, i64_w, i32_w]; rfl))
      refine pure_ (i := 15) (N := some 30) (v := ?_) (a' := ?_) qf13_16 rfl rfl (any_of HT_.out (by kernel_rfl)) (fun _ _ _ h => h) (Or.inl ⟨by rfl, ?_⟩) ?_ ?_; rotate_left; (· (intro w'; go_simp; with_reducible rfl)); rotate_left; (· (simp only [Act.put, zAf13, zBf13, zCf13, i64_w, i32_w]; rfl))
      refine done_ (done_of HT_.out (by kernel_rfl)) ?_
      try go_wp2
      go_ret
      exact ⟨by first | rfl | (simp [errW_none, errW_some] <;> rfl) | (simp [*, errW_none, errW_some] <;> rfl), by repeat (first | (with_reducible first | exact HB.out | apply below_alloc | apply pw_below_drewN | apply below_drew1 | refine below_set ?_ GE224.out) | exact HB.out)⟩
     rw [if_neg c7] at H
     have c7b0 : (((rd_T33 l1 x8_1).f1) == x7_1) = false := beq_eq_false_iff_ne.mpr c7
     have c7b1 : (((rd_T33 l1 x8_1).f1) != x7_1) = true := bne_iff_ne.mpr c7
     obtain rfl := Option.some.inj H
     try go_wp2
     have n0_ := Aside0.mk (blk_drew BK224.out); have n1_ := Aside0.mk (below_drew1 HB.out); clear BK224; clear HB; have BK224 := n0_; have HB := n1_; clear n0_ n1_
     have p225 : 0 ≤ (x8_1 : Int) := of_decide_eq_true (by first | (with_reducible assumption) | assumption)
     have q225 : x8_1 < (l1.length : Int) := of_decide_eq_true (by first | (with_reducible assumption) | assumption)
     obtain ⟨ad225, e225, hx225_0, hx225_1, hx225_2, hx225_3, hx225_4, hx225_5⟩ := at_T33 HR1.out x8_1 p225 q225
     have hw225_5 := hx225_5
     have hw225_4 := hx225_4
     have hw225_3 := hx225_3
     have hw225_2 := hx225_2
     have hw225_1 := hx225_1
     have hw225_0 := hx225_0
     cases e225
     replace hx225_0 := (HB.out.cell (World.block_lt_of_cell? w _ hx225_0)).trans hx225_0
     replace hx225_1 := (HB.out.cell (World.block_lt_of_cell? w _ hx225_1)).trans hx225_1
     replace hx225_2 := (HB.out.cell (World.block_lt_of_cell? w _ hx225_2)).trans hx225_2
     replace hx225_3 := (HB.out.cell (World.block_lt_of_cell? w _ hx225_3)).trans hx225_3
     replace hx225_4 := (HB.out.cell (World.block_lt_of_cell? w _ hx225_4)).trans hx225_4
     replace hx225_5 := (HB.out.cell (World.block_lt_of_cell? w _ hx225_5)).trans hx225_5
     replace p225 := eq_true p225
     replace q225 := eq_true q225
     refine start_ (n := 16) (S := fun w' => w'.cell? (ad225.add ((x8_1).toNat * 6)) = some (.int .i64 ((rd_T33 l1 x8_1).f0)) ∧ w'.cell? ⟨(ad225.add ((x8_1).toNat * 6)).block, (ad225.add ((x8_1).toNat * 6)).off + 1, none⟩ = some (.int .i64 ((rd_T33 l1 x8_1).f1)) ∧ w'.cell? ⟨(ad225.add ((x8_1).toNat * 6)).block, (ad225.add ((x8_1).toNat * 6)).off + 2, none⟩ = some (.int .i64 ((rd_T33 l1 x8_1).f2)) ∧ w'.cell? ⟨(ad225.add ((x8_1).toNat * 6)).block, (ad225.add ((x8_1).toNat * 6)).off + 3, none⟩ = some (.int .i64 ((rd_T33 l1 x8_1).f3)) ∧ w'.cell? ⟨(ad225.add ((x8_1).toNat * 6)).block, (ad225.add ((x8_1).toNat * 6)).off + 4, none⟩ = some (.int .i64 ((rd_T33 l1 x8_1).f4)) ∧ w'.cell? ⟨(ad225.add ((x8_1).toNat * 6)).block, (ad225.add ((x8_1).toNat * 6)).off + 5, none⟩ = some (.int .i64 ((rd_T33 l1 x8_1).f5))) (ds := []) qf13_0 (by kernel_rfl) rfl rfl ⟨((HB.out.cell (World.block_lt_of_cell? w _ hw225_0)).trans hw225_0), ((HB.out.cell (World.block_lt_of_cell? w _ hw225_1)).trans hw225_1), ((HB.out.cell (World.block_lt_of_cell? w _ hw225_2)).trans hw225_2), ((HB.out.cell (World.block_lt_of_cell? w _ hw225_3)).trans hw225_3), ((HB.out.cell (World.block_lt_of_cell? w _ hw225_4)).trans hw225_4), ((HB.out.cell (World.block_lt_of_cell? w _ hw225_5)).trans hw225_5)⟩ (fun hHeld => ?_); refine with_tabW dormouseref21_Parts.tab5 dormouseref21_Parts.bits5 (fun HT_ HW_ => ?_)
     generalize wr.drew = w14 at BK224 HB hx225_0 hx225_1 hx225_2 hx225_3 hx225_4 hx225_5 hHeld ⊢
     refine pure_ (i := 0) (N := some 15) (v := ?_) (a' := ?_) qf13_1 rfl rfl (any_of HT_.out (by kernel_rfl)) (fun _ _ _ h => h) (Or.inl ⟨by rfl, ?_⟩) ?_ ?_; rotate_left; (· (intro w'; go_simp; with_reducible rfl)); rotate_left; (· (simp only [Act.put, zAf13, zBf13, zCf13, i64_w, i32_w]; rfl))
     refine pure_ (i := 1) (N := some 16) (v := ?_) (a' := ?_) qf13_2 rfl rfl (any_of HT_.out (by kernel_rfl)) (fun _ _ _ h => h) (Or.inl ⟨by rfl, ?_⟩) ?_ ?_; rotate_left; (· (intro w'; go_simp; with_reducible rfl)); rotate_left; (· (simp only [Act.put, zAf13, zBf13, zCf13, i64_w, i32_w]; rfl))
     refine pure_ (i := 2) (N := some 17) (v := ?_) (a' := ?_) qf13_3 rfl rfl (any_of HT_.out (by kernel_rfl)) (fun _ _ _ h => h) (Or.inl ⟨by rfl, ?_⟩) ?_ ?_; rotate_left; (· (intro w'; go_simp; with_reducible rfl)); rotate_left; (· (simp only [Act.put, zAf13, zBf13, zCf13, i64_w, i32_w]; rfl))
     refine pure_ (i := 3) (N := some 18) (v := ?_) (a' := ?_) qf13_4 rfl rfl (any_of HT_.out (by kernel_rfl)) (fun _ _ _ h => h) (Or.inl ⟨by rfl, ?_⟩) ?_ ?_; rotate_left; (· (intro w'; go_simp; with_reducible rfl)); rotate_left; (· (simp only [Act.put, zAf13, zBf13, zCf13, i64_w, i32_w]; rfl))
     refine pure_ (i := 5) (N := some 20) (v := ?_) (a' := ?_) qf13_5 rfl rfl (any_of HT_.out (by kernel_rfl)) (fun _ _ _ h => h) (Or.inl ⟨by rfl, ?_⟩) ?_ ?_; rotate_left; (· (intro w'; go_simp; with_reducible rfl)); rotate_left; (· (simp only [Act.put, zAf13, zBf13, zCf13, i64_w, i32_w]; rfl))
     refine take_ (i := 4) (N := some 19) (v := ?_) (a' := ?_) qf13_6 rfl rfl (take_ofW HT_.out HW_.out (by kernel_rfl)) (fun _ _ _ h => h) (Or.inl ⟨by rfl, ?_⟩) hHeld ?_ ?_; rotate_left; (· (rintro w' ⟨s0, s1, s2, s3, s4, s5⟩; go_simp; with_reducible rfl)); rotate_left; (· (simp only [Act.put, zAf13, zBf13, zCf13, i64_w, i32_w]; rfl))
     refine pure_ (i := 6) (N := some 21) (v := ?_) (a' := ?_) qf13_7 rfl rfl (any_of HT_.out (by kernel_rfl)) (fun _ _ _ h => h) (Or.inl ⟨by rfl, ?_⟩) ?_ ?_; rotate_left; (· (intro w'; go_simp; with_reducible rfl)); rotate_left; (· (simp only [Act.put, zAf13, zBf13, zCf13, i64_w, i32_w]; rfl))
     refine pure_ (i := 7) (N := some 22) (v := ?_) (a' := ?_) qf13_8 rfl rfl (any_of HT_.out (by kernel_rfl)) (fun _ _ _ h => h) (Or.inl ⟨by rfl, ?_⟩) ?_ ?_; rotate_left; (· (intro w'; go_simp; with_reducible rfl)); rotate_left; (· (simp only [Act.put, zAf13, zBf13, zCf13, i64_w, i32_w]; rfl))
     refine pure_ (i := 8) (N := some 23) (v := undef) (a' := ?_) #[true, true, true, true, true, true, true, true, true, false, false, false, false, false, false, false] rfl rfl (any_of HT_.out (by kernel_rfl)) (fun _ _ _ h => h) (Or.inr ⟨by rfl, rfl⟩) ?_ ?_; rotate_left; (· (simp only [Act.put, zAf13, zBf13, zCf13, i64_w, i32_w]; rfl))
     refine pure_ (i := 9) (N := some 24) (v := undef) (a' := ?_) #[true, true, true, true, true, true, true, true, true, true, false, false, false, false, false, false] rfl rfl (any_of HT_.out (by kernel_rfl)) (fun _ _ _ h => h) (Or.inr ⟨by rfl, rfl⟩) ?_ ?_; rotate_left; (· (simp only [Act.put, zAf13, zBf13, zCf13, i64_w, i32_w]; rfl))
     refine pure_ (i := 10) (N := some 25) (v := undef) (a' := ?_) #[true, true, true, true, true, true, true, true, true, true, true, false, false, false, false, false] rfl rfl (any_of HT_.out (by kernel_rfl)) (fun _ _ _ h => h) (Or.inr ⟨by rfl, rfl⟩) ?_ ?_; rotate_left; (· (simp only [Act.put, zAf13, zBf13, zCf13, i64_w, i32_w]; rfl))
     refine pure_ (i := 11) (N := some 26) (v := undef) (a' := ?_) qf13_12 rfl rfl (any_of HT_.out (by kernel_rfl)) (fun _ _ _ h => h) (Or.inr ⟨by rfl, rfl⟩) ?_ ?_; rotate_left; (· (simp only [Act.put, zAf13, zBf13, zCf13, i64_w, i32_w]; rfl))
     refine pure_ (i := 12) (N := some 27) (v := undef) (a' := ?_) qf13_13 rfl rfl (any_of HT_.out (by kernel_rfl)) (fun _ _ _ h => h) (Or.inr ⟨by rfl, rfl⟩) ?_ ?_; rotate_left; (· (simp only [Act.put, zAf13, zBf13, zCf13, i64_w, i32_w]; rfl))
     refine pure_ (i := 13) (N := some 28) (v := undef) (a' := ?_) qf13_14 rfl rfl (any_of HT_.out (by kernel_rfl)) (fun _ _ _ h => h) (Or.inr ⟨by rfl, rfl⟩) ?_ ?_; rotate_left; (· (simp only [Act.put, zAf13, zBf13, zCf13, i64_w, i32_w]; rfl))
     refine pure_ (i := 14) (N := some 29) (v := undef) (a' := ?_) qf13_15 rfl rfl (any_of HT_.out (by kernel_rfl)) (fun _ _ _ h => h) (Or.inr ⟨by rfl, rfl⟩) ?_ ?_; rotate_left; (· (simp only [Act.put, zAf13, zBf13, zCf13, i64_w, i32_w]; rfl))
     refine pure_ (i := 15) (N := some 30) (v := ?_) (a' := ?_) qf13_16 rfl rfl (any_of HT_.out (by kernel_rfl)) (fun _ _ _ h => h) (Or.inl ⟨by rfl, ?_⟩) ?_ ?_; rotate_left; (· (intro w'; go_simp; with_reducible rfl)); rotate_left; (· (simp only [Act.put, zAf13, zBf13, zCf13, i64_w, i32_w]; rfl))
     refine done_ (done_of HT_.out (by kernel_rfl)) ?_
     try go_wp2
     go_ret
     exact ⟨by first | rfl | (simp [errW_none, errW_some] <;> rfl) | (simp [*, errW_none, errW_some] <;> rfl), by repeat (first | (with_reducible first | exact HB.out | apply below_alloc | apply pw_below_drewN | apply below_drew1 | refine below_set ?_ GE224.out) | exact HB.out)⟩
    rw [if_neg c6] at H
    exact absurd H (by simp)
   rw [if_neg c5] at H
   have c5b0 : decide (x8_1 < (l1.length : Int)) = false := decide_eq_false c5
   clear c5
   obtain rfl := Option.some.inj H
   go_wp2
   go_ret
   exact ⟨by first | rfl | (simp [errW_none, errW_some] <;> rfl) | (simp [*, errW_none, errW_some] <;> rfl), by repeat (first | (with_reducible first | exact HB.out | apply below_alloc | apply pw_below_drewN | apply below_drew1 | refine below_set ?_ GE224.out) | exact HB.out)⟩

end Go.Proofs.Ytahdadmibmgpmaa.PAll
