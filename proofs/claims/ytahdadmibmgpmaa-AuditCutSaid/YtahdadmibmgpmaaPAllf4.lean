-- Written by the kit's print.py; laid as one text a function by this session's split.py.
import Derived.Test.YtahdadmibmgpmaaPAllx0
import Derived.Test.YtahdadmibmgpmaaPAllf9
import Derived.Test.YtahdadmibmgpmaaPAllf10
import Derived.Test.YtahdadmibmgpmaaPAllf12
import Derived.Test.YtahdadmibmgpmaaPAllf11
namespace Go.Proofs.Ytahdadmibmgpmaa.PAll
open Go.RowKit Go.Proofs.YtahdadmibmgpmaaW.PrintWords Go.Proofs.YtahdadmibmgpmaaW.PrintLast
set_option linter.unusedVariables false
set_option linter.unusedSimpArgs false

/-! ### dormouselaw22_AuditCut: function 4 -/
def dormouselaw22_AuditCut.j0 : Nat → List (S33) → Int → Int → Bool → List (S45) → List (S48) → List (S51) → Int → Int → Int → Int → Int → Int → Option (Bool)
  | 0, _, _, _, _, _, _, _, _, _, _, _, _, _ => none
  | k + 1, x1, x2, x3, x29, x237000, x237001, x237002, x237003, x237004, x237005, x237006, x237007, x237008 => if x29 = true then ((dormouselaw22_answers.f k).bind fun t240 => (some t240)) else (if (x1.length : Int) = 0 then (none) else ((dormouselaw22_answers.f k).bind fun t241 => (if t241 = true then (if 0 ≤ (Int.tmod (wrap64 (x3)) (x1.length : Int)) then (if (Int.tmod (wrap64 (x3)) (x1.length : Int)) ≤ (x1.length : Int) then (if (Int.tmod (wrap64 (x3)) (x1.length : Int)) < (x1.length : Int) then ((audit_Parts.f k x237000 x237001 x237002 x237003 x237004 x237005 x237006 x237007 x237008 (x1.take ((Int.tmod (wrap64 (x3)) (x1.length : Int)) : Int).toNat) ((rd_T33 x1 (Int.tmod (wrap64 (x3)) (x1.length : Int))).f1)).bind fun t247 => (if t247 = true then ((audit_Parts.f k x237000 x237001 x237002 x237003 x237004 x237005 x237006 x237007 x237008 x1 (Go.bits .xor .i64 x2 1)).bind fun t248 => (some (!t248))) else (some false))) else (none)) else (none)) else (none)) else (some false))))
def dormouselaw22_AuditCut.f (k : Nat) (l0_0 : List (S45)) (l0_1 : List (S48)) (l0_2 : List (S51)) (a0_3 : Int) (a0_4 : Int) (a0_5 : Int) (a0_6 : Int) (a0_7 : Int) (a0_8 : Int) (l1 : List (S33)) (a2 : Int) (a3 : Int) : Option (Bool) := (dormouseref01_Table.f k l0_0 l0_1 l0_2 a0_3 a0_4 a0_5 a0_6 a0_7 a0_8).bind fun t237 => (if t237 = true then ((dormouselaw22_near.f k l1 (-1073741824)).bind fun t238 => (if t238 = true then (if (l1.length : Int) = 0 then (dormouselaw22_AuditCut.j0 k l1 a2 a3 true l0_0 l0_1 l0_2 a0_3 a0_4 a0_5 a0_6 a0_7 a0_8) else ((audit_Parts.f k l0_0 l0_1 l0_2 a0_3 a0_4 a0_5 a0_6 a0_7 a0_8 l1 a2).bind fun t239 => (dormouselaw22_AuditCut.j0 k l1 a2 a3 (!t239) l0_0 l0_1 l0_2 a0_3 a0_4 a0_5 a0_6 a0_7 a0_8))) else (dormouselaw22_AuditCut.j0 k l1 a2 a3 true l0_0 l0_1 l0_2 a0_3 a0_4 a0_5 a0_6 a0_7 a0_8))) else (dormouselaw22_AuditCut.j0 k l1 a2 a3 true l0_0 l0_1 l0_2 a0_3 a0_4 a0_5 a0_6 a0_7 a0_8))
theorem dormouselaw22_AuditCut.mono_l : ∀ k, (∀ y0 y1 y2 y3 y4 y5 y6 y7 y8 y9 y10 y11 y12, LeO (dormouselaw22_AuditCut.j0 k y0 y1 y2 y3 y4 y5 y6 y7 y8 y9 y10 y11 y12) (dormouselaw22_AuditCut.j0 (k + 1) y0 y1 y2 y3 y4 y5 y6 y7 y8 y9 y10 y11 y12))
  | 0 => fun _ _ _ _ _ _ _ _ _ _ _ _ _ r h => by simp [dormouselaw22_AuditCut.j0] at h
  | k + 1 => by
    have ih0 := dormouselaw22_AuditCut.mono_l k
    · intro y0 y1 y2 y3 y4 y5 y6 y7 y8 y9 y10 y11 y12
      unfold dormouselaw22_AuditCut.j0
      repeat' first
      | (with_reducible exact ih0 _ _ _ _ _ _ _ _ _ _ _ _ _)
      | (with_reducible exact audit_Parts.mono _ _ _ _ _ _ _ _ _ _ _ _)
      | (with_reducible exact dormouselaw22_answers.mono _)
      | (with_reducible exact dormouselaw22_near.mono _ _ _)
      | (with_reducible exact dormouseref01_Table.mono _ _ _ _ _ _ _ _ _ _)
      | (with_reducible exact LeO.refl _)
      | (with_reducible exact LeO.none _)
      | (with_reducible refine LeO.ite ?_ ?_)
      | (with_reducible refine LeO.bind ?_ (fun _ => ?_))
      | exact ih0 _ _ _ _ _ _ _ _ _ _ _ _ _
      | exact audit_Parts.mono _ _ _ _ _ _ _ _ _ _ _ _
      | exact dormouselaw22_answers.mono _
      | exact dormouselaw22_near.mono _ _ _
      | exact dormouseref01_Table.mono _ _ _ _ _ _ _ _ _ _
      | exact LeO.none _
      | refine LeO.ite ?_ ?_
      | refine LeO.bind ?_ (fun _ => ?_)
theorem dormouselaw22_AuditCut.mono : ∀ a0 a1 a2 a3 a4 a5 a6 a7 a8 a9 a10 a11 k, LeO (dormouselaw22_AuditCut.f k a0 a1 a2 a3 a4 a5 a6 a7 a8 a9 a10 a11) (dormouselaw22_AuditCut.f (k + 1) a0 a1 a2 a3 a4 a5 a6 a7 a8 a9 a10 a11) := by
  intro a0 a1 a2 a3 a4 a5 a6 a7 a8 a9 a10 a11 k
  have ih0 := dormouselaw22_AuditCut.mono_l k
  unfold dormouselaw22_AuditCut.f
  repeat' first
      | (with_reducible exact ih0 _ _ _ _ _ _ _ _ _ _ _ _ _)
      | (with_reducible exact audit_Parts.mono _ _ _ _ _ _ _ _ _ _ _ _)
      | (with_reducible exact dormouselaw22_answers.mono _)
      | (with_reducible exact dormouselaw22_near.mono _ _ _)
      | (with_reducible exact dormouseref01_Table.mono _ _ _ _ _ _ _ _ _ _)
      | (with_reducible exact LeO.refl _)
      | (with_reducible exact LeO.none _)
      | (with_reducible refine LeO.ite ?_ ?_)
      | (with_reducible refine LeO.bind ?_ (fun _ => ?_))
      | exact ih0 _ _ _ _ _ _ _ _ _ _ _ _ _
      | exact audit_Parts.mono _ _ _ _ _ _ _ _ _ _ _ _
      | exact dormouselaw22_answers.mono _
      | exact dormouselaw22_near.mono _ _ _
      | exact dormouseref01_Table.mono _ _ _ _ _ _ _ _ _ _
      | exact LeO.none _
      | refine LeO.ite ?_ ?_
      | refine LeO.bind ?_ (fun _ => ?_)
def dormouselaw22_AuditCut.T4 : Bool × List (List Nat × List Nat) := (true, [([], []), ([0, 0], [0]), ([1], [1]), ([1], [1]), ([1], [1]), ([3, 4, 1], [1, 3, 4]), ([1], [1]), ([1], [1]), ([6, 7, 1], [1, 6, 7]), ([8, 1], [1, 8]), ([9, 1], [1, 9]), ([2, 5, 10, 1, 1], [1, 2, 5, 10]), ([1, 11], [1, 11]), ([12, 11], [12]), ([13], [13]), ([13], [13]), ([13], [13]), ([16, 13], [13, 16]), ([14, 15, 17, 13, 13], [13, 14, 15, 17]), ([18, 13], [13, 18]), ([13, 19], [13, 19]), ([20, 18, 0, 1, 2, 3, 4, 5, 6, 7, 8, 9, 10, 11, 12, 13, 14, 15, 16, 17, 18, 19, 20], [20])])
def dormouselaw22_AuditCut.B4 : List Nat := [0, 1, 3, 3, 3, 27, 3, 3, 195, 451, 963, 2047, 4095, 8191, 16383, 16383, 16383, 81919, 262143, 524287, 1048575, 2097151]
theorem dormouselaw22_AuditCut.tab4 : rtab .any (opsOf Try.f4 4) = dormouselaw22_AuditCut.T4 := by kernel_rfl
theorem dormouselaw22_AuditCut.bits4 : waitsOk dormouselaw22_AuditCut.T4.2 dormouselaw22_AuditCut.B4 = true := by kernel_rfl
set_option maxHeartbeats 8000000 in
set_option maxRecDepth 100000 in
theorem dormouselaw22_AuditCut.calls (k : Nat) (A0_0 : Option Addr) (c0_0 : Nat) (l0_0 : List (S45)) (A0_1 : Option Addr) (c0_1 : Nat) (l0_1 : List (S48)) (A0_2 : Option Addr) (c0_2 : Nat) (l0_2 : List (S51)) (a0_3 : Int) (a0_4 : Int) (a0_5 : Int) (a0_6 : Int) (a0_7 : Int) (a0_8 : Int) (A1 : Option Addr) (c1 : Nat) (l1 : List (S33)) (a2 : Int) (a3 : Int) (w : World) (hr0_0 : Kd.C k45 w A0_0 l0_0.length l0_0) (hc0_0 : l0_0.length ≤ c0_0) (hr0_1 : Kd.C k48 w A0_1 l0_1.length l0_1) (hc0_1 : l0_1.length ≤ c0_1) (hr0_2 : Kd.C k51 w A0_2 l0_2.length l0_2) (hc0_2 : l0_2.length ≤ c0_2) (hr1 : Kd.C k33 w A1 l1.length l1) (hc1 : l1.length ≤ c1) (h : dormouselaw22_AuditCut.f k l0_0 l0_1 l0_2 a0_3 a0_4 a0_5 a0_6 a0_7 a0_8 l1 a2 a3 = some true) :
    Calls Try.prog 4 #[.agg #[.slice A0_0 l0_0.length c0_0, .slice A0_1 l0_1.length c0_1, .slice A0_2 l0_2.length c0_2, .int .i64 a0_3, .int .i64 a0_4, .int .i64 a0_5, .int .i64 a0_6, .int .i64 a0_7, .int .i64 a0_8], .slice A1 l1.length c1, .int .i64 a2, .int .u8 a3] w fun e w' => e = .returned (.bool true) ∧ Below w.heap.size w w' := by
 have hu26 := Try.underlying26
 have HR0_0 := Aside0.mk hr0_0
 have HC0_0 := Aside0.mk hc0_0
 clear hr0_0 hc0_0
 have HR0_1 := Aside0.mk hr0_1
 have HC0_1 := Aside0.mk hc0_1
 clear hr0_1 hc0_1
 have HR0_2 := Aside0.mk hr0_2
 have HC0_2 := Aside0.mk hc0_2
 clear hr0_2 hc0_2
 have HR1 := Aside0.mk hr1
 have HC1 := Aside0.mk hc1
 clear hr1 hc1; have HB := Aside0.mk (Below.refl w.heap.size w)
 have H : ((dormouseref01_Table.f k l0_0 l0_1 l0_2 a0_3 a0_4 a0_5 a0_6 a0_7 a0_8).bind fun t237 => (if t237 = true then ((dormouselaw22_near.f k l1 (-1073741824)).bind fun t238 => (if t238 = true then (if (l1.length : Int) = 0 then (dormouselaw22_AuditCut.j0 k l1 a2 a3 true l0_0 l0_1 l0_2 a0_3 a0_4 a0_5 a0_6 a0_7 a0_8) else ((audit_Parts.f k l0_0 l0_1 l0_2 a0_3 a0_4 a0_5 a0_6 a0_7 a0_8 l1 a2).bind fun t239 => (dormouselaw22_AuditCut.j0 k l1 a2 a3 (!t239) l0_0 l0_1 l0_2 a0_3 a0_4 a0_5 a0_6 a0_7 a0_8))) else (dormouselaw22_AuditCut.j0 k l1 a2 a3 true l0_0 l0_1 l0_2 a0_3 a0_4 a0_5 a0_6 a0_7 a0_8))) else (dormouselaw22_AuditCut.j0 k l1 a2 a3 true l0_0 l0_1 l0_2 a0_3 a0_4 a0_5 a0_6 a0_7 a0_8))) = some true := h
 clear h
 have HC5 := Aside0.mk H
 clear H
 go_enter Try.func4, Try.ntmps4
 go_upto_region 1 with (first | ((with_reducible refine gate_dst (N := 4) rfl ?_); (try (refine gate_guard (by rfl) ?_; dsimp only)); refine box_event ?hg (N := 4) ?hd (cs := #[.slice A0_0 l0_0.length c0_0, .slice A0_1 l0_1.length c0_1, .slice A0_2 l0_2.length c0_2, .int .i64 a0_3, .int .i64 a0_4, .int .i64 a0_5, .int .i64 a0_6, .int .i64 a0_7, .int .i64 a0_8]) (t := 26) ?hr ?_; (case hd => rfl); (case hg => rfl); (case hr => first | (go_simp; done) | (go_simp; rfl)); intro gb236 hg w6 hbox hb; have n0_ := Aside0.mk (below_step (by repeat (first | (with_reducible first | exact HB.out | apply below_alloc | apply pw_below_drewN | apply below_drew1) | exact HB.out)) hb); have n1_ := Aside0.mk (hbox); have n2_ := Aside0.mk ((by rw [hg]; exact (below_size (by repeat (first | (with_reducible first | exact HB.out | apply below_alloc | apply pw_below_drewN | apply below_drew1) | exact HB.out))) : w.heap.size ≤ gb236)); have n3_ := Aside0.mk ((by rw [hg]; exact (below_size (by repeat (first | (with_reducible first | exact HB.out | apply below_alloc | apply pw_below_drewN | apply below_drew1) | exact HB.out))) : w.heap.size ≤ gb236)); clear HB; have HB := n0_; have BK236 := n1_; have GW236 := n2_; have GE236 := n3_; clear n0_ n1_ n2_ n3_; clear hb hbox hg))
 (try simp only [Act.put, List.setIfInBounds_toArray, List.set_cons_zero, List.set_cons_succ])
 go_cut [29] (fun v29 wc => ∃ (kq : Nat) (x29_4 : Bool), v29 = .bool x29_4 ∧ Aside0 (dormouselaw22_AuditCut.j0 kq l1 a2 a3 x29_4 l0_0 l0_1 l0_2 a0_3 a0_4 a0_5 a0_6 a0_7 a0_8 = some true) ∧ Aside0 (kq ≤ k) ∧ Aside0 (wc.heap[gb236]? = some (.cells #[(.slice A0_0 l0_0.length c0_0), (.slice A0_1 l0_1.length c0_1), (.slice A0_2 l0_2.length c0_2), .int .i64 a0_3, .int .i64 a0_4, .int .i64 a0_5, .int .i64 a0_6, .int .i64 a0_7, .int .i64 a0_8] 26 (0, 0))) ∧ Aside0 (Below w.heap.size w wc))
 case first =>
  have H := HC5.out; clear HC5
  replace H := Option.bind_eq_some_iff.mp H
  obtain ⟨t237, A70, H⟩ := H
  replace H : (if t237 = true then ((dormouselaw22_near.f k l1 (-1073741824)).bind fun t238 => (if t238 = true then (if (l1.length : Int) = 0 then (dormouselaw22_AuditCut.j0 k l1 a2 a3 true l0_0 l0_1 l0_2 a0_3 a0_4 a0_5 a0_6 a0_7 a0_8) else ((audit_Parts.f k l0_0 l0_1 l0_2 a0_3 a0_4 a0_5 a0_6 a0_7 a0_8 l1 a2).bind fun t239 => (dormouselaw22_AuditCut.j0 k l1 a2 a3 (!t239) l0_0 l0_1 l0_2 a0_3 a0_4 a0_5 a0_6 a0_7 a0_8))) else (dormouselaw22_AuditCut.j0 k l1 a2 a3 true l0_0 l0_1 l0_2 a0_3 a0_4 a0_5 a0_6 a0_7 a0_8))) else (dormouselaw22_AuditCut.j0 k l1 a2 a3 true l0_0 l0_1 l0_2 a0_3 a0_4 a0_5 a0_6 a0_7 a0_8)) = some true := H
  have A7 := Aside0.mk A70
  clear A70
  by_cases c8 : t237 = true
  ·
   subst c8
   have H1 : ((dormouselaw22_near.f k l1 (-1073741824)).bind fun t238 => (if t238 = true then (if (l1.length : Int) = 0 then (dormouselaw22_AuditCut.j0 k l1 a2 a3 true l0_0 l0_1 l0_2 a0_3 a0_4 a0_5 a0_6 a0_7 a0_8) else ((audit_Parts.f k l0_0 l0_1 l0_2 a0_3 a0_4 a0_5 a0_6 a0_7 a0_8 l1 a2).bind fun t239 => (dormouselaw22_AuditCut.j0 k l1 a2 a3 (!t239) l0_0 l0_1 l0_2 a0_3 a0_4 a0_5 a0_6 a0_7 a0_8))) else (dormouselaw22_AuditCut.j0 k l1 a2 a3 true l0_0 l0_1 l0_2 a0_3 a0_4 a0_5 a0_6 a0_7 a0_8))) = some true := by rw [if_pos rfl] at H; exact H
   clear H; have H := H1; clear H1
   replace H := Option.bind_eq_some_iff.mp H
   obtain ⟨t238, A90, H⟩ := H
   replace H : (if t238 = true then (if (l1.length : Int) = 0 then (dormouselaw22_AuditCut.j0 k l1 a2 a3 true l0_0 l0_1 l0_2 a0_3 a0_4 a0_5 a0_6 a0_7 a0_8) else ((audit_Parts.f k l0_0 l0_1 l0_2 a0_3 a0_4 a0_5 a0_6 a0_7 a0_8 l1 a2).bind fun t239 => (dormouselaw22_AuditCut.j0 k l1 a2 a3 (!t239) l0_0 l0_1 l0_2 a0_3 a0_4 a0_5 a0_6 a0_7 a0_8))) else (dormouselaw22_AuditCut.j0 k l1 a2 a3 true l0_0 l0_1 l0_2 a0_3 a0_4 a0_5 a0_6 a0_7 a0_8)) = some true := H
   have A9 := Aside0.mk A90
   clear A90
   by_cases c10 : t238 = true
   ·
    subst c10
    have H1 : (if (l1.length : Int) = 0 then (dormouselaw22_AuditCut.j0 k l1 a2 a3 true l0_0 l0_1 l0_2 a0_3 a0_4 a0_5 a0_6 a0_7 a0_8) else ((audit_Parts.f k l0_0 l0_1 l0_2 a0_3 a0_4 a0_5 a0_6 a0_7 a0_8 l1 a2).bind fun t239 => (dormouselaw22_AuditCut.j0 k l1 a2 a3 (!t239) l0_0 l0_1 l0_2 a0_3 a0_4 a0_5 a0_6 a0_7 a0_8))) = some true := by rw [if_pos rfl] at H; exact H
    clear H; have H := H1; clear H1
    by_cases c11 : (l1.length : Int) = 0
    ·
     rw [if_pos c11] at H
     have c11b0 : ((l1.length : Int) == 0) = true := beq_iff_eq.mpr c11
     have c11b1 : ((l1.length : Int) != 0) = false := bne_eq_false_iff_eq.mpr c11
     clear c11
     (first | rw [c11b0] | (simp only [i64_w, i32_w]; rw [c11b0]) | skip)
     have H' := Aside0.mk H; clear H; have hcz12_0 : w6.cell? ⟨gb236, 0, none⟩ = some (.slice A0_0 l0_0.length c0_0) := (blk_cell BK236.out 0).trans rfl; have hcz12_1 : w6.cell? ⟨gb236, 1, none⟩ = some (.slice A0_1 l0_1.length c0_1) := (blk_cell BK236.out 1).trans rfl; have hcz12_2 : w6.cell? ⟨gb236, 2, none⟩ = some (.slice A0_2 l0_2.length c0_2) := (blk_cell BK236.out 2).trans rfl; have hcz12_3 : w6.cell? ⟨gb236, 3, none⟩ = some (.int .i64 a0_3) := (blk_cell BK236.out 3).trans rfl; have hcz12_4 : w6.cell? ⟨gb236, 4, none⟩ = some (.int .i64 a0_4) := (blk_cell BK236.out 4).trans rfl; have hcz12_5 : w6.cell? ⟨gb236, 5, none⟩ = some (.int .i64 a0_5) := (blk_cell BK236.out 5).trans rfl; have hcz12_6 : w6.cell? ⟨gb236, 6, none⟩ = some (.int .i64 a0_6) := (blk_cell BK236.out 6).trans rfl; have hcz12_7 : w6.cell? ⟨gb236, 7, none⟩ = some (.int .i64 a0_7) := (blk_cell BK236.out 7).trans rfl; have hcz12_8 : w6.cell? ⟨gb236, 8, none⟩ = some (.int .i64 a0_8) := (blk_cell BK236.out 8).trans rfl; have hfz12_0 := blk_frozen BK236.out 0; have hfz12_1 := blk_frozen BK236.out 1; have hfz12_2 := blk_frozen BK236.out 2; have hfz12_3 := blk_frozen BK236.out 3; have hfz12_4 := blk_frozen BK236.out 4; have hfz12_5 := blk_frozen BK236.out 5; have hfz12_6 := blk_frozen BK236.out 6; have hfz12_7 := blk_frozen BK236.out 7; have hfz12_8 := blk_frozen BK236.out 8
     go_wp2_with (first | ((with_reducible refine gate_callee (f := 9) rfl ?_); refine goesL_ (some 11) rfl rfl Try.func9 (by kernel_rfl) rfl #[.agg #[.slice A0_0 l0_0.length c0_0, .slice A0_1 l0_1.length c0_1, .slice A0_2 l0_2.length c0_2, .int .i64 a0_3, .int .i64 a0_4, .int .i64 a0_5, .int .i64 a0_6, .int .i64 a0_7, .int .i64 a0_8]] rfl (by (try simp only [List.map_toArray, List.map_cons, List.map_nil]); first | done | rfl | (simp only [List.length_drop, List.length_take]; rfl)) ?_; (with_reducible refine (dormouseref01_Table.calls k _ _ l0_0 _ _ l0_1 _ _ l0_2 a0_3 a0_4 a0_5 a0_6 a0_7 a0_8 true _ ?side1 ?side2 ?side3 ?side4 ?side5 ?side6 A7.out).mono ?_); (case side1 => repeat (first | exact (Kd.C_below HR0_0.out HB.out) | (with_reducible refine Kd.C_alloc ?_ _) | (with_reducible refine Kd.C_drewN ?_ _) | (with_reducible refine Kd.C_drew ?_))); (case side2 => exact HC0_0.out); (case side3 => repeat (first | exact (Kd.C_below HR0_1.out HB.out) | (with_reducible refine Kd.C_alloc ?_ _) | (with_reducible refine Kd.C_drewN ?_ _) | (with_reducible refine Kd.C_drew ?_))); (case side4 => exact HC0_1.out); (case side5 => repeat (first | exact (Kd.C_below HR0_2.out HB.out) | (with_reducible refine Kd.C_alloc ?_ _) | (with_reducible refine Kd.C_drewN ?_ _) | (with_reducible refine Kd.C_drew ?_))); (case side6 => exact HC0_2.out); rintro e w13 ⟨rfl, hb⟩; refine ⟨_, rfl, ?_⟩; have n0_ := Aside0.mk (blk_below (g := gb236) (o := .cells #[.slice A0_0 l0_0.length c0_0, .slice A0_1 l0_1.length c0_1, .slice A0_2 l0_2.length c0_2, .int .i64 a0_3, .int .i64 a0_4, .int .i64 a0_5, .int .i64 a0_6, .int .i64 a0_7, .int .i64 a0_8] 26 (0, 0)) (by (with_reducible repeat (first | refine blk_drewN ?_ _ | refine blk_drew ?_ | refine blk_alloc ?_ _)); exact BK236.out) hb); have n1_ := Aside0.mk (below_step (by repeat (first | (with_reducible first | exact HB.out | apply below_alloc | apply pw_below_drewN | apply below_drew1 | refine below_set ?_ GE236.out) | exact HB.out)) hb); clear BK236; clear HB; have BK236 := n0_; have HB := n1_; clear n0_ n1_; (try clear hb); (try clear hb2); (try clear hk); (try clear hi)) | (go_at_call 10; (with_reducible refine (dormouselaw22_near.calls k _ _ l1 (-1073741824) true _ ?side1 ?side2 A9.out).mono ?_); (case side1 => repeat (first | exact (Kd.C_below HR1.out HB.out) | (with_reducible refine Kd.C_alloc ?_ _) | (with_reducible refine Kd.C_drewN ?_ _) | (with_reducible refine Kd.C_drew ?_))); (case side2 => exact HC1.out); rintro e w14 ⟨rfl, hb⟩; have n0_ := Aside0.mk (blk_below (g := gb236) (o := .cells #[.slice A0_0 l0_0.length c0_0, .slice A0_1 l0_1.length c0_1, .slice A0_2 l0_2.length c0_2, .int .i64 a0_3, .int .i64 a0_4, .int .i64 a0_5, .int .i64 a0_6, .int .i64 a0_7, .int .i64 a0_8] 26 (0, 0)) (by (with_reducible repeat (first | refine blk_drewN ?_ _ | refine blk_drew ?_ | refine blk_alloc ?_ _)); exact BK236.out) hb); have n1_ := Aside0.mk (below_step (by repeat (first | (with_reducible first | exact HB.out | apply below_alloc | apply pw_below_drewN | apply below_drew1 | refine below_set ?_ GE236.out) | exact HB.out)) hb); clear BK236; clear HB; have BK236 := n0_; have HB := n1_; clear n0_ n1_; (try clear hb); (try clear hb2); (try clear hk); (try clear hi)))
     go_meet
     case rel => exact ⟨_, (true), (by first | rfl | (simp; done) | (simp [*]; done)), H', ⟨by first | omega | exact Nat.le_refl _⟩, ⟨by (with_reducible repeat (first | refine blk_drewN ?_ _ | refine blk_drew ?_ | refine blk_alloc ?_ _)); exact BK236.out⟩, ⟨by repeat (first | (with_reducible first | exact HB.out | apply below_alloc | apply pw_below_drewN | apply below_drew1 | refine below_set ?_ GE236.out) | exact HB.out)⟩⟩
    rw [if_neg c11] at H
    have c11b0 : ((l1.length : Int) == 0) = false := beq_eq_false_iff_ne.mpr c11
    have c11b1 : ((l1.length : Int) != 0) = true := bne_iff_ne.mpr c11
    have c11b2 : ¬ (l1 = []) := fun h_ => c11 (by rw [h_]; rfl)
    (first | rw [c11b0] | (simp only [i64_w, i32_w]; rw [c11b0]) | skip)
    replace H := Option.bind_eq_some_iff.mp H
    obtain ⟨t239, A150, H⟩ := H
    replace H : (dormouselaw22_AuditCut.j0 k l1 a2 a3 (!t239) l0_0 l0_1 l0_2 a0_3 a0_4 a0_5 a0_6 a0_7 a0_8) = some true := H
    have A15 := Aside0.mk A150
    clear A150; have H' := Aside0.mk H; clear H; have hcz16_0 : w6.cell? ⟨gb236, 0, none⟩ = some (.slice A0_0 l0_0.length c0_0) := (blk_cell BK236.out 0).trans rfl; have hcz16_1 : w6.cell? ⟨gb236, 1, none⟩ = some (.slice A0_1 l0_1.length c0_1) := (blk_cell BK236.out 1).trans rfl; have hcz16_2 : w6.cell? ⟨gb236, 2, none⟩ = some (.slice A0_2 l0_2.length c0_2) := (blk_cell BK236.out 2).trans rfl; have hcz16_3 : w6.cell? ⟨gb236, 3, none⟩ = some (.int .i64 a0_3) := (blk_cell BK236.out 3).trans rfl; have hcz16_4 : w6.cell? ⟨gb236, 4, none⟩ = some (.int .i64 a0_4) := (blk_cell BK236.out 4).trans rfl; have hcz16_5 : w6.cell? ⟨gb236, 5, none⟩ = some (.int .i64 a0_5) := (blk_cell BK236.out 5).trans rfl; have hcz16_6 : w6.cell? ⟨gb236, 6, none⟩ = some (.int .i64 a0_6) := (blk_cell BK236.out 6).trans rfl; have hcz16_7 : w6.cell? ⟨gb236, 7, none⟩ = some (.int .i64 a0_7) := (blk_cell BK236.out 7).trans rfl; have hcz16_8 : w6.cell? ⟨gb236, 8, none⟩ = some (.int .i64 a0_8) := (blk_cell BK236.out 8).trans rfl; have hfz16_0 := blk_frozen BK236.out 0; have hfz16_1 := blk_frozen BK236.out 1; have hfz16_2 := blk_frozen BK236.out 2; have hfz16_3 := blk_frozen BK236.out 3; have hfz16_4 := blk_frozen BK236.out 4; have hfz16_5 := blk_frozen BK236.out 5; have hfz16_6 := blk_frozen BK236.out 6; have hfz16_7 := blk_frozen BK236.out 7; have hfz16_8 := blk_frozen BK236.out 8
    go_wp2_with (first | ((with_reducible refine gate_callee (f := 9) rfl ?_); refine goesL_ (some 11) rfl rfl Try.func9 (by kernel_rfl) rfl #[.agg #[.slice A0_0 l0_0.length c0_0, .slice A0_1 l0_1.length c0_1, .slice A0_2 l0_2.length c0_2, .int .i64 a0_3, .int .i64 a0_4, .int .i64 a0_5, .int .i64 a0_6, .int .i64 a0_7, .int .i64 a0_8]] rfl (by (try simp only [List.map_toArray, List.map_cons, List.map_nil]); first | done | rfl | (simp only [List.length_drop, List.length_take]; rfl)) ?_; (with_reducible refine (dormouseref01_Table.calls k _ _ l0_0 _ _ l0_1 _ _ l0_2 a0_3 a0_4 a0_5 a0_6 a0_7 a0_8 true _ ?side1 ?side2 ?side3 ?side4 ?side5 ?side6 A7.out).mono ?_); (case side1 => repeat (first | exact (Kd.C_below HR0_0.out HB.out) | (with_reducible refine Kd.C_alloc ?_ _) | (with_reducible refine Kd.C_drewN ?_ _) | (with_reducible refine Kd.C_drew ?_))); (case side2 => exact HC0_0.out); (case side3 => repeat (first | exact (Kd.C_below HR0_1.out HB.out) | (with_reducible refine Kd.C_alloc ?_ _) | (with_reducible refine Kd.C_drewN ?_ _) | (with_reducible refine Kd.C_drew ?_))); (case side4 => exact HC0_1.out); (case side5 => repeat (first | exact (Kd.C_below HR0_2.out HB.out) | (with_reducible refine Kd.C_alloc ?_ _) | (with_reducible refine Kd.C_drewN ?_ _) | (with_reducible refine Kd.C_drew ?_))); (case side6 => exact HC0_2.out); rintro e w17 ⟨rfl, hb⟩; refine ⟨_, rfl, ?_⟩; have n0_ := Aside0.mk (blk_below (g := gb236) (o := .cells #[.slice A0_0 l0_0.length c0_0, .slice A0_1 l0_1.length c0_1, .slice A0_2 l0_2.length c0_2, .int .i64 a0_3, .int .i64 a0_4, .int .i64 a0_5, .int .i64 a0_6, .int .i64 a0_7, .int .i64 a0_8] 26 (0, 0)) (by (with_reducible repeat (first | refine blk_drewN ?_ _ | refine blk_drew ?_ | refine blk_alloc ?_ _)); exact BK236.out) hb); have n1_ := Aside0.mk (below_step (by repeat (first | (with_reducible first | exact HB.out | apply below_alloc | apply pw_below_drewN | apply below_drew1 | refine below_set ?_ GE236.out) | exact HB.out)) hb); clear BK236; clear HB; have BK236 := n0_; have HB := n1_; clear n0_ n1_; (try clear hb); (try clear hb2); (try clear hk); (try clear hi)) | (go_at_call 10; (with_reducible refine (dormouselaw22_near.calls k _ _ l1 (-1073741824) true _ ?side1 ?side2 A9.out).mono ?_); (case side1 => repeat (first | exact (Kd.C_below HR1.out HB.out) | (with_reducible refine Kd.C_alloc ?_ _) | (with_reducible refine Kd.C_drewN ?_ _) | (with_reducible refine Kd.C_drew ?_))); (case side2 => exact HC1.out); rintro e w18 ⟨rfl, hb⟩; have n0_ := Aside0.mk (blk_below (g := gb236) (o := .cells #[.slice A0_0 l0_0.length c0_0, .slice A0_1 l0_1.length c0_1, .slice A0_2 l0_2.length c0_2, .int .i64 a0_3, .int .i64 a0_4, .int .i64 a0_5, .int .i64 a0_6, .int .i64 a0_7, .int .i64 a0_8] 26 (0, 0)) (by (with_reducible repeat (first | refine blk_drewN ?_ _ | refine blk_drew ?_ | refine blk_alloc ?_ _)); exact BK236.out) hb); have n1_ := Aside0.mk (below_step (by repeat (first | (with_reducible first | exact HB.out | apply below_alloc | apply pw_below_drewN | apply below_drew1 | refine below_set ?_ GE236.out) | exact HB.out)) hb); clear BK236; clear HB; have BK236 := n0_; have HB := n1_; clear n0_ n1_; (try clear hb); (try clear hb2); (try clear hk); (try clear hi); have hcz19_0 : w18.cell? ⟨gb236, 0, none⟩ = some (.slice A0_0 l0_0.length c0_0) := (blk_cell BK236.out 0).trans rfl; have hcz19_1 : w18.cell? ⟨gb236, 1, none⟩ = some (.slice A0_1 l0_1.length c0_1) := (blk_cell BK236.out 1).trans rfl; have hcz19_2 : w18.cell? ⟨gb236, 2, none⟩ = some (.slice A0_2 l0_2.length c0_2) := (blk_cell BK236.out 2).trans rfl; have hcz19_3 : w18.cell? ⟨gb236, 3, none⟩ = some (.int .i64 a0_3) := (blk_cell BK236.out 3).trans rfl; have hcz19_4 : w18.cell? ⟨gb236, 4, none⟩ = some (.int .i64 a0_4) := (blk_cell BK236.out 4).trans rfl; have hcz19_5 : w18.cell? ⟨gb236, 5, none⟩ = some (.int .i64 a0_5) := (blk_cell BK236.out 5).trans rfl; have hcz19_6 : w18.cell? ⟨gb236, 6, none⟩ = some (.int .i64 a0_6) := (blk_cell BK236.out 6).trans rfl; have hcz19_7 : w18.cell? ⟨gb236, 7, none⟩ = some (.int .i64 a0_7) := (blk_cell BK236.out 7).trans rfl; have hcz19_8 : w18.cell? ⟨gb236, 8, none⟩ = some (.int .i64 a0_8) := (blk_cell BK236.out 8).trans rfl; have hfz19_0 := blk_frozen BK236.out 0; have hfz19_1 := blk_frozen BK236.out 1; have hfz19_2 := blk_frozen BK236.out 2; have hfz19_3 := blk_frozen BK236.out 3; have hfz19_4 := blk_frozen BK236.out 4; have hfz19_5 := blk_frozen BK236.out 5; have hfz19_6 := blk_frozen BK236.out 6; have hfz19_7 := blk_frozen BK236.out 7; have hfz19_8 := blk_frozen BK236.out 8) | (go_at_call 12; (with_reducible refine (audit_Parts.calls k _ _ l0_0 _ _ l0_1 _ _ l0_2 a0_3 a0_4 a0_5 a0_6 a0_7 a0_8 _ _ l1 a2 t239 _ ?side1 ?side2 ?side3 ?side4 ?side5 ?side6 ?side7 ?side8 A15.out).mono ?_); (case side1 => repeat (first | exact (Kd.C_below HR0_0.out HB.out) | (with_reducible refine Kd.C_alloc ?_ _) | (with_reducible refine Kd.C_drewN ?_ _) | (with_reducible refine Kd.C_drew ?_))); (case side2 => exact HC0_0.out); (case side3 => repeat (first | exact (Kd.C_below HR0_1.out HB.out) | (with_reducible refine Kd.C_alloc ?_ _) | (with_reducible refine Kd.C_drewN ?_ _) | (with_reducible refine Kd.C_drew ?_))); (case side4 => exact HC0_1.out); (case side5 => repeat (first | exact (Kd.C_below HR0_2.out HB.out) | (with_reducible refine Kd.C_alloc ?_ _) | (with_reducible refine Kd.C_drewN ?_ _) | (with_reducible refine Kd.C_drew ?_))); (case side6 => exact HC0_2.out); (case side7 => repeat (first | exact (Kd.C_below HR1.out HB.out) | (with_reducible refine Kd.C_alloc ?_ _) | (with_reducible refine Kd.C_drewN ?_ _) | (with_reducible refine Kd.C_drew ?_))); (case side8 => exact HC1.out); rintro e w20 ⟨rfl, hb⟩; have n0_ := Aside0.mk (blk_below (g := gb236) (o := .cells #[.slice A0_0 l0_0.length c0_0, .slice A0_1 l0_1.length c0_1, .slice A0_2 l0_2.length c0_2, .int .i64 a0_3, .int .i64 a0_4, .int .i64 a0_5, .int .i64 a0_6, .int .i64 a0_7, .int .i64 a0_8] 26 (0, 0)) (by (with_reducible repeat (first | refine blk_drewN ?_ _ | refine blk_drew ?_ | refine blk_alloc ?_ _)); exact BK236.out) hb); have n1_ := Aside0.mk (below_step (by repeat (first | (with_reducible first | exact HB.out | apply below_alloc | apply pw_below_drewN | apply below_drew1 | refine below_set ?_ GE236.out) | exact HB.out)) hb); clear BK236; clear HB; have BK236 := n0_; have HB := n1_; clear n0_ n1_; (try clear hb); (try clear hb2); (try clear hk); (try clear hi)))
    go_meet
    case rel => exact ⟨_, (!t239), (by first | rfl | (simp; done) | (simp [*]; done)), H', ⟨by first | omega | exact Nat.le_refl _⟩, ⟨by (with_reducible repeat (first | refine blk_drewN ?_ _ | refine blk_drew ?_ | refine blk_alloc ?_ _)); exact BK236.out⟩, ⟨by repeat (first | (with_reducible first | exact HB.out | apply below_alloc | apply pw_below_drewN | apply below_drew1 | refine below_set ?_ GE236.out) | exact HB.out)⟩⟩
   replace c10 := Bool.eq_false_iff.mpr c10
   subst c10
   have H1 : (dormouselaw22_AuditCut.j0 k l1 a2 a3 true l0_0 l0_1 l0_2 a0_3 a0_4 a0_5 a0_6 a0_7 a0_8) = some true := by rw [if_neg (show ¬ (false = true) by decide)] at H; exact H
   clear H; have H := H1; clear H1; have H' := Aside0.mk H; clear H; have hcz21_0 : w6.cell? ⟨gb236, 0, none⟩ = some (.slice A0_0 l0_0.length c0_0) := (blk_cell BK236.out 0).trans rfl; have hcz21_1 : w6.cell? ⟨gb236, 1, none⟩ = some (.slice A0_1 l0_1.length c0_1) := (blk_cell BK236.out 1).trans rfl; have hcz21_2 : w6.cell? ⟨gb236, 2, none⟩ = some (.slice A0_2 l0_2.length c0_2) := (blk_cell BK236.out 2).trans rfl; have hcz21_3 : w6.cell? ⟨gb236, 3, none⟩ = some (.int .i64 a0_3) := (blk_cell BK236.out 3).trans rfl; have hcz21_4 : w6.cell? ⟨gb236, 4, none⟩ = some (.int .i64 a0_4) := (blk_cell BK236.out 4).trans rfl; have hcz21_5 : w6.cell? ⟨gb236, 5, none⟩ = some (.int .i64 a0_5) := (blk_cell BK236.out 5).trans rfl; have hcz21_6 : w6.cell? ⟨gb236, 6, none⟩ = some (.int .i64 a0_6) := (blk_cell BK236.out 6).trans rfl; have hcz21_7 : w6.cell? ⟨gb236, 7, none⟩ = some (.int .i64 a0_7) := (blk_cell BK236.out 7).trans rfl; have hcz21_8 : w6.cell? ⟨gb236, 8, none⟩ = some (.int .i64 a0_8) := (blk_cell BK236.out 8).trans rfl; have hfz21_0 := blk_frozen BK236.out 0; have hfz21_1 := blk_frozen BK236.out 1; have hfz21_2 := blk_frozen BK236.out 2; have hfz21_3 := blk_frozen BK236.out 3; have hfz21_4 := blk_frozen BK236.out 4; have hfz21_5 := blk_frozen BK236.out 5; have hfz21_6 := blk_frozen BK236.out 6; have hfz21_7 := blk_frozen BK236.out 7; have hfz21_8 := blk_frozen BK236.out 8
   go_wp2_with (first | ((with_reducible refine gate_callee (f := 9) rfl ?_); refine goesL_ (some 11) rfl rfl Try.func9 (by kernel_rfl) rfl #[.agg #[.slice A0_0 l0_0.length c0_0, .slice A0_1 l0_1.length c0_1, .slice A0_2 l0_2.length c0_2, .int .i64 a0_3, .int .i64 a0_4, .int .i64 a0_5, .int .i64 a0_6, .int .i64 a0_7, .int .i64 a0_8]] rfl (by (try simp only [List.map_toArray, List.map_cons, List.map_nil]); first | done | rfl | (simp only [List.length_drop, List.length_take]; rfl)) ?_; (with_reducible refine (dormouseref01_Table.calls k _ _ l0_0 _ _ l0_1 _ _ l0_2 a0_3 a0_4 a0_5 a0_6 a0_7 a0_8 true _ ?side1 ?side2 ?side3 ?side4 ?side5 ?side6 A7.out).mono ?_); (case side1 => repeat (first | exact (Kd.C_below HR0_0.out HB.out) | (with_reducible refine Kd.C_alloc ?_ _) | (with_reducible refine Kd.C_drewN ?_ _) | (with_reducible refine Kd.C_drew ?_))); (case side2 => exact HC0_0.out); (case side3 => repeat (first | exact (Kd.C_below HR0_1.out HB.out) | (with_reducible refine Kd.C_alloc ?_ _) | (with_reducible refine Kd.C_drewN ?_ _) | (with_reducible refine Kd.C_drew ?_))); (case side4 => exact HC0_1.out); (case side5 => repeat (first | exact (Kd.C_below HR0_2.out HB.out) | (with_reducible refine Kd.C_alloc ?_ _) | (with_reducible refine Kd.C_drewN ?_ _) | (with_reducible refine Kd.C_drew ?_))); (case side6 => exact HC0_2.out); rintro e w22 ⟨rfl, hb⟩; refine ⟨_, rfl, ?_⟩; have n0_ := Aside0.mk (blk_below (g := gb236) (o := .cells #[.slice A0_0 l0_0.length c0_0, .slice A0_1 l0_1.length c0_1, .slice A0_2 l0_2.length c0_2, .int .i64 a0_3, .int .i64 a0_4, .int .i64 a0_5, .int .i64 a0_6, .int .i64 a0_7, .int .i64 a0_8] 26 (0, 0)) (by (with_reducible repeat (first | refine blk_drewN ?_ _ | refine blk_drew ?_ | refine blk_alloc ?_ _)); exact BK236.out) hb); have n1_ := Aside0.mk (below_step (by repeat (first | (with_reducible first | exact HB.out | apply below_alloc | apply pw_below_drewN | apply below_drew1 | refine below_set ?_ GE236.out) | exact HB.out)) hb); clear BK236; clear HB; have BK236 := n0_; have HB := n1_; clear n0_ n1_; (try clear hb); (try clear hb2); (try clear hk); (try clear hi)) | (go_at_call 10; (with_reducible refine (dormouselaw22_near.calls k _ _ l1 (-1073741824) false _ ?side1 ?side2 A9.out).mono ?_); (case side1 => repeat (first | exact (Kd.C_below HR1.out HB.out) | (with_reducible refine Kd.C_alloc ?_ _) | (with_reducible refine Kd.C_drewN ?_ _) | (with_reducible refine Kd.C_drew ?_))); (case side2 => exact HC1.out); rintro e w23 ⟨rfl, hb⟩; have n0_ := Aside0.mk (blk_below (g := gb236) (o := .cells #[.slice A0_0 l0_0.length c0_0, .slice A0_1 l0_1.length c0_1, .slice A0_2 l0_2.length c0_2, .int .i64 a0_3, .int .i64 a0_4, .int .i64 a0_5, .int .i64 a0_6, .int .i64 a0_7, .int .i64 a0_8] 26 (0, 0)) (by (with_reducible repeat (first | refine blk_drewN ?_ _ | refine blk_drew ?_ | refine blk_alloc ?_ _)); exact BK236.out) hb); have n1_ := Aside0.mk (below_step (by repeat (first | (with_reducible first | exact HB.out | apply below_alloc | apply pw_below_drewN | apply below_drew1 | refine below_set ?_ GE236.out) | exact HB.out)) hb); clear BK236; clear HB; have BK236 := n0_; have HB := n1_; clear n0_ n1_; (try clear hb); (try clear hb2); (try clear hk); (try clear hi)))
   go_meet
   case rel => exact ⟨_, (true), (by first | rfl | (simp; done) | (simp [*]; done)), H', ⟨by first | omega | exact Nat.le_refl _⟩, ⟨by (with_reducible repeat (first | refine blk_drewN ?_ _ | refine blk_drew ?_ | refine blk_alloc ?_ _)); exact BK236.out⟩, ⟨by repeat (first | (with_reducible first | exact HB.out | apply below_alloc | apply pw_below_drewN | apply below_drew1 | refine below_set ?_ GE236.out) | exact HB.out)⟩⟩
  replace c8 := Bool.eq_false_iff.mpr c8
  subst c8
  have H1 : (dormouselaw22_AuditCut.j0 k l1 a2 a3 true l0_0 l0_1 l0_2 a0_3 a0_4 a0_5 a0_6 a0_7 a0_8) = some true := by rw [if_neg (show ¬ (false = true) by decide)] at H; exact H
  clear H; have H := H1; clear H1; have H' := Aside0.mk H; clear H; have hcz24_0 : w6.cell? ⟨gb236, 0, none⟩ = some (.slice A0_0 l0_0.length c0_0) := (blk_cell BK236.out 0).trans rfl; have hcz24_1 : w6.cell? ⟨gb236, 1, none⟩ = some (.slice A0_1 l0_1.length c0_1) := (blk_cell BK236.out 1).trans rfl; have hcz24_2 : w6.cell? ⟨gb236, 2, none⟩ = some (.slice A0_2 l0_2.length c0_2) := (blk_cell BK236.out 2).trans rfl; have hcz24_3 : w6.cell? ⟨gb236, 3, none⟩ = some (.int .i64 a0_3) := (blk_cell BK236.out 3).trans rfl; have hcz24_4 : w6.cell? ⟨gb236, 4, none⟩ = some (.int .i64 a0_4) := (blk_cell BK236.out 4).trans rfl; have hcz24_5 : w6.cell? ⟨gb236, 5, none⟩ = some (.int .i64 a0_5) := (blk_cell BK236.out 5).trans rfl; have hcz24_6 : w6.cell? ⟨gb236, 6, none⟩ = some (.int .i64 a0_6) := (blk_cell BK236.out 6).trans rfl; have hcz24_7 : w6.cell? ⟨gb236, 7, none⟩ = some (.int .i64 a0_7) := (blk_cell BK236.out 7).trans rfl; have hcz24_8 : w6.cell? ⟨gb236, 8, none⟩ = some (.int .i64 a0_8) := (blk_cell BK236.out 8).trans rfl; have hfz24_0 := blk_frozen BK236.out 0; have hfz24_1 := blk_frozen BK236.out 1; have hfz24_2 := blk_frozen BK236.out 2; have hfz24_3 := blk_frozen BK236.out 3; have hfz24_4 := blk_frozen BK236.out 4; have hfz24_5 := blk_frozen BK236.out 5; have hfz24_6 := blk_frozen BK236.out 6; have hfz24_7 := blk_frozen BK236.out 7; have hfz24_8 := blk_frozen BK236.out 8
  go_wp2_with (first | ((with_reducible refine gate_callee (f := 9) rfl ?_); refine goesL_ (some 11) rfl rfl Try.func9 (by kernel_rfl) rfl #[.agg #[.slice A0_0 l0_0.length c0_0, .slice A0_1 l0_1.length c0_1, .slice A0_2 l0_2.length c0_2, .int .i64 a0_3, .int .i64 a0_4, .int .i64 a0_5, .int .i64 a0_6, .int .i64 a0_7, .int .i64 a0_8]] rfl (by (try simp only [List.map_toArray, List.map_cons, List.map_nil]); first | done | rfl | (simp only [List.length_drop, List.length_take]; rfl)) ?_; (with_reducible refine (dormouseref01_Table.calls k _ _ l0_0 _ _ l0_1 _ _ l0_2 a0_3 a0_4 a0_5 a0_6 a0_7 a0_8 false _ ?side1 ?side2 ?side3 ?side4 ?side5 ?side6 A7.out).mono ?_); (case side1 => repeat (first | exact (Kd.C_below HR0_0.out HB.out) | (with_reducible refine Kd.C_alloc ?_ _) | (with_reducible refine Kd.C_drewN ?_ _) | (with_reducible refine Kd.C_drew ?_))); (case side2 => exact HC0_0.out); (case side3 => repeat (first | exact (Kd.C_below HR0_1.out HB.out) | (with_reducible refine Kd.C_alloc ?_ _) | (with_reducible refine Kd.C_drewN ?_ _) | (with_reducible refine Kd.C_drew ?_))); (case side4 => exact HC0_1.out); (case side5 => repeat (first | exact (Kd.C_below HR0_2.out HB.out) | (with_reducible refine Kd.C_alloc ?_ _) | (with_reducible refine Kd.C_drewN ?_ _) | (with_reducible refine Kd.C_drew ?_))); (case side6 => exact HC0_2.out); rintro e w25 ⟨rfl, hb⟩; refine ⟨_, rfl, ?_⟩; have n0_ := Aside0.mk (blk_below (g := gb236) (o := .cells #[.slice A0_0 l0_0.length c0_0, .slice A0_1 l0_1.length c0_1, .slice A0_2 l0_2.length c0_2, .int .i64 a0_3, .int .i64 a0_4, .int .i64 a0_5, .int .i64 a0_6, .int .i64 a0_7, .int .i64 a0_8] 26 (0, 0)) (by (with_reducible repeat (first | refine blk_drewN ?_ _ | refine blk_drew ?_ | refine blk_alloc ?_ _)); exact BK236.out) hb); have n1_ := Aside0.mk (below_step (by repeat (first | (with_reducible first | exact HB.out | apply below_alloc | apply pw_below_drewN | apply below_drew1 | refine below_set ?_ GE236.out) | exact HB.out)) hb); clear BK236; clear HB; have BK236 := n0_; have HB := n1_; clear n0_ n1_; (try clear hb); (try clear hb2); (try clear hk); (try clear hi)))
  go_meet
  case rel => exact ⟨_, (true), (by first | rfl | (simp; done) | (simp [*]; done)), H', ⟨by first | omega | exact Nat.le_refl _⟩, ⟨by (with_reducible repeat (first | refine blk_drewN ?_ _ | refine blk_drew ?_ | refine blk_alloc ?_ _)); exact BK236.out⟩, ⟨by repeat (first | (with_reducible first | exact HB.out | apply below_alloc | apply pw_below_drewN | apply below_drew1 | refine below_set ?_ GE236.out) | exact HB.out)⟩⟩
 case rest =>
  clear HC5; (try clear c1); (try clear p2); (try clear c4); (try clear c8); (try clear c9); (try clear c10); (try clear c11); (try clear c11b0); (try clear c11b1); (try clear c11b2); (try clear hcz12_0); (try clear hcz12_1); (try clear hcz12_2); (try clear hcz12_3); (try clear hcz12_4); (try clear hcz12_5); (try clear hcz12_6); (try clear hcz12_7); (try clear hcz12_8); (try clear hcz16_0); (try clear hcz16_1); (try clear hcz16_2); (try clear hcz16_3); (try clear hcz16_4); (try clear hcz16_5); (try clear hcz16_6); (try clear hcz16_7); (try clear hcz16_8); (try clear hcz19_0); (try clear hcz19_1); (try clear hcz19_2); (try clear hcz19_3); (try clear hcz19_4); (try clear hcz19_5); (try clear hcz19_6); (try clear hcz19_7); (try clear hcz19_8); (try clear hcz21_0); (try clear hcz21_1); (try clear hcz21_2); (try clear hcz21_3); (try clear hcz21_4); (try clear hcz21_5); (try clear hcz21_6); (try clear hcz21_7); (try clear hcz21_8); (try clear hcz24_0); (try clear hcz24_1); (try clear hcz24_2); (try clear hcz24_3); (try clear hcz24_4); (try clear hcz24_5); (try clear hcz24_6); (try clear hcz24_7); (try clear hcz24_8); (try clear hfz12_0); (try clear hfz12_1); (try clear hfz12_2); (try clear hfz12_3); (try clear hfz12_4); (try clear hfz12_5); (try clear hfz12_6); (try clear hfz12_7); (try clear hfz12_8); (try clear hfz16_0); (try clear hfz16_1); (try clear hfz16_2); (try clear hfz16_3); (try clear hfz16_4); (try clear hfz16_5); (try clear hfz16_6); (try clear hfz16_7); (try clear hfz16_8); (try clear hfz19_0); (try clear hfz19_1); (try clear hfz19_2); (try clear hfz19_3); (try clear hfz19_4); (try clear hfz19_5); (try clear hfz19_6); (try clear hfz19_7); (try clear hfz19_8); (try clear hfz21_0); (try clear hfz21_1); (try clear hfz21_2); (try clear hfz21_3); (try clear hfz21_4); (try clear hfz21_5); (try clear hfz21_6); (try clear hfz21_7); (try clear hfz21_8); (try clear hfz24_0); (try clear hfz24_1); (try clear hfz24_2); (try clear hfz24_3); (try clear hfz24_4); (try clear hfz24_5); (try clear hfz24_6); (try clear hfz24_7); (try clear hfz24_8)
  obtain ⟨kq, x29_4, rfl, HA, HJ4, BK236, HB⟩ := hcut
  cases kq with
  | zero => exact absurd HA.out (by simp [dormouselaw22_AuditCut.j0])
  | succ kj4 =>
   have H := HA.out; clear HA
   simp only [dormouselaw22_AuditCut.j0] at H
   by_cases c26 : x29_4 = true
   ·
    subst c26
    have H1 : ((dormouselaw22_answers.f kj4).bind fun t240 => (some t240)) = some true := by rw [if_pos rfl] at H; exact H
    clear H; have H := H1; clear H1
    replace H := Option.bind_eq_some_iff.mp H
    obtain ⟨t240, A270, H⟩ := H
    replace H : (some t240) = some true := H
    have A27 := Aside0.mk A270
    clear A270; have HR_ := Aside0.mk (Option.some.inj H)
    go_wp2_with (first | ((with_reducible refine gate_callee (f := 11) rfl ?_); refine goesL_ (some 30) rfl rfl Try.func11 (by kernel_rfl) rfl #[] rfl (by (try simp only [List.map_toArray, List.map_cons, List.map_nil]); first | done | rfl | (simp only [List.length_drop, List.length_take]; rfl)) ?_; (with_reducible refine (dormouselaw22_answers.calls kj4  t240 _ A27.out).mono ?_); rintro e w28 ⟨rfl, hb⟩; refine ⟨_, rfl, ?_⟩; have n0_ := Aside0.mk (blk_below (g := gb236) (o := .cells #[.slice A0_0 l0_0.length c0_0, .slice A0_1 l0_1.length c0_1, .slice A0_2 l0_2.length c0_2, .int .i64 a0_3, .int .i64 a0_4, .int .i64 a0_5, .int .i64 a0_6, .int .i64 a0_7, .int .i64 a0_8] 26 (0, 0)) (by (with_reducible repeat (first | refine blk_drewN ?_ _ | refine blk_drew ?_ | refine blk_alloc ?_ _)); exact BK236.out) hb); have n1_ := Aside0.mk (below_step (by repeat (first | (with_reducible first | exact HB.out | apply below_alloc | apply pw_below_drewN | apply below_drew1 | refine below_set ?_ GE236.out) | exact HB.out)) hb); clear BK236; clear HB; have BK236 := n0_; have HB := n1_; clear n0_ n1_; (try clear hb); (try clear hb2); (try clear hk); (try clear hi)))
    go_ret
    exact ⟨by first | rfl | (rw [HR_.out]; done) | (rw [HR_.out]; rfl) | (simp [errW_none, errW_some] <;> rfl) | (simp [*, errW_none, errW_some] <;> rfl), by repeat (first | (with_reducible first | exact HB.out | apply below_alloc | apply pw_below_drewN | apply below_drew1 | refine below_set ?_ GE236.out) | exact HB.out)⟩
   replace c26 := Bool.eq_false_iff.mpr c26
   subst c26
   have H1 : (if (l1.length : Int) = 0 then (none) else ((dormouselaw22_answers.f kj4).bind fun t241 => (if t241 = true then (if 0 ≤ (Int.tmod (wrap64 (a3)) (l1.length : Int)) then (if (Int.tmod (wrap64 (a3)) (l1.length : Int)) ≤ (l1.length : Int) then (if (Int.tmod (wrap64 (a3)) (l1.length : Int)) < (l1.length : Int) then ((audit_Parts.f kj4 l0_0 l0_1 l0_2 a0_3 a0_4 a0_5 a0_6 a0_7 a0_8 (l1.take ((Int.tmod (wrap64 (a3)) (l1.length : Int)) : Int).toNat) ((rd_T33 l1 (Int.tmod (wrap64 (a3)) (l1.length : Int))).f1)).bind fun t247 => (if t247 = true then ((audit_Parts.f kj4 l0_0 l0_1 l0_2 a0_3 a0_4 a0_5 a0_6 a0_7 a0_8 l1 (Go.bits .xor .i64 a2 1)).bind fun t248 => (some (!t248))) else (some false))) else (none)) else (none)) else (none)) else (some false)))) = some true := by rw [if_neg (show ¬ (false = true) by decide)] at H; exact H
   clear H; have H := H1; clear H1
   by_cases c29 : (l1.length : Int) = 0
   ·
    rw [if_pos c29] at H
    exact absurd H (by simp)
   rw [if_neg c29] at H
   have c29b0 : ((l1.length : Int) == 0) = false := beq_eq_false_iff_ne.mpr c29
   have c29b1 : ((l1.length : Int) != 0) = true := bne_iff_ne.mpr c29
   have c29b2 : ¬ (l1 = []) := fun h_ => c29 (by rw [h_]; rfl)
   replace H := Option.bind_eq_some_iff.mp H
   obtain ⟨t241, A300, H⟩ := H
   replace H : (if t241 = true then (if 0 ≤ (Int.tmod (wrap64 (a3)) (l1.length : Int)) then (if (Int.tmod (wrap64 (a3)) (l1.length : Int)) ≤ (l1.length : Int) then (if (Int.tmod (wrap64 (a3)) (l1.length : Int)) < (l1.length : Int) then ((audit_Parts.f kj4 l0_0 l0_1 l0_2 a0_3 a0_4 a0_5 a0_6 a0_7 a0_8 (l1.take ((Int.tmod (wrap64 (a3)) (l1.length : Int)) : Int).toNat) ((rd_T33 l1 (Int.tmod (wrap64 (a3)) (l1.length : Int))).f1)).bind fun t247 => (if t247 = true then ((audit_Parts.f kj4 l0_0 l0_1 l0_2 a0_3 a0_4 a0_5 a0_6 a0_7 a0_8 l1 (Go.bits .xor .i64 a2 1)).bind fun t248 => (some (!t248))) else (some false))) else (none)) else (none)) else (none)) else (some false)) = some true := H
   have A30 := Aside0.mk A300
   clear A300
   by_cases c31 : t241 = true
   ·
    subst c31
    have H1 : (if 0 ≤ (Int.tmod (wrap64 (a3)) (l1.length : Int)) then (if (Int.tmod (wrap64 (a3)) (l1.length : Int)) ≤ (l1.length : Int) then (if (Int.tmod (wrap64 (a3)) (l1.length : Int)) < (l1.length : Int) then ((audit_Parts.f kj4 l0_0 l0_1 l0_2 a0_3 a0_4 a0_5 a0_6 a0_7 a0_8 (l1.take ((Int.tmod (wrap64 (a3)) (l1.length : Int)) : Int).toNat) ((rd_T33 l1 (Int.tmod (wrap64 (a3)) (l1.length : Int))).f1)).bind fun t247 => (if t247 = true then ((audit_Parts.f kj4 l0_0 l0_1 l0_2 a0_3 a0_4 a0_5 a0_6 a0_7 a0_8 l1 (Go.bits .xor .i64 a2 1)).bind fun t248 => (some (!t248))) else (some false))) else (none)) else (none)) else (none)) = some true := by rw [if_pos rfl] at H; exact H
    clear H; have H := H1; clear H1
    obtain ⟨ji32, hji32⟩ : ∃ j_ : Int, (Int.tmod (wrap64 (a3)) (l1.length : Int)) = j_ := ⟨_, rfl⟩
    replace H : (if 0 ≤ (ji32) then (if (ji32) ≤ (l1.length : Int) then (if (ji32) < (l1.length : Int) then ((audit_Parts.f kj4 l0_0 l0_1 l0_2 a0_3 a0_4 a0_5 a0_6 a0_7 a0_8 (l1.take ((ji32) : Int).toNat) ((rd_T33 l1 (ji32)).f1)).bind fun t247 => (if t247 = true then ((audit_Parts.f kj4 l0_0 l0_1 l0_2 a0_3 a0_4 a0_5 a0_6 a0_7 a0_8 l1 (Go.bits .xor .i64 a2 1)).bind fun t248 => (some (!t248))) else (some false))) else (none)) else (none)) else (none)) = some true := by first | (rw [hji32] at H; exact H) | (simp only [hji32] at H ⊢; exact H)
    (try rw [hji32] at A30)
    by_cases c33 : 0 ≤ (ji32)
    ·
     rw [if_pos c33] at H
     have c33b0 := eq_true c33
     have c33b1 : decide (0 ≤ (ji32)) = true := decide_eq_true c33
     clear c33
     by_cases c34 : (ji32) ≤ (l1.length : Int)
     ·
      rw [if_pos c34] at H
      have c34b0 := eq_true c34
      have c34b1 : decide ((ji32) ≤ (l1.length : Int)) = true := decide_eq_true c34
      clear c34
      obtain ⟨y242, hy242⟩ : ∃ y_ : List (S33), y_ = (l1.take ((ji32) : Int).toNat) := ⟨_, rfl⟩
      replace H : (if (ji32) < (l1.length : Int) then ((audit_Parts.f kj4 l0_0 l0_1 l0_2 a0_3 a0_4 a0_5 a0_6 a0_7 a0_8 y242 ((rd_T33 l1 (ji32)).f1)).bind fun t247 => (if t247 = true then ((audit_Parts.f kj4 l0_0 l0_1 l0_2 a0_3 a0_4 a0_5 a0_6 a0_7 a0_8 l1 (Go.bits .xor .i64 a2 1)).bind fun t248 => (some (!t248))) else (some false))) else (none)) = some true := by first | (rw [hy242]; with_reducible exact H) | (have H2_ := (Option.bind_some _ _).symm.trans H; rw [hy242]; with_reducible exact H2_) | (have H2_ := (Option.bind_some _ _).symm.trans H; with_reducible exact H2_) | with_reducible exact H | (rw [hy242]; exact H) | exact H
      have Ny242 := Aside0.mk hy242
      clear hy242
      by_cases c35 : (ji32) < (l1.length : Int)
      ·
       rw [if_pos c35] at H
       have c35b0 : decide ((ji32) < (l1.length : Int)) = true := decide_eq_true c35
       clear c35
       replace H := Option.bind_eq_some_iff.mp H
       obtain ⟨t247, A360, H⟩ := H
       replace H : (if t247 = true then ((audit_Parts.f kj4 l0_0 l0_1 l0_2 a0_3 a0_4 a0_5 a0_6 a0_7 a0_8 l1 (Go.bits .xor .i64 a2 1)).bind fun t248 => (some (!t248))) else (some false)) = some true := H
       have A36 := Aside0.mk A360
       clear A360
       by_cases c37 : t247 = true
       ·
        subst c37
        have H1 : ((audit_Parts.f kj4 l0_0 l0_1 l0_2 a0_3 a0_4 a0_5 a0_6 a0_7 a0_8 l1 (Go.bits .xor .i64 a2 1)).bind fun t248 => (some (!t248))) = some true := by rw [if_pos rfl] at H; exact H
        clear H; have H := H1; clear H1
        replace H := Option.bind_eq_some_iff.mp H
        obtain ⟨t248, A380, H⟩ := H
        replace H : (some (!t248)) = some true := H
        have A38 := Aside0.mk A380
        clear A380; have HR_ := Aside0.mk (Option.some.inj H)
        try go_wp2
        have n0_ := Aside0.mk (blk_drew BK236.out); have n1_ := Aside0.mk (below_drew1 HB.out); clear BK236; clear HB; have BK236 := n0_; have HB := n1_; clear n0_ n1_
        have p246 : 0 ≤ ((ji32) : Int) := of_decide_eq_true (by first | (with_reducible assumption) | assumption)
        have q246 : (ji32) < (l1.length : Int) := of_decide_eq_true (by first | (with_reducible assumption) | assumption)
        obtain ⟨ad246, e246, hx246_0, hx246_1, hx246_2, hx246_3, hx246_4, hx246_5⟩ := at_T33 HR1.out (ji32) p246 q246
        have hw246_5 := hx246_5
        have hw246_4 := hx246_4
        have hw246_3 := hx246_3
        have hw246_2 := hx246_2
        have hw246_1 := hx246_1
        have hw246_0 := hx246_0
        cases e246
        replace hx246_0 := (HB.out.cell (World.block_lt_of_cell? w _ hx246_0)).trans hx246_0
        replace hx246_1 := (HB.out.cell (World.block_lt_of_cell? w _ hx246_1)).trans hx246_1
        replace hx246_2 := (HB.out.cell (World.block_lt_of_cell? w _ hx246_2)).trans hx246_2
        replace hx246_3 := (HB.out.cell (World.block_lt_of_cell? w _ hx246_3)).trans hx246_3
        replace hx246_4 := (HB.out.cell (World.block_lt_of_cell? w _ hx246_4)).trans hx246_4
        replace hx246_5 := (HB.out.cell (World.block_lt_of_cell? w _ hx246_5)).trans hx246_5
        replace p246 := eq_true p246
        replace q246 := eq_true q246
        refine start_ (n := 22) (S := fun w' => w'.cell? ⟨gb236, 0, none⟩ = some (.slice A0_0 l0_0.length c0_0) ∧ w'.cell? ⟨gb236, 1, none⟩ = some (.slice A0_1 l0_1.length c0_1) ∧ w'.cell? ⟨gb236, 2, none⟩ = some (.slice A0_2 l0_2.length c0_2) ∧ w'.cell? ⟨gb236, 3, none⟩ = some (.int .i64 a0_3) ∧ w'.cell? ⟨gb236, 4, none⟩ = some (.int .i64 a0_4) ∧ w'.cell? ⟨gb236, 5, none⟩ = some (.int .i64 a0_5) ∧ w'.cell? ⟨gb236, 6, none⟩ = some (.int .i64 a0_6) ∧ w'.cell? ⟨gb236, 7, none⟩ = some (.int .i64 a0_7) ∧ w'.cell? ⟨gb236, 8, none⟩ = some (.int .i64 a0_8) ∧ w'.cell? (ad246.add (((ji32)).toNat * 6)) = some (.int .i64 ((rd_T33 l1 (ji32)).f0)) ∧ w'.cell? ⟨(ad246.add (((ji32)).toNat * 6)).block, (ad246.add (((ji32)).toNat * 6)).off + 1, none⟩ = some (.int .i64 ((rd_T33 l1 (ji32)).f1)) ∧ w'.cell? ⟨(ad246.add (((ji32)).toNat * 6)).block, (ad246.add (((ji32)).toNat * 6)).off + 2, none⟩ = some (.int .i64 ((rd_T33 l1 (ji32)).f2)) ∧ w'.cell? ⟨(ad246.add (((ji32)).toNat * 6)).block, (ad246.add (((ji32)).toNat * 6)).off + 3, none⟩ = some (.int .i64 ((rd_T33 l1 (ji32)).f3)) ∧ w'.cell? ⟨(ad246.add (((ji32)).toNat * 6)).block, (ad246.add (((ji32)).toNat * 6)).off + 4, none⟩ = some (.int .i64 ((rd_T33 l1 (ji32)).f4)) ∧ w'.cell? ⟨(ad246.add (((ji32)).toNat * 6)).block, (ad246.add (((ji32)).toNat * 6)).off + 5, none⟩ = some (.int .i64 ((rd_T33 l1 (ji32)).f5))) (ds := []) #[false, false, false, false, false, false, false, false, false, false, false, false, false, false, false, false, false, false, false, false, false, false] (by kernel_rfl) rfl rfl ⟨(blk_cell BK236.out 0).trans rfl, (blk_cell BK236.out 1).trans rfl, (blk_cell BK236.out 2).trans rfl, (blk_cell BK236.out 3).trans rfl, (blk_cell BK236.out 4).trans rfl, (blk_cell BK236.out 5).trans rfl, (blk_cell BK236.out 6).trans rfl, (blk_cell BK236.out 7).trans rfl, (blk_cell BK236.out 8).trans rfl, ((HB.out.cell (World.block_lt_of_cell? w _ hw246_0)).trans hw246_0), ((HB.out.cell (World.block_lt_of_cell? w _ hw246_1)).trans hw246_1), ((HB.out.cell (World.block_lt_of_cell? w _ hw246_2)).trans hw246_2), ((HB.out.cell (World.block_lt_of_cell? w _ hw246_3)).trans hw246_3), ((HB.out.cell (World.block_lt_of_cell? w _ hw246_4)).trans hw246_4), ((HB.out.cell (World.block_lt_of_cell? w _ hw246_5)).trans hw246_5)⟩ (fun hHeld => ?_); refine with_tabW dormouselaw22_AuditCut.tab4 dormouselaw22_AuditCut.bits4 (fun HT_ HW_ => ?_)
        generalize wc.drew = w39 at BK236 HB hx246_0 hx246_1 hx246_2 hx246_3 hx246_4 hx246_5 hHeld ⊢
        refine one_ (i := 0) (N := some 36) #[true, false, false, false, false, false, false, false, false, false, false, false, false, false, false, false, false, false, false, false, false, false] rfl rfl (one_of HT_.out (by kernel_rfl)) (by decide) (fun K hK => ?_)
        refine goes_ Try.func11 (by kernel_rfl) rfl #[] (by rfl) rfl rfl (by (try simp only [List.map_toArray, List.map_cons, List.map_nil]); first | done | rfl | (simp only [List.length_drop, List.length_take]; rfl)) ?_
        with_reducible refine (dormouselaw22_answers.calls kj4  true _ A30.out).mono ?_
        rintro e w40 ⟨rfl, hb⟩
        refine ⟨_, rfl, ?_⟩
        have n0_ := Aside0.mk (blk_below (g := gb236) (o := .cells #[.slice A0_0 l0_0.length c0_0, .slice A0_1 l0_1.length c0_1, .slice A0_2 l0_2.length c0_2, .int .i64 a0_3, .int .i64 a0_4, .int .i64 a0_5, .int .i64 a0_6, .int .i64 a0_7, .int .i64 a0_8] 26 (0, 0)) (by (with_reducible repeat (first | refine blk_drewN ?_ _ | refine blk_drew ?_ | refine blk_alloc ?_ _)); exact BK236.out) hb); have n1_ := Aside0.mk (below_step (by repeat (first | (with_reducible first | exact HB.out | apply below_alloc | apply pw_below_drewN | apply below_drew1 | refine below_set ?_ GE236.out) | exact HB.out)) hb); clear BK236; clear HB; have BK236 := n0_; have HB := n1_; clear n0_ n1_; (try clear hb); (try clear hb2); (try clear hk); (try clear hi)
        have q41 : ((ji32) : Int) ≤ ((l1.length : Int) : Int) := of_decide_eq_true (by first | (with_reducible assumption) | assumption)
        obtain ⟨i041, hi041, _, hsz41, _⟩ := info_parts info33
        have hroom41 : l1.length ≤ c1 := HC1.out
        have hC41 : Kd.C k33 _ (some ad246) l1.length l1 := HR1.out
        have hcut41 := cut_to (P := Try.prog) 27 33 .i64 Try.underlying27 hi041 (some ad246) l1.length c1 (ji32) (of_decide_eq_true (by first | (with_reducible assumption) | assumption)) q41 hroom41
        have hr41 := Kd.C_take (m := ((ji32) : Int).toNat) hC41 (by omega)
        have hy41 : y242.length = ((ji32) : Int).toNat := (by rw [Ny242.out, List.length_take]; omega)
        rw [← Ny242.out] at hr41
        rw [← hy41] at hcut41
        have HR245 := Aside0.mk hr41
        have HC245 := Aside0.mk (show y242.length ≤ c1 from by omega); clear hr41 hC41 hroom41 hi041 hsz41
        have KY41 := Aside0.mk hy41
        clear hy41
        replace q41 := eq_true q41
        refine hK.out _ _ ⟨(blk_cell BK236.out 0).trans rfl, (blk_cell BK236.out 1).trans rfl, (blk_cell BK236.out 2).trans rfl, (blk_cell BK236.out 3).trans rfl, (blk_cell BK236.out 4).trans rfl, (blk_cell BK236.out 5).trans rfl, (blk_cell BK236.out 6).trans rfl, (blk_cell BK236.out 7).trans rfl, (blk_cell BK236.out 8).trans rfl, ((HB.out.cell (World.block_lt_of_cell? w _ hw246_0)).trans hw246_0), ((HB.out.cell (World.block_lt_of_cell? w _ hw246_1)).trans hw246_1), ((HB.out.cell (World.block_lt_of_cell? w _ hw246_2)).trans hw246_2), ((HB.out.cell (World.block_lt_of_cell? w _ hw246_3)).trans hw246_3), ((HB.out.cell (World.block_lt_of_cell? w _ hw246_4)).trans hw246_4), ((HB.out.cell (World.block_lt_of_cell? w _ hw246_5)).trans hw246_5)⟩ (fun hHeld => ?_)
        clear hK K
        refine norm_ (a' := ?_) ?_ ?_
        rotate_left
        ·
         show Act.put _ (some 36) _ = _
         simp only [Act.put, List.setIfInBounds_toArray, List.set_cons_zero, List.set_cons_succ, i64_w, i32_w]
         rfl
        refine pure_ (i := 1) (N := some 37) (v := ?_) (a' := ?_) #[true, true, false, false, false, false, false, false, false, false, false, false, false, false, false, false, false, false, false, false, false, false] rfl rfl (any_of HT_.out (by kernel_rfl)) (fun _ _ _ h => h) (Or.inl ⟨by rfl, ?_⟩) ?_ ?_; rotate_left; (· (intro w'; go_simp; with_reducible rfl)); rotate_left; (· (simp only [Act.put, List.setIfInBounds_toArray, List.set_cons_zero, List.set_cons_succ, i64_w, i32_w]; rfl))
        refine pure_ (i := 3) (N := some 39) (v := ?_) (a' := ?_) #[true, true, false, true, false, false, false, false, false, false, false, false, false, false, false, false, false, false, false, false, false, false] rfl rfl (any_of HT_.out (by kernel_rfl)) (fun _ _ _ h => h) (Or.inl ⟨by rfl, ?_⟩) ?_ ?_; rotate_left; (· (intro w'; go_simp; with_reducible rfl)); rotate_left; (· (simp only [Act.put, List.setIfInBounds_toArray, List.set_cons_zero, List.set_cons_succ, i64_w, i32_w]; rfl))
        refine pure_ (i := 4) (N := some 40) (v := ?_) (a' := ?_) #[true, true, false, true, true, false, false, false, false, false, false, false, false, false, false, false, false, false, false, false, false, false] rfl rfl (any_of HT_.out (by kernel_rfl)) (fun _ _ _ h => h) (Or.inl ⟨by rfl, ?_⟩) ?_ ?_; rotate_left; (· (intro w'; go_simp; with_reducible rfl)); rotate_left; (· (simp only [Act.put, List.setIfInBounds_toArray, List.set_cons_zero, List.set_cons_succ, i64_w, i32_w]; rfl))
        refine pure_ (i := 5) (N := some 41) (v := ?_) (a' := ?_) #[true, true, false, true, true, true, false, false, false, false, false, false, false, false, false, false, false, false, false, false, false, false] rfl rfl (any_of HT_.out (by kernel_rfl)) (fun _ _ _ h => h) (Or.inl ⟨by rfl, ?_⟩) ?_ ?_; rotate_left; (· (intro w'; go_simp; with_reducible rfl)); rotate_left; (· (simp only [Act.put, List.setIfInBounds_toArray, List.set_cons_zero, List.set_cons_succ, i64_w, i32_w]; rfl))
        refine pure_ (i := 6) (N := some 42) (v := ?_) (a' := ?_) #[true, true, false, true, true, true, true, false, false, false, false, false, false, false, false, false, false, false, false, false, false, false] rfl rfl (any_of HT_.out (by kernel_rfl)) (fun _ _ _ h => h) (Or.inl ⟨by rfl, ?_⟩) ?_ ?_; rotate_left; (· (intro w'; go_simp; with_reducible rfl)); rotate_left; (· (simp only [Act.put, List.setIfInBounds_toArray, List.set_cons_zero, List.set_cons_succ, i64_w, i32_w]; rfl))
        refine pure_ (i := 7) (N := some 43) (v := ?_) (a' := ?_) #[true, true, false, true, true, true, true, true, false, false, false, false, false, false, false, false, false, false, false, false, false, false] rfl rfl (any_of HT_.out (by kernel_rfl)) (fun _ _ _ h => h) (Or.inl ⟨by rfl, ?_⟩) ?_ ?_; rotate_left; (· (intro w'; go_simp; with_reducible rfl)); rotate_left; (· (simp only [Act.put, List.setIfInBounds_toArray, List.set_cons_zero, List.set_cons_succ, i64_w, i32_w]; rfl))
        refine pure_ (i := 8) (N := some 44) (v := ?_) (a' := ?_) #[true, true, false, true, true, true, true, true, true, false, false, false, false, false, false, false, false, false, false, false, false, false] rfl rfl (any_of HT_.out (by kernel_rfl)) (fun _ _ _ h => h) (Or.inl ⟨by rfl, ?_⟩) ?_ ?_; rotate_left; (· (intro w'; go_simp; with_reducible rfl)); rotate_left; (· (simp only [Act.put, List.setIfInBounds_toArray, List.set_cons_zero, List.set_cons_succ, i64_w, i32_w]; rfl))
        refine pure_ (i := 9) (N := some 45) (v := ?_) (a' := ?_) #[true, true, false, true, true, true, true, true, true, true, false, false, false, false, false, false, false, false, false, false, false, false] rfl rfl (any_of HT_.out (by kernel_rfl)) (fun _ _ _ h => h) (Or.inl ⟨by rfl, ?_⟩) ?_ ?_; rotate_left; (· (intro w'; go_simp; with_reducible rfl)); rotate_left; (· (simp only [Act.put, List.setIfInBounds_toArray, List.set_cons_zero, List.set_cons_succ, i64_w, i32_w]; rfl))
        refine take_ (i := 2) (N := some 38) (v := ?_) (a' := ?_) #[true, true, true, true, true, true, true, true, true, true, false, false, false, false, false, false, false, false, false, false, false, false] rfl rfl (take_ofW HT_.out HW_.out (by kernel_rfl)) (fun _ _ _ h => h) (Or.inl ⟨by rfl, ?_⟩) hHeld ?_ ?_; rotate_left; (· (rintro w' ⟨s0, s1, s2, s3, s4, s5, s6, s7, s8, s9, s10, s11, s12, s13, s14⟩; go_simp; with_reducible rfl)); rotate_left; (· (simp only [Act.put, List.setIfInBounds_toArray, List.set_cons_zero, List.set_cons_succ, i64_w, i32_w]; rfl))
        refine take_ (i := 10) (N := some 46) (v := ?_) (a' := ?_) #[true, true, true, true, true, true, true, true, true, true, true, false, false, false, false, false, false, false, false, false, false, false] rfl rfl (take_ofW HT_.out HW_.out (by kernel_rfl)) (fun _ _ _ h => h) (Or.inl ⟨by rfl, ?_⟩) hHeld ?_ ?_; rotate_left; (· (rintro w' ⟨s0, s1, s2, s3, s4, s5, s6, s7, s8, s9, s10, s11, s12, s13, s14⟩; go_simp; with_reducible rfl)); rotate_left; (· (simp only [Act.put, List.setIfInBounds_toArray, List.set_cons_zero, List.set_cons_succ, i64_w, i32_w]; rfl))
        refine one_ (i := 11) (N := some 47) #[true, true, true, true, true, true, true, true, true, true, true, true, false, false, false, false, false, false, false, false, false, false] rfl rfl (one_of HT_.out (by kernel_rfl)) (by decide) (fun K hK => ?_)
        refine goes_ Try.func12 (by kernel_rfl) rfl #[.agg #[.slice A0_0 l0_0.length c0_0, .slice A0_1 l0_1.length c0_1, .slice A0_2 l0_2.length c0_2, .int .i64 a0_3, .int .i64 a0_4, .int .i64 a0_5, .int .i64 a0_6, .int .i64 a0_7, .int .i64 a0_8], .slice (some ad246) y242.length c1, .int .i64 ((rd_T33 l1 (ji32)).f1)] (by rfl) rfl rfl (by (try simp only [List.map_toArray, List.map_cons, List.map_nil]); first | done | (simp only [hji32]; rfl) | rfl | (simp only [List.length_drop, List.length_take]; rfl)) ?_
        with_reducible refine (audit_Parts.calls kj4 _ _ l0_0 _ _ l0_1 _ _ l0_2 a0_3 a0_4 a0_5 a0_6 a0_7 a0_8 _ _ y242 ((rd_T33 l1 (ji32)).f1) true _ ?side1 ?side2 ?side3 ?side4 ?side5 ?side6 ?side7 ?side8 A36.out).mono ?_
        (case side1 => repeat (first | exact (Kd.C_below HR0_0.out HB.out) | (with_reducible refine Kd.C_alloc ?_ _) | (with_reducible refine Kd.C_drewN ?_ _) | (with_reducible refine Kd.C_drew ?_)))
        (case side2 => exact HC0_0.out)
        (case side3 => repeat (first | exact (Kd.C_below HR0_1.out HB.out) | (with_reducible refine Kd.C_alloc ?_ _) | (with_reducible refine Kd.C_drewN ?_ _) | (with_reducible refine Kd.C_drew ?_)))
        (case side4 => exact HC0_1.out)
        (case side5 => repeat (first | exact (Kd.C_below HR0_2.out HB.out) | (with_reducible refine Kd.C_alloc ?_ _) | (with_reducible refine Kd.C_drewN ?_ _) | (with_reducible refine Kd.C_drew ?_)))
        (case side6 => exact HC0_2.out)
        (case side7 => repeat (first | exact (Kd.C_below HR245.out HB.out) | (with_reducible refine Kd.C_alloc ?_ _) | (with_reducible refine Kd.C_drewN ?_ _) | (with_reducible refine Kd.C_drew ?_)))
        (case side8 => exact HC245.out)
        rintro e w42 ⟨rfl, hb⟩
        refine ⟨_, rfl, ?_⟩
        have n0_ := Aside0.mk (blk_below (g := gb236) (o := .cells #[.slice A0_0 l0_0.length c0_0, .slice A0_1 l0_1.length c0_1, .slice A0_2 l0_2.length c0_2, .int .i64 a0_3, .int .i64 a0_4, .int .i64 a0_5, .int .i64 a0_6, .int .i64 a0_7, .int .i64 a0_8] 26 (0, 0)) (by (with_reducible repeat (first | refine blk_drewN ?_ _ | refine blk_drew ?_ | refine blk_alloc ?_ _)); exact BK236.out) hb); have n1_ := Aside0.mk (below_step (by repeat (first | (with_reducible first | exact HB.out | apply below_alloc | apply pw_below_drewN | apply below_drew1 | refine below_set ?_ GE236.out) | exact HB.out)) hb); clear BK236; clear HB; have BK236 := n0_; have HB := n1_; clear n0_ n1_; (try clear hb); (try clear hb2); (try clear hk); (try clear hi)
        refine hK.out _ _ ⟨(blk_cell BK236.out 0).trans rfl, (blk_cell BK236.out 1).trans rfl, (blk_cell BK236.out 2).trans rfl, (blk_cell BK236.out 3).trans rfl, (blk_cell BK236.out 4).trans rfl, (blk_cell BK236.out 5).trans rfl, (blk_cell BK236.out 6).trans rfl, (blk_cell BK236.out 7).trans rfl, (blk_cell BK236.out 8).trans rfl, ((HB.out.cell (World.block_lt_of_cell? w _ hw246_0)).trans hw246_0), ((HB.out.cell (World.block_lt_of_cell? w _ hw246_1)).trans hw246_1), ((HB.out.cell (World.block_lt_of_cell? w _ hw246_2)).trans hw246_2), ((HB.out.cell (World.block_lt_of_cell? w _ hw246_3)).trans hw246_3), ((HB.out.cell (World.block_lt_of_cell? w _ hw246_4)).trans hw246_4), ((HB.out.cell (World.block_lt_of_cell? w _ hw246_5)).trans hw246_5)⟩ (fun hHeld => ?_)
        clear hK K
        refine norm_ (a' := ?_) ?_ ?_
        rotate_left
        ·
         show Act.put _ (some 47) _ = _
         simp only [Act.put, List.setIfInBounds_toArray, List.set_cons_zero, List.set_cons_succ, i64_w, i32_w]
         rfl
        refine pure_ (i := 12) (N := some 48) (v := ?_) (a' := ?_) #[true, true, true, true, true, true, true, true, true, true, true, true, true, false, false, false, false, false, false, false, false, false] rfl rfl (any_of HT_.out (by kernel_rfl)) (fun _ _ _ h => h) (Or.inl ⟨by rfl, ?_⟩) ?_ ?_; rotate_left; (· (intro w'; go_simp; with_reducible rfl)); rotate_left; (· (simp only [Act.put, List.setIfInBounds_toArray, List.set_cons_zero, List.set_cons_succ, i64_w, i32_w]; rfl))
        refine pure_ (i := 13) (N := some 49) (v := ?_) (a' := ?_) #[true, true, true, true, true, true, true, true, true, true, true, true, true, true, false, false, false, false, false, false, false, false] rfl rfl (any_of HT_.out (by kernel_rfl)) (fun _ _ _ h => h) (Or.inl ⟨by rfl, ?_⟩) ?_ ?_; rotate_left; (· (intro w'; go_simp; with_reducible rfl)); rotate_left; (· (simp only [Act.put, List.setIfInBounds_toArray, List.set_cons_zero, List.set_cons_succ, i64_w, i32_w]; rfl))
        refine pure_ (i := 15) (N := some 51) (v := ?_) (a' := ?_) #[true, true, true, true, true, true, true, true, true, true, true, true, true, true, false, true, false, false, false, false, false, false] rfl rfl (any_of HT_.out (by kernel_rfl)) (fun _ _ _ h => h) (Or.inl ⟨by rfl, ?_⟩) ?_ ?_; rotate_left; (· (intro w'; go_simp; with_reducible rfl)); rotate_left; (· (simp only [Act.put, List.setIfInBounds_toArray, List.set_cons_zero, List.set_cons_succ, i64_w, i32_w]; rfl))
        refine pure_ (i := 16) (N := some 52) (v := ?_) (a' := ?_) #[true, true, true, true, true, true, true, true, true, true, true, true, true, true, false, true, true, false, false, false, false, false] rfl rfl (any_of HT_.out (by kernel_rfl)) (fun _ _ _ h => h) (Or.inl ⟨by rfl, ?_⟩) ?_ ?_; rotate_left; (· (intro w'; go_simp; with_reducible rfl)); rotate_left; (· (simp only [Act.put, List.setIfInBounds_toArray, List.set_cons_zero, List.set_cons_succ, i64_w, i32_w]; rfl))
        refine pure_ (i := 17) (N := some 53) (v := ?_) (a' := ?_) #[true, true, true, true, true, true, true, true, true, true, true, true, true, true, false, true, true, true, false, false, false, false] rfl rfl (any_of HT_.out (by kernel_rfl)) (fun _ _ _ h => h) (Or.inl ⟨by rfl, ?_⟩) ?_ ?_; rotate_left; (· (intro w'; go_simp; with_reducible rfl)); rotate_left; (· (simp only [Act.put, List.setIfInBounds_toArray, List.set_cons_zero, List.set_cons_succ, i64_w, i32_w]; rfl))
        refine take_ (i := 14) (N := some 50) (v := ?_) (a' := ?_) #[true, true, true, true, true, true, true, true, true, true, true, true, true, true, true, true, true, true, false, false, false, false] rfl rfl (take_ofW HT_.out HW_.out (by kernel_rfl)) (fun _ _ _ h => h) (Or.inl ⟨by rfl, ?_⟩) hHeld ?_ ?_; rotate_left; (· (rintro w' ⟨s0, s1, s2, s3, s4, s5, s6, s7, s8, s9, s10, s11, s12, s13, s14⟩; go_simp; with_reducible rfl)); rotate_left; (· (simp only [Act.put, List.setIfInBounds_toArray, List.set_cons_zero, List.set_cons_succ, i64_w, i32_w]; rfl))
        refine one_ (i := 18) (N := some 54) #[true, true, true, true, true, true, true, true, true, true, true, true, true, true, true, true, true, true, true, false, false, false] rfl rfl (one_of HT_.out (by kernel_rfl)) (by decide) (fun K hK => ?_)
        refine goes_ Try.func12 (by kernel_rfl) rfl #[.agg #[.slice A0_0 l0_0.length c0_0, .slice A0_1 l0_1.length c0_1, .slice A0_2 l0_2.length c0_2, .int .i64 a0_3, .int .i64 a0_4, .int .i64 a0_5, .int .i64 a0_6, .int .i64 a0_7, .int .i64 a0_8], .slice (some ad246) l1.length c1, .int .i64 (Go.bits .xor .i64 a2 1)] (by rfl) rfl rfl (by (try simp only [List.map_toArray, List.map_cons, List.map_nil]); first | done | rfl | (simp only [List.length_drop, List.length_take]; rfl)) ?_
        with_reducible refine (audit_Parts.calls kj4 _ _ l0_0 _ _ l0_1 _ _ l0_2 a0_3 a0_4 a0_5 a0_6 a0_7 a0_8 _ _ l1 (Go.bits .xor .i64 a2 1) t248 _ ?side1 ?side2 ?side3 ?side4 ?side5 ?side6 ?side7 ?side8 A38.out).mono ?_
        (case side1 => repeat (first | exact (Kd.C_below HR0_0.out HB.out) | (with_reducible refine Kd.C_alloc ?_ _) | (with_reducible refine Kd.C_drewN ?_ _) | (with_reducible refine Kd.C_drew ?_)))
        (case side2 => exact HC0_0.out)
        (case side3 => repeat (first | exact (Kd.C_below HR0_1.out HB.out) | (with_reducible refine Kd.C_alloc ?_ _) | (with_reducible refine Kd.C_drewN ?_ _) | (with_reducible refine Kd.C_drew ?_)))
        (case side4 => exact HC0_1.out)
        (case side5 => repeat (first | exact (Kd.C_below HR0_2.out HB.out) | (with_reducible refine Kd.C_alloc ?_ _) | (with_reducible refine Kd.C_drewN ?_ _) | (with_reducible refine Kd.C_drew ?_)))
        (case side6 => exact HC0_2.out)
        (case side7 => repeat (first | exact (Kd.C_below HR1.out HB.out) | (with_reducible refine Kd.C_alloc ?_ _) | (with_reducible refine Kd.C_drewN ?_ _) | (with_reducible refine Kd.C_drew ?_)))
        (case side8 => exact HC1.out)
        rintro e w43 ⟨rfl, hb⟩
        refine ⟨_, rfl, ?_⟩
        have n0_ := Aside0.mk (blk_below (g := gb236) (o := .cells #[.slice A0_0 l0_0.length c0_0, .slice A0_1 l0_1.length c0_1, .slice A0_2 l0_2.length c0_2, .int .i64 a0_3, .int .i64 a0_4, .int .i64 a0_5, .int .i64 a0_6, .int .i64 a0_7, .int .i64 a0_8] 26 (0, 0)) (by (with_reducible repeat (first | refine blk_drewN ?_ _ | refine blk_drew ?_ | refine blk_alloc ?_ _)); exact BK236.out) hb); have n1_ := Aside0.mk (below_step (by repeat (first | (with_reducible first | exact HB.out | apply below_alloc | apply pw_below_drewN | apply below_drew1 | refine below_set ?_ GE236.out) | exact HB.out)) hb); clear BK236; clear HB; have BK236 := n0_; have HB := n1_; clear n0_ n1_; (try clear hb); (try clear hb2); (try clear hk); (try clear hi)
        refine hK.out _ _ ⟨(blk_cell BK236.out 0).trans rfl, (blk_cell BK236.out 1).trans rfl, (blk_cell BK236.out 2).trans rfl, (blk_cell BK236.out 3).trans rfl, (blk_cell BK236.out 4).trans rfl, (blk_cell BK236.out 5).trans rfl, (blk_cell BK236.out 6).trans rfl, (blk_cell BK236.out 7).trans rfl, (blk_cell BK236.out 8).trans rfl, ((HB.out.cell (World.block_lt_of_cell? w _ hw246_0)).trans hw246_0), ((HB.out.cell (World.block_lt_of_cell? w _ hw246_1)).trans hw246_1), ((HB.out.cell (World.block_lt_of_cell? w _ hw246_2)).trans hw246_2), ((HB.out.cell (World.block_lt_of_cell? w _ hw246_3)).trans hw246_3), ((HB.out.cell (World.block_lt_of_cell? w _ hw246_4)).trans hw246_4), ((HB.out.cell (World.block_lt_of_cell? w _ hw246_5)).trans hw246_5)⟩ (fun hHeld => ?_)
        clear hK K
        refine norm_ (a' := ?_) ?_ ?_
        rotate_left
        ·
         show Act.put _ (some 54) _ = _
         simp only [Act.put, List.setIfInBounds_toArray, List.set_cons_zero, List.set_cons_succ, i64_w, i32_w]
         rfl
        refine pure_ (i := 19) (N := some 55) (v := ?_) (a' := ?_) #[true, true, true, true, true, true, true, true, true, true, true, true, true, true, true, true, true, true, true, true, false, false] rfl rfl (any_of HT_.out (by kernel_rfl)) (fun _ _ _ h => h) (Or.inl ⟨by rfl, ?_⟩) ?_ ?_; rotate_left; (· (intro w'; go_simp; with_reducible rfl)); rotate_left; (· (simp only [Act.put, List.setIfInBounds_toArray, List.set_cons_zero, List.set_cons_succ, i64_w, i32_w]; rfl))
        refine pure_ (i := 20) (N := some 56) (v := ?_) (a' := ?_) #[true, true, true, true, true, true, true, true, true, true, true, true, true, true, true, true, true, true, true, true, true, false] rfl rfl (any_of HT_.out (by kernel_rfl)) (fun _ _ _ h => h) (Or.inl ⟨by rfl, ?_⟩) ?_ ?_; rotate_left; (· (intro w'; go_simp; with_reducible rfl)); rotate_left; (· (simp only [Act.put, List.setIfInBounds_toArray, List.set_cons_zero, List.set_cons_succ, i64_w, i32_w]; rfl))
        refine pure_ (i := 21) (N := some 8) (v := ?_) (a' := ?_) #[true, true, true, true, true, true, true, true, true, true, true, true, true, true, true, true, true, true, true, true, true, true] rfl rfl (any_of HT_.out (by kernel_rfl)) (fun _ _ _ h => h) (Or.inl ⟨by rfl, ?_⟩) ?_ ?_; rotate_left; (· (intro w'; go_simp; with_reducible rfl)); rotate_left; (· (simp only [Act.put, List.setIfInBounds_toArray, List.set_cons_zero, List.set_cons_succ, i64_w, i32_w]; rfl))
        refine done_ (done_of HT_.out (by kernel_rfl)) ?_
        try go_wp2
        go_ret
        exact ⟨by first | rfl | (rw [HR_.out]; done) | (rw [HR_.out]; rfl) | (simp [errW_none, errW_some] <;> rfl) | (simp only [← hji32]; first | rfl | (simp [errW_none, errW_some] <;> rfl)) | (simp [*, errW_none, errW_some] <;> rfl), by repeat (first | (with_reducible first | exact HB.out | apply below_alloc | apply pw_below_drewN | apply below_drew1 | refine below_set ?_ GE236.out) | exact HB.out)⟩
       replace c37 := Bool.eq_false_iff.mpr c37
       subst c37
       have H1 : (some false) = some true := by rw [if_neg (show ¬ (false = true) by decide)] at H; exact H
       cases H1
      rw [if_neg c35] at H
      exact absurd H (by simp)
     rw [if_neg c34] at H
     exact absurd H (by simp)
    rw [if_neg c33] at H
    exact absurd H (by simp)
   replace c31 := Bool.eq_false_iff.mpr c31
   subst c31
   have H1 : (some false) = some true := by rw [if_neg (show ¬ (false = true) by decide)] at H; exact H
   cases H1

end Go.Proofs.Ytahdadmibmgpmaa.PAll
