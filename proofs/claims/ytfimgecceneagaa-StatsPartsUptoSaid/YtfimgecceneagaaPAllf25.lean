/- Total of the package stats: all rows together. By hand. -/
import Derived.Test.YtfimgecceneagaaArr
import Derived.Test.YtfimgecceneagaaPAllx0
import Derived.Deep.MidRow
namespace Go.Proofs.Ytfimgecceneagaa.PAll
open Go.RowKit Go.Proofs.YtfimgecceneagaaW.PrintWords Go.Proofs.YtfimgecceneagaaW.PrintLast Go.Proofs.Ytfimgecceneagaa.Arr
set_option linter.unusedVariables false
set_option linter.unusedSimpArgs false
attribute [local go_sem] maxTwo

/-- The sum of field f over the first n rows; the greatest last field. -/
def totF (v : Nat → Int) (f : Nat) : Nat → Int
  | 0 => 0
  | n + 1 => wrap64 (totF v f n + v (n * 6 + f))
def totM (v : Nat → Int) : Nat → Int
  | 0 => 0
  | n + 1 => gr (totM v n) (v (n * 6 + 5))
theorem totF_succ (v : Nat → Int) (f : Nat) (i : Int) (h : 0 ≤ i) : totF v f (i + 1).toNat = wrap64 (totF v f i.toNat + v (i.toNat * 6 + f)) := by
  rw [show (i + 1).toNat = i.toNat + 1 by omega]; rfl
theorem totM_succ (v : Nat → Int) (i : Int) (h : 0 ≤ i) : totM v (i + 1).toNat = gr (totM v i.toNat) (v (i.toNat * 6 + 5)) := by
  rw [show (i + 1).toNat = i.toNat + 1 by omega]; rfl
theorem index_row (v : Nat → Int) (i : Int) (h0 : 0 ≤ i) (h1 : i < 6) (W : World) : (Instr.index 50 (.agg (arrN 36 v)) (.int .i64 i)).run Try.prog W = .ok (.agg #[.int .i64 (v (i.toNat * 6)), .int .i64 (v (i.toNat * 6 + 1)), .int .i64 (v (i.toNat * 6 + 2)), .int .i64 (v (i.toNat * 6 + 3)), .int .i64 (v (i.toNat * 6 + 4)), .int .i64 (v (i.toNat * 6 + 5))]) W := by
  have : i = 0 ∨ i = 1 ∨ i = 2 ∨ i = 3 ∨ i = 4 ∨ i = 5 := by omega
  rcases this with rfl | rfl | rfl | rfl | rfl | rfl <;> (refine (?_ : _ = _); kernel_rfl)
theorem range36 {w : World} {g : Nat} {t : TypeId} {n : Nat} {v : Nat → Int} (hn : 36 ≤ n) (h : w.heap[g]? = some (.cells (arrN n v) t (0, 0))) : w.rangeAt g 0 (arrN 36 v).toList := fun j u hj => by
  have hj' : (arrN 36 v)[j]? = some u := by simpa using hj
  have hlt : j < 36 := by
    by_cases hq : j < 36
    · exact hq
    · rw [Array.getElem?_eq_none (by simp [arrN]; omega)] at hj'; cases hj'
  rw [arrN_get 36 v j hlt] at hj'
  rw [Nat.zero_add, arrN_cell h j (by omega)]; exact hj'
theorem arrN_size (n : Nat) (v : Nat → Int) : (arrN n v).size = n := by simp [arrN]
set_option maxHeartbeats 8000000 in
set_option maxRecDepth 100000 in
theorem stats_Total.calls (v : Nat → Int) (w : World) :
    Calls Try.prog 25 #[.agg (arrN 36 v)] w fun e w' => e = .returned (.agg #[.int .i64 (totF v 0 6), .int .i64 (totF v 1 6), .int .i64 (totF v 2 6), .int .i64 (totF v 3 6), .int .i64 (totF v 4 6), .int .i64 (totM v 6)]) ∧ Below w.heap.size w w' := by
  have hu50 := Try.underlying50
  have hu49 := Try.underlying49
  have HB := Aside0.mk (Below.refl w.heap.size w)
  obtain ⟨cs, hcs⟩ : ∃ cs, Aside0 (cs = arrN 36 v) := ⟨_, ⟨rfl⟩⟩
  rw [← hcs.out]
  have hsz : Aside0 (cs.size = 36) := ⟨by rw [hcs.out, arrN_size]⟩
  go_enter Try.func25, Try.ntmps25
  go_upto_region 2 with (first | ((with_reducible refine gate_dst (N := 1) rfl ?_); refine box_event ?hg (N := 1) ?hd (cs := cs) (t := 50) ?hr ?_; (case hd => rfl); (case hg => rfl); (case hr => first | (go_simp; done) | (go_simp; rfl)); intro g1 hg w2 hbox hb; have n0_ := Aside0.mk (below_step HB.out hb); have n1_ := Aside0.mk hbox; clear HB; have HB := n0_; have BK1 := n1_; clear n0_ n1_; clear hb hbox hg) | ((with_reducible refine gate_dst (N := 2) rfl ?_); refine box_event ?hg (N := 2) ?hd (cs := #[.int .i64 0, .int .i64 0, .int .i64 0, .int .i64 0, .int .i64 0, .int .i64 0]) (t := 49) ?hr ?_; (case hd => rfl); (case hg => rfl); (case hr => first | (go_simp; done) | (go_simp; rfl)); intro g2 hg w3 hbox hb; have n0_ := Aside0.mk (below_step HB.out hb); have n1_ := Aside0.mk hbox; have n2_ := Aside0.mk ((by rw [hg]; exact (below_size HB.out)) : w.heap.size ≤ g2); have n3_ := Aside0.mk (blk_below BK1.out hb); clear HB BK1; have HB := n0_; have BK2 := n1_; have GE2 := n2_; have BK1 := n3_; clear n0_ n1_ n2_ n3_; clear hb hbox hg) | ((with_reducible refine gate_dst (N := 3) rfl ?_); refine box_event ?hg (N := 3) ?hd (cs := #[.int .i64 0, .int .i64 0, .int .i64 0, .int .i64 0, .int .i64 0, .int .i64 0]) (t := 49) ?hr ?_; (case hd => rfl); (case hg => rfl); (case hr => first | (go_simp; done) | (go_simp; rfl)); intro g3 hg w4 hbox hb; have n0_ := Aside0.mk (below_step HB.out hb); have n1_ := Aside0.mk hbox; have n2_ := Aside0.mk ((by rw [hg]; exact (below_size HB.out)) : w.heap.size ≤ g3); have n3_ := Aside0.mk (blk_below BK1.out hb); have n4_ := Aside0.mk (blk_below BK2.out hb); have n23 : g2 ≠ g3 := (by have := blk_lt BK2.out; omega); have n32 := n23.symm; clear HB BK1 BK2; have HB := n0_; have BK3 := n1_; have GE3 := n2_; have BK1 := n3_; have BK2 := n4_; clear n0_ n1_ n2_ n3_ n4_; clear hb hbox hg))
  have hra : Aside0 (w4.rangeAt g1 0 cs.toList) := ⟨by rw [hcs.out]; have := BK1.out; rw [hcs.out] at this; exact range36 (by omega) this⟩
  go_wp2_with (first | ((with_reducible refine gate_dst (N := 6) rfl ?_); refine wpList_load_mid rfl 50 (.tmp 1) rfl g1 0 ?hx cs.toList _ hra.out Try.underlying50 rfl ?hi ?_; (case hx => rfl); (case hi => rw [Array.length_toList, hsz.out]; kernel_rfl); rw [Array.toArray_toList]))
  go_loopg [7] 7 (fun kq v7 w' => ∃ (i : Int), v7 = .int .i64 i ∧ Aside0 (0 ≤ i ∧ i ≤ 6 ∧ (kq : Int) + i = 7) ∧ Aside0 (w'.heap[g2]? = some (.cells #[.int .i64 0, .int .i64 0, .int .i64 0, .int .i64 0, .int .i64 0, .int .i64 0] 49 (0, 0))) ∧ Aside0 (w'.heap[g3]? = some (.cells #[.int .i64 (totF v 0 i.toNat), .int .i64 (totF v 1 i.toNat), .int .i64 (totF v 2 i.toNat), .int .i64 (totF v 3 i.toNat), .int .i64 (totF v 4 i.toNat), .int .i64 (totM v i.toNat)] 49 (0, 0))) ∧ Aside0 (Below w.heap.size w w'))
  case atStart => exact ⟨0, rfl, ⟨by omega, by omega, by omega⟩, ⟨BK2.out⟩, ⟨BK3.out⟩, ⟨HB.out⟩⟩
  case round =>
  clear BK1 BK2 BK3 HB hra
  obtain ⟨i, rfl, HI, BK2, BK3, HB⟩ := hrel
  have hi0 := HI.out.1
  by_cases c : i < 6
  case neg =>
    have c0 : decide (i < 6) = false := decide_eq_false c
    have hi6 : i.toNat = 6 := by have := HI.out; omega
    rw [hi6] at BK3
    clear HI hi0 c hi6
    have a0 : wr.cell? ⟨g3, 0, none⟩ = some (.int .i64 (totF v 0 6)) := (blk_cell BK3.out 0).trans rfl
    have a1 : wr.cell? ⟨g3, 1, none⟩ = some (.int .i64 (totF v 1 6)) := (blk_cell BK3.out 1).trans rfl
    have a2 : wr.cell? ⟨g3, 2, none⟩ = some (.int .i64 (totF v 2 6)) := (blk_cell BK3.out 2).trans rfl
    have a3 : wr.cell? ⟨g3, 3, none⟩ = some (.int .i64 (totF v 3 6)) := (blk_cell BK3.out 3).trans rfl
    have a4 : wr.cell? ⟨g3, 4, none⟩ = some (.int .i64 (totF v 4 6)) := (blk_cell BK3.out 4).trans rfl
    have a5 : wr.cell? ⟨g3, 5, none⟩ = some (.int .i64 (totM v 6)) := (blk_cell BK3.out 5).trans rfl
    have b0 : wr.cell? ⟨g2, 0, none⟩ = some (.int .i64 0) := (blk_cell BK2.out 0).trans rfl
    have d0 := blk_frozen BK2.out 0
    have b1 : wr.cell? ⟨g2, 1, none⟩ = some (.int .i64 0) := (blk_cell BK2.out 1).trans rfl
    have d1 := blk_frozen BK2.out 1
    have b2 : wr.cell? ⟨g2, 2, none⟩ = some (.int .i64 0) := (blk_cell BK2.out 2).trans rfl
    have d2 := blk_frozen BK2.out 2
    have b3 : wr.cell? ⟨g2, 3, none⟩ = some (.int .i64 0) := (blk_cell BK2.out 3).trans rfl
    have d3 := blk_frozen BK2.out 3
    have b4 : wr.cell? ⟨g2, 4, none⟩ = some (.int .i64 0) := (blk_cell BK2.out 4).trans rfl
    have d4 := blk_frozen BK2.out 4
    have b5 : wr.cell? ⟨g2, 5, none⟩ = some (.int .i64 0) := (blk_cell BK2.out 5).trans rfl
    have d5 := blk_frozen BK2.out 5
    go_wp2
    refine bodyPost_ret (results_cell_row rfl _ _ g2 49 #[.int .i64 (totF v 0 6), .int .i64 (totF v 1 6), .int .i64 (totF v 2 6), .int .i64 (totF v 3 6), .int .i64 (totF v 4 6), .int .i64 (totM v 6)] (0, 0) _ (by rfl) (by (try with_reducible refine blk_drewN ?_ _); refine blk_put (cs := #[.int .i64 (totF v 0 6), .int .i64 (totF v 1 6), .int .i64 (totF v 2 6), .int .i64 (totF v 3 6), .int .i64 (totF v 4 6), .int .i64 0]) ?_ 5 _ rfl; (try with_reducible refine blk_drewN ?_ _); refine blk_put (cs := #[.int .i64 (totF v 0 6), .int .i64 (totF v 1 6), .int .i64 (totF v 2 6), .int .i64 (totF v 3 6), .int .i64 0, .int .i64 0]) ?_ 4 _ rfl; (try with_reducible refine blk_drewN ?_ _); refine blk_put (cs := #[.int .i64 (totF v 0 6), .int .i64 (totF v 1 6), .int .i64 (totF v 2 6), .int .i64 0, .int .i64 0, .int .i64 0]) ?_ 3 _ rfl; (try with_reducible refine blk_drewN ?_ _); refine blk_put (cs := #[.int .i64 (totF v 0 6), .int .i64 (totF v 1 6), .int .i64 0, .int .i64 0, .int .i64 0, .int .i64 0]) ?_ 2 _ rfl; (try with_reducible refine blk_drewN ?_ _); refine blk_put (cs := #[.int .i64 (totF v 0 6), .int .i64 0, .int .i64 0, .int .i64 0, .int .i64 0, .int .i64 0]) ?_ 1 _ rfl; (try with_reducible refine blk_drewN ?_ _); refine blk_put (cs := #[.int .i64 0, .int .i64 0, .int .i64 0, .int .i64 0, .int .i64 0, .int .i64 0]) ?_ 0 _ rfl; exact BK2.out) Try.underlying49 rfl (by kernel_rfl)) rfl ?_
    refine ⟨rfl, ?_⟩
    repeat (first | (with_reducible exact HB.out) | (with_reducible first | apply below_alloc | apply pw_below_drewN | apply below_drew1) | (with_reducible refine below_set ?_ GE2.out))
  have c0 : decide (i < 6) = true := decide_eq_true c
  cases gk with
  | zero => exact absurd HI.out.2.2 (by have := HI.out.2.1; omega)
  | succ k1 =>
  have HI1 : Aside0 (0 ≤ i + 1 ∧ i + 1 ≤ 6 ∧ (k1 : Int) + (i + 1) = 7) := ⟨by have := HI.out.2; omega⟩
  have next : wrap64 (i + 1) = i + 1 := by unfold wrap64; omega
  have hidx : ∀ W : World, (Instr.index 50 (.agg cs) (.int .i64 i)).run Try.prog W = .ok (.agg #[.int .i64 (v (i.toNat * 6)), .int .i64 (v (i.toNat * 6 + 1)), .int .i64 (v (i.toNat * 6 + 2)), .int .i64 (v (i.toNat * 6 + 3)), .int .i64 (v (i.toNat * 6 + 4)), .int .i64 (v (i.toNat * 6 + 5))]) W := fun W => by rw [hcs.out]; exact index_row v i hi0 c W
  go_upto_region 5 with (first | ((with_reducible refine gate_dst (N := 5) rfl ?_); refine box_event ?hg (N := 5) ?hd (cs := #[.int .i64 0, .int .i64 0, .int .i64 0, .int .i64 0, .int .i64 0, .int .i64 0]) (t := 49) ?hr ?_; (case hd => rfl); (case hg => rfl); (case hr => first | (go_simp; done) | (go_simp; rfl)); intro g5 hg w6 hbox hb; have n0_ := Aside0.mk (below_step HB.out hb); have n1_ := Aside0.mk hbox; have n2_ := Aside0.mk ((by rw [hg]; exact (below_size HB.out)) : w.heap.size ≤ g5); have n3_ := Aside0.mk (blk_below BK2.out hb); have n4_ := Aside0.mk (blk_below BK3.out hb); have n25 : g2 ≠ g5 := (by have := blk_lt BK2.out; omega); have n35 : g3 ≠ g5 := (by have := blk_lt BK3.out; omega); have n53 := n35.symm; clear HB BK2 BK3; have HB := n0_; have BK5 := n1_; have GE5 := n2_; have BK2 := n3_; have BK3 := n4_; clear n0_ n1_ n2_ n3_ n4_; clear hb hbox hg; have z0 : w6.cell? ⟨g5, 0, none⟩ = some (.int .i64 0) := (blk_cell BK5.out 0).trans rfl; have y0 := blk_frozen BK5.out 0; have z1 : w6.cell? ⟨g5, 1, none⟩ = some (.int .i64 0) := (blk_cell BK5.out 1).trans rfl; have y1 := blk_frozen BK5.out 1; have z2 : w6.cell? ⟨g5, 2, none⟩ = some (.int .i64 0) := (blk_cell BK5.out 2).trans rfl; have y2 := blk_frozen BK5.out 2; have z3 : w6.cell? ⟨g5, 3, none⟩ = some (.int .i64 0) := (blk_cell BK5.out 3).trans rfl; have y3 := blk_frozen BK5.out 3; have z4 : w6.cell? ⟨g5, 4, none⟩ = some (.int .i64 0) := (blk_cell BK5.out 4).trans rfl; have y4 := blk_frozen BK5.out 4; have z5 : w6.cell? ⟨g5, 5, none⟩ = some (.int .i64 0) := (blk_cell BK5.out 5).trans rfl; have y5 := blk_frozen BK5.out 5))
  have m0_ : Aside0 ((((((((w6.setCell ⟨g5, 0, none⟩ (.int .i64 (v (i.toNat * 6)))).setCell ⟨g5, 1, none⟩ (.int .i64 (v (i.toNat * 6 + 1)))).setCell ⟨g5, 2, none⟩ (.int .i64 (v (i.toNat * 6 + 2)))).setCell ⟨g5, 3, none⟩ (.int .i64 (v (i.toNat * 6 + 3)))).setCell ⟨g5, 4, none⟩ (.int .i64 (v (i.toNat * 6 + 4)))).setCell ⟨g5, 5, none⟩ (.int .i64 (v (i.toNat * 6 + 5))))).heap[g5]? = some (.cells #[.int .i64 (v (i.toNat * 6)), .int .i64 (v (i.toNat * 6 + 1)), .int .i64 (v (i.toNat * 6 + 2)), .int .i64 (v (i.toNat * 6 + 3)), .int .i64 (v (i.toNat * 6 + 4)), .int .i64 (v (i.toNat * 6 + 5))] 49 (0, 0))) := ⟨by refine blk_put (cs := #[.int .i64 (v (i.toNat * 6)), .int .i64 (v (i.toNat * 6 + 1)), .int .i64 (v (i.toNat * 6 + 2)), .int .i64 (v (i.toNat * 6 + 3)), .int .i64 (v (i.toNat * 6 + 4)), .int .i64 0]) ?_ 5 _ rfl; refine blk_put (cs := #[.int .i64 (v (i.toNat * 6)), .int .i64 (v (i.toNat * 6 + 1)), .int .i64 (v (i.toNat * 6 + 2)), .int .i64 (v (i.toNat * 6 + 3)), .int .i64 0, .int .i64 0]) ?_ 4 _ rfl; refine blk_put (cs := #[.int .i64 (v (i.toNat * 6)), .int .i64 (v (i.toNat * 6 + 1)), .int .i64 (v (i.toNat * 6 + 2)), .int .i64 0, .int .i64 0, .int .i64 0]) ?_ 3 _ rfl; refine blk_put (cs := #[.int .i64 (v (i.toNat * 6)), .int .i64 (v (i.toNat * 6 + 1)), .int .i64 0, .int .i64 0, .int .i64 0, .int .i64 0]) ?_ 2 _ rfl; refine blk_put (cs := #[.int .i64 (v (i.toNat * 6)), .int .i64 0, .int .i64 0, .int .i64 0, .int .i64 0, .int .i64 0]) ?_ 1 _ rfl; refine blk_put (cs := #[.int .i64 0, .int .i64 0, .int .i64 0, .int .i64 0, .int .i64 0, .int .i64 0]) ?_ 0 _ rfl; exact BK5.out⟩
  have m1_ : Aside0 ((((((((w6.setCell ⟨g5, 0, none⟩ (.int .i64 (v (i.toNat * 6)))).setCell ⟨g5, 1, none⟩ (.int .i64 (v (i.toNat * 6 + 1)))).setCell ⟨g5, 2, none⟩ (.int .i64 (v (i.toNat * 6 + 2)))).setCell ⟨g5, 3, none⟩ (.int .i64 (v (i.toNat * 6 + 3)))).setCell ⟨g5, 4, none⟩ (.int .i64 (v (i.toNat * 6 + 4)))).setCell ⟨g5, 5, none⟩ (.int .i64 (v (i.toNat * 6 + 5))))).heap[g2]? = some (.cells #[.int .i64 0, .int .i64 0, .int .i64 0, .int .i64 0, .int .i64 0, .int .i64 0] 49 (0, 0))) := ⟨by repeat (first | (with_reducible exact BK2.out) | (with_reducible refine blk_far ?_ n25 _))⟩
  have m2_ : Aside0 ((((((((w6.setCell ⟨g5, 0, none⟩ (.int .i64 (v (i.toNat * 6)))).setCell ⟨g5, 1, none⟩ (.int .i64 (v (i.toNat * 6 + 1)))).setCell ⟨g5, 2, none⟩ (.int .i64 (v (i.toNat * 6 + 2)))).setCell ⟨g5, 3, none⟩ (.int .i64 (v (i.toNat * 6 + 3)))).setCell ⟨g5, 4, none⟩ (.int .i64 (v (i.toNat * 6 + 4)))).setCell ⟨g5, 5, none⟩ (.int .i64 (v (i.toNat * 6 + 5))))).heap[g3]? = some (.cells #[.int .i64 (totF v 0 i.toNat), .int .i64 (totF v 1 i.toNat), .int .i64 (totF v 2 i.toNat), .int .i64 (totF v 3 i.toNat), .int .i64 (totF v 4 i.toNat), .int .i64 (totM v i.toNat)] 49 (0, 0))) := ⟨by repeat (first | (with_reducible exact BK3.out) | (with_reducible refine blk_far ?_ n35 _))⟩
  have m3_ : Aside0 (Below w.heap.size w (((((((w6.setCell ⟨g5, 0, none⟩ (.int .i64 (v (i.toNat * 6)))).setCell ⟨g5, 1, none⟩ (.int .i64 (v (i.toNat * 6 + 1)))).setCell ⟨g5, 2, none⟩ (.int .i64 (v (i.toNat * 6 + 2)))).setCell ⟨g5, 3, none⟩ (.int .i64 (v (i.toNat * 6 + 3)))).setCell ⟨g5, 4, none⟩ (.int .i64 (v (i.toNat * 6 + 4)))).setCell ⟨g5, 5, none⟩ (.int .i64 (v (i.toNat * 6 + 5)))))) := ⟨by repeat (first | (with_reducible exact HB.out) | (with_reducible refine below_set ?_ GE5.out))⟩
  clear BK5 BK2 BK3 HB z0 z1 z2 z3 z4 z5 y0 y1 y2 y3 y4 y5 hidx
  have BK5 := m0_; have BK2 := m1_; have BK3 := m2_; have HB := m3_
  clear m0_ m1_ m2_ m3_
  generalize (((((((w6.setCell ⟨g5, 0, none⟩ (.int .i64 (v (i.toNat * 6)))).setCell ⟨g5, 1, none⟩ (.int .i64 (v (i.toNat * 6 + 1)))).setCell ⟨g5, 2, none⟩ (.int .i64 (v (i.toNat * 6 + 2)))).setCell ⟨g5, 3, none⟩ (.int .i64 (v (i.toNat * 6 + 3)))).setCell ⟨g5, 4, none⟩ (.int .i64 (v (i.toNat * 6 + 4)))).setCell ⟨g5, 5, none⟩ (.int .i64 (v (i.toNat * 6 + 5))))) = w7 at BK5 BK2 BK3 HB ⊢
  have s0 : w7.cell? ⟨g5, 0, none⟩ = some (.int .i64 (v (i.toNat * 6))) := (blk_cell BK5.out 0).trans rfl
  have a0 : w7.cell? ⟨g3, 0, none⟩ = some (.int .i64 (totF v 0 i.toNat)) := (blk_cell BK3.out 0).trans rfl
  have f0 := blk_frozen BK3.out 0
  have s1 : w7.cell? ⟨g5, 1, none⟩ = some (.int .i64 (v (i.toNat * 6 + 1))) := (blk_cell BK5.out 1).trans rfl
  have a1 : w7.cell? ⟨g3, 1, none⟩ = some (.int .i64 (totF v 1 i.toNat)) := (blk_cell BK3.out 1).trans rfl
  have f1 := blk_frozen BK3.out 1
  have s2 : w7.cell? ⟨g5, 2, none⟩ = some (.int .i64 (v (i.toNat * 6 + 2))) := (blk_cell BK5.out 2).trans rfl
  have a2 : w7.cell? ⟨g3, 2, none⟩ = some (.int .i64 (totF v 2 i.toNat)) := (blk_cell BK3.out 2).trans rfl
  have f2 := blk_frozen BK3.out 2
  have s3 : w7.cell? ⟨g5, 3, none⟩ = some (.int .i64 (v (i.toNat * 6 + 3))) := (blk_cell BK5.out 3).trans rfl
  have a3 : w7.cell? ⟨g3, 3, none⟩ = some (.int .i64 (totF v 3 i.toNat)) := (blk_cell BK3.out 3).trans rfl
  have f3 := blk_frozen BK3.out 3
  have s4 : w7.cell? ⟨g5, 4, none⟩ = some (.int .i64 (v (i.toNat * 6 + 4))) := (blk_cell BK5.out 4).trans rfl
  have a4 : w7.cell? ⟨g3, 4, none⟩ = some (.int .i64 (totF v 4 i.toNat)) := (blk_cell BK3.out 4).trans rfl
  have f4 := blk_frozen BK3.out 4
  have s5 : w7.cell? ⟨g5, 5, none⟩ = some (.int .i64 (v (i.toNat * 6 + 5))) := (blk_cell BK5.out 5).trans rfl
  have a5 : w7.cell? ⟨g3, 5, none⟩ = some (.int .i64 (totM v i.toNat)) := (blk_cell BK3.out 5).trans rfl
  have f5 := blk_frozen BK3.out 5
  go_wp2
  go_roundg k1
  case measure => omega
  case rel => exact ⟨i + 1, by first | rfl | rw [next], HI1, ⟨by repeat (first | (with_reducible exact BK2.out) | (with_reducible refine blk_far ?_ n23 _))⟩, ⟨by rw [totF_succ v 0 i hi0, totF_succ v 1 i hi0, totF_succ v 2 i hi0, totF_succ v 3 i hi0, totF_succ v 4 i hi0, totM_succ v i hi0]; refine blk_put (cs := #[.int .i64 (wrap64 (totF v 0 i.toNat + (v (i.toNat * 6)))), .int .i64 (wrap64 (totF v 1 i.toNat + (v (i.toNat * 6 + 1)))), .int .i64 (wrap64 (totF v 2 i.toNat + (v (i.toNat * 6 + 2)))), .int .i64 (wrap64 (totF v 3 i.toNat + (v (i.toNat * 6 + 3)))), .int .i64 (wrap64 (totF v 4 i.toNat + (v (i.toNat * 6 + 4)))), .int .i64 (totM v i.toNat)]) ?_ 5 _ rfl; refine blk_put (cs := #[.int .i64 (wrap64 (totF v 0 i.toNat + (v (i.toNat * 6)))), .int .i64 (wrap64 (totF v 1 i.toNat + (v (i.toNat * 6 + 1)))), .int .i64 (wrap64 (totF v 2 i.toNat + (v (i.toNat * 6 + 2)))), .int .i64 (wrap64 (totF v 3 i.toNat + (v (i.toNat * 6 + 3)))), .int .i64 (totF v 4 i.toNat), .int .i64 (totM v i.toNat)]) ?_ 4 _ rfl; refine blk_put (cs := #[.int .i64 (wrap64 (totF v 0 i.toNat + (v (i.toNat * 6)))), .int .i64 (wrap64 (totF v 1 i.toNat + (v (i.toNat * 6 + 1)))), .int .i64 (wrap64 (totF v 2 i.toNat + (v (i.toNat * 6 + 2)))), .int .i64 (totF v 3 i.toNat), .int .i64 (totF v 4 i.toNat), .int .i64 (totM v i.toNat)]) ?_ 3 _ rfl; refine blk_put (cs := #[.int .i64 (wrap64 (totF v 0 i.toNat + (v (i.toNat * 6)))), .int .i64 (wrap64 (totF v 1 i.toNat + (v (i.toNat * 6 + 1)))), .int .i64 (totF v 2 i.toNat), .int .i64 (totF v 3 i.toNat), .int .i64 (totF v 4 i.toNat), .int .i64 (totM v i.toNat)]) ?_ 2 _ rfl; refine blk_put (cs := #[.int .i64 (wrap64 (totF v 0 i.toNat + (v (i.toNat * 6)))), .int .i64 (totF v 1 i.toNat), .int .i64 (totF v 2 i.toNat), .int .i64 (totF v 3 i.toNat), .int .i64 (totF v 4 i.toNat), .int .i64 (totM v i.toNat)]) ?_ 1 _ rfl; refine blk_put (cs := #[.int .i64 (totF v 0 i.toNat), .int .i64 (totF v 1 i.toNat), .int .i64 (totF v 2 i.toNat), .int .i64 (totF v 3 i.toNat), .int .i64 (totF v 4 i.toNat), .int .i64 (totM v i.toNat)]) ?_ 0 _ rfl; exact BK3.out⟩, ⟨by repeat (first | (with_reducible exact HB.out) | (with_reducible refine below_set ?_ GE3.out))⟩⟩
end Go.Proofs.Ytfimgecceneagaa.PAll
