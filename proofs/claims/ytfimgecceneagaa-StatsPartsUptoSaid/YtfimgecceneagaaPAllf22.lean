/- Tasks of the package stats: all rows, after all events and intervals. By hand (the drawn regions' rows by drawn.py). -/
import Derived.Test.YtfimgecceneagaaBook
import Derived.Test.YtfimgecceneagaaPAllf14
import Derived.Deep.MidRow
namespace Go.Proofs.Ytfimgecceneagaa.PAll
open Go.RowKit Go.Proofs.YtfimgecceneagaaW.PrintWords Go.Proofs.YtfimgecceneagaaW.PrintLast Go.Proofs.Ytfimgecceneagaa.Arr Go.Proofs.Ytfimgecceneagaa.Wp
set_option linter.unusedVariables false
set_option linter.unusedSimpArgs false

def tasks.T12 : Bool × List (List Nat × List Nat) := (true, [([], []), ([0], [0]), ([], []), ([2, 1], [1, 2]), ([3], [3]), ([4], [4]), ([], []), ([6], [6]), ([5, 7], [5, 7]), ([], []), ([9, 1, 0, 1, 2, 3, 4, 5, 6, 7, 8], [1, 9]), ([10, 0, 1, 2, 3, 4, 5, 6, 7, 8], [10]), ([11, 8, 0, 1, 2, 3, 4, 5, 6, 7, 8], [8, 11])])
def tasks.B12 : List Nat := [0, 1, 0, 7, 15, 31, 0, 64, 255, 0, 1023, 2047, 4095]
theorem tasks.tab12 : rtab .any (opsOf Try.f22 12) = tasks.T12 := by kernel_rfl
theorem tasks.bits12 : waitsOk tasks.T12.2 tasks.B12 = true := by kernel_rfl
def tasks.T13 : Bool × List (List Nat × List Nat) := (true, [([], []), ([0], [0]), ([], []), ([2, 1], [1, 2]), ([3], [3]), ([4], [4]), ([], []), ([], []), ([6, 7], [6, 7]), ([5, 8], [5, 8]), ([], []), ([10, 1, 0, 1, 2, 3, 4, 5, 6, 7, 8, 9], [1, 10]), ([11, 0, 1, 2, 3, 4, 5, 6, 7, 8, 9], [11]), ([12, 9, 8, 0, 1, 2, 3, 4, 5, 6, 7, 8, 9], [9, 12])])
def tasks.B13 : List Nat := [0, 1, 0, 7, 15, 31, 0, 0, 192, 511, 0, 2047, 4095, 8191]
theorem tasks.tab13 : rtab .any (opsOf Try.f22 13) = tasks.T13 := by kernel_rfl
theorem tasks.bits13 : waitsOk tasks.T13.2 tasks.B13 = true := by kernel_rfl
theorem blk_cells {w : World} {g : Nat} {cs : Array Value} {t : TypeId} (h : w.heap[g]? = some (.cells cs t (0, 0))) {seg : List Value} (hs : seg.length = cs.size) : (w.setCells g 0 seg).heap[g]? = some (.cells seg.toArray t (0, 0)) := by
  obtain ⟨cur', h3, h4, h5⟩ := setCells_row seg 0 w cs h (by omega)
  rw [h3]
  have : cur' = seg.toArray := by
    apply Array.ext'
    rw [h5]; simp [hs]
  rw [this]
theorem below_cells {B g : Nat} {a w : World} (h : Below B a w) (hg : B ≤ g) (vs : List Value) : Below B a (w.setCells g 0 vs) := by
  obtain ⟨s1, s2, s3, s4⟩ := setCells_same g vs 0 w
  exact h.trans ⟨s1, s2, s3, by rw [s4]; exact Nat.le_refl _, fun k hk => setCells_far vs _ k (by omega)⟩
theorem keep_other {W w8 : World} {g p : Nat} {o : Obj} (hfar : ∀ j, j < W.heap.size → j ≠ g → w8.heap[j]? = W.heap[j]?) (h : W.heap[p]? = some o) (hn : p ≠ g) : w8.heap[p]? = some o := (hfar p (blk_lt h) hn).trans h
set_option maxHeartbeats 8000000 in
set_option maxRecDepth 100000 in
theorem stats_Tasks.calls (A0_0 : Option Addr) (c0_0 : Nat) (l0_0 : List (S66)) (A0_1 : Option Addr) (c0_1 : Nat) (l0_1 : List (S69)) (A0_2 : Option Addr) (c0_2 : Nat) (l0_2 : List (S72)) (a0_3 a0_4 a0_5 a0_6 a0_7 a0_8 : Int) (A1 : Option Addr) (c1 : Nat) (l1 : List (S28)) (A2 : Option Addr) (c2 : Nat) (l2 : List (S63)) (w : World)
    (hr0_0 : Kd.C k66 w A0_0 l0_0.length l0_0) (hc0_0 : l0_0.length ≤ c0_0) (hr0_1 : Kd.C k69 w A0_1 l0_1.length l0_1) (hc0_1 : l0_1.length ≤ c0_1) (hr0_2 : Kd.C k72 w A0_2 l0_2.length l0_2) (hc0_2 : l0_2.length ≤ c0_2) (hr1 : Kd.C k28 w A1 l1.length l1) (hc1 : l1.length ≤ c1) (hr2 : Kd.C k63 w A2 l2.length l2) (hc2 : l2.length ≤ c2)
    (hl1 : l1.length ≤ 9223372036854775000) (hl2 : l2.length ≤ 9223372036854775000) :
    Calls Try.prog 22 #[.agg #[.slice A0_0 l0_0.length c0_0, .slice A0_1 l0_1.length c0_1, .slice A0_2 l0_2.length c0_2, .int .i64 a0_3, .int .i64 a0_4, .int .i64 a0_5, .int .i64 a0_6, .int .i64 a0_7, .int .i64 a0_8], .slice A1 l1.length c1, .slice A2 l2.length c2] w fun e w' => e = .returned (.agg (arrN 36 (tasksV l0_0 l0_1 a0_3 a0_6 l1 l2))) ∧ Below w.heap.size w w' := by
  have hu26 := Try.underlying26
  have hu28 := Try.underlying28
  have hu63 := Try.underlying63
  have hu77 := Try.underlying77
  have hu50 := Try.underlying50
  have hu75 := Try.underlying75
  have hu49 := Try.underlying49
  have HR0_0 := Aside0.mk hr0_0
  have HC0_0 := Aside0.mk hc0_0
  have HR0_1 := Aside0.mk hr0_1
  have HC0_1 := Aside0.mk hc0_1
  have HR0_2 := Aside0.mk hr0_2
  have HC0_2 := Aside0.mk hc0_2
  have HR1 := Aside0.mk hr1
  have HC1 := Aside0.mk hc1
  have HR2 := Aside0.mk hr2
  have HC2 := Aside0.mk hc2
  have HL1 := Aside0.mk hl1
  have HL2 := Aside0.mk hl2
  clear hr0_0 hc0_0 hr0_1 hc0_1 hr0_2 hc0_2 hr1 hc1 hr2 hc2 hl1 hl2
  have HB := Aside0.mk (Below.refl w.heap.size w)
  go_enter Try.func22, Try.ntmps22
  go_upto_region 2 with (first | ((with_reducible refine gate_dst (N := 3) rfl ?_); refine box_event ?hg (N := 3) ?hd (cs := #[.slice A0_0 l0_0.length c0_0, .slice A0_1 l0_1.length c0_1, .slice A0_2 l0_2.length c0_2, .int .i64 a0_3, .int .i64 a0_4, .int .i64 a0_5, .int .i64 a0_6, .int .i64 a0_7, .int .i64 a0_8]) (t := 26) ?hr ?_; (case hd => rfl); (case hg => rfl); (case hr => first | (go_simp; done) | (go_simp; rfl)); intro gp hg w2 hbox hb; have n0_ := Aside0.mk (below_step HB.out hb); have n1_ := Aside0.mk hbox; have n2_ := Aside0.mk ((by rw [hg]; exact (below_size HB.out)) : w.heap.size ≤ gp); clear HB; have HB := n0_; have BKp := n1_; have GEp := n2_; clear n0_ n1_ n2_; clear hb hbox hg) | ((with_reducible refine gate_dst (N := 6) rfl ?_); refine box_event ?hg (N := 6) ?hd (cs := #[.int .i64 0, .int .i64 0, .int .i64 0, .int .i64 0, .int .i64 0, .int .i64 0, .int .i64 0, .int .i64 0, .int .i64 0, .int .i64 0, .int .i64 0, .int .i64 0, .int .i64 0, .int .i64 0, .int .i64 0, .int .i64 0, .int .i64 0, .int .i64 0, .int .i64 0, .int .i64 0, .int .i64 0, .int .i64 0, .int .i64 0, .int .i64 0, .int .i64 0, .int .i64 0, .int .i64 0, .int .i64 0, .int .i64 0, .int .i64 0, .int .i64 0, .int .i64 0, .int .i64 0, .int .i64 0, .int .i64 0, .int .i64 0]) (t := 50) ?hr ?_; (case hd => rfl); (case hg => rfl); (case hr => first | (go_simp; done) | (go_simp; rfl)); intro gr hg w3 hbox hb; have n0_ := Aside0.mk (below_step HB.out hb); have n1_ := Aside0.mk hbox; have n2_ := Aside0.mk ((by rw [hg]; exact (below_size HB.out)) : w.heap.size ≤ gr); have n3_ := Aside0.mk (blk_below (g := gp) BKp.out hb); have n4_ : Aside0 (gp < gr) := ⟨by rw [hg]; exact blk_lt BKp.out⟩; clear HB BKp; have HB := n0_; have BKr := n1_; have GEr := n2_; have BKp := n3_; have LTpr := n4_; clear n0_ n1_ n2_ n3_ n4_; clear hb hbox hg) | ((with_reducible refine gate_dst (N := 7) rfl ?_); refine box_event ?hg (N := 7) ?hd (cs := #[.int .i64 0, .int .i64 0, .int .i64 0, .int .i64 0, .int .i64 0, .int .i64 0, .int .i64 0, .int .i64 0, .int .i64 0, .int .i64 0, .int .i64 0, .int .i64 0, .int .i64 0, .int .i64 0, .int .i64 0, .int .i64 0, .int .i64 0, .int .i64 0, .int .i64 0, .int .i64 0, .int .i64 0, .int .i64 0, .int .i64 0, .int .i64 0, .int .i64 0, .int .i64 0, .int .i64 0, .int .i64 0, .int .i64 0, .int .i64 0, .int .i64 0, .int .i64 0, .int .i64 0, .int .i64 0, .int .i64 0, .int .i64 0, .int .i64 0, .int .i64 0, .int .i64 0, .int .i64 0, .int .i64 0, .int .i64 0, .int .i64 0, .int .i64 0, .int .i64 0, .int .i64 0, .int .i64 0, .int .i64 0, .int .i64 0, .int .i64 0, .int .i64 0, .int .i64 0, .int .i64 0, .int .i64 0, .int .i64 0, .int .i64 0, .int .i64 0, .int .i64 0, .int .i64 0, .int .i64 0]) (t := 77) ?hr ?_; (case hd => rfl); (case hg => rfl); (case hr => first | (go_simp; done) | (go_simp; rfl)); intro gb hg w4 hbox hb; have n0_ := Aside0.mk (below_step HB.out hb); have n1_ := Aside0.mk hbox; have n2_ := Aside0.mk ((by rw [hg]; exact (below_size HB.out)) : w.heap.size ≤ gb); have n3_ := Aside0.mk (blk_below (g := gp) BKp.out hb); have n4_ := Aside0.mk (blk_below (g := gr) BKr.out hb); have n5_ : Aside0 (gr < gb) := ⟨by rw [hg]; exact blk_lt BKr.out⟩; clear HB BKp BKr; have HB := n0_; have BKb := n1_; have GEb := n2_; have BKp := n3_; have BKr := n4_; have LTrb := n5_; clear n0_ n1_ n2_ n3_ n4_ n5_; clear hb hbox hg))
  rw [zeros60] at BKb
  go_wp2
  go_loopg [14] (l2.length + 1) (fun kq v14 w' => ∃ (i : Int), v14 = .int .i64 i ∧ Aside0 (0 ≤ i ∧ (kq : Int) + i = l2.length + 1) ∧ Aside0 (w'.heap[gp]? = some (.cells #[.slice A0_0 l0_0.length c0_0, .slice A0_1 l0_1.length c0_1, .slice A0_2 l0_2.length c0_2, .int .i64 a0_3, .int .i64 a0_4, .int .i64 a0_5, .int .i64 a0_6, .int .i64 a0_7, .int .i64 a0_8] 26 (0, 0))) ∧ Aside0 (w'.heap[gr]? = some (.cells #[.int .i64 0, .int .i64 0, .int .i64 0, .int .i64 0, .int .i64 0, .int .i64 0, .int .i64 0, .int .i64 0, .int .i64 0, .int .i64 0, .int .i64 0, .int .i64 0, .int .i64 0, .int .i64 0, .int .i64 0, .int .i64 0, .int .i64 0, .int .i64 0, .int .i64 0, .int .i64 0, .int .i64 0, .int .i64 0, .int .i64 0, .int .i64 0, .int .i64 0, .int .i64 0, .int .i64 0, .int .i64 0, .int .i64 0, .int .i64 0, .int .i64 0, .int .i64 0, .int .i64 0, .int .i64 0, .int .i64 0, .int .i64 0] 50 (0, 0))) ∧ Aside0 (w'.heap[gb]? = some (.cells (arrN 60 (booked l2 i.toNat)) 77 (0, 0))) ∧ Aside0 (Below w.heap.size w w'))
  case atStart => exact ⟨0, rfl, ⟨by omega, by omega⟩, ⟨BKp.out⟩, ⟨BKr.out⟩, ⟨BKb.out⟩, ⟨HB.out⟩⟩
  case round =>
  obtain ⟨i, rfl, HI, BKp, BKr, BKb, HB⟩ := hrel
  have hi0 := HI.out.1
  by_cases c : i < (l2.length : Int)
  case neg =>
    have c0 : decide (i < (l2.length : Int)) = false := decide_eq_false c
    rw [booked_all l2 i c] at BKb
    clear HI hi0 c
    go_wp2
    obtain ⟨v0, hv0⟩ : ∃ v0, Aside0 (v0 = l2.foldl evE zeroB) := ⟨_, ⟨rfl⟩⟩
    rw [← hv0.out] at BKb
    go_loopg [26] (l1.length + 1) (fun kq v26 w' => ∃ (i : Int), v26 = .int .i64 i ∧ Aside0 (0 ≤ i ∧ (kq : Int) + i = l1.length + 1) ∧ Aside0 (w'.heap[gp]? = some (.cells #[.slice A0_0 l0_0.length c0_0, .slice A0_1 l0_1.length c0_1, .slice A0_2 l0_2.length c0_2, .int .i64 a0_3, .int .i64 a0_4, .int .i64 a0_5, .int .i64 a0_6, .int .i64 a0_7, .int .i64 a0_8] 26 (0, 0))) ∧ Aside0 (w'.heap[gr]? = some (.cells #[.int .i64 0, .int .i64 0, .int .i64 0, .int .i64 0, .int .i64 0, .int .i64 0, .int .i64 0, .int .i64 0, .int .i64 0, .int .i64 0, .int .i64 0, .int .i64 0, .int .i64 0, .int .i64 0, .int .i64 0, .int .i64 0, .int .i64 0, .int .i64 0, .int .i64 0, .int .i64 0, .int .i64 0, .int .i64 0, .int .i64 0, .int .i64 0, .int .i64 0, .int .i64 0, .int .i64 0, .int .i64 0, .int .i64 0, .int .i64 0, .int .i64 0, .int .i64 0, .int .i64 0, .int .i64 0, .int .i64 0, .int .i64 0] 50 (0, 0))) ∧ Aside0 (w'.heap[gb]? = some (.cells (arrN 60 (runs l0_0 l0_1 a0_3 a0_6 v0 l1 i.toNat)) 77 (0, 0))) ∧ Aside0 (Below w.heap.size w w'))
    case atStart => exact ⟨0, rfl, ⟨by omega, by omega⟩, ⟨BKp.out⟩, ⟨BKr.out⟩, ⟨BKb.out⟩, ⟨HB.out⟩⟩
    case round =>
    clear BKp BKr BKb HB
    obtain ⟨i, rfl, HI, BKp, BKr, BKb, HB⟩ := hrel
    have hi0 := HI.out.1
    by_cases c : i < (l1.length : Int)
    case neg =>
      have c0 : decide (i < (l1.length : Int)) = false := decide_eq_false c
      rw [runs_all l0_0 l0_1 a0_3 a0_6 v0 l1 i c] at BKb
      clear HI hi0 c
      obtain ⟨v1, hv1⟩ : ∃ v1, Aside0 (v1 = l1.foldl (runI l0_0 l0_1 a0_3 a0_6) v0) := ⟨_, ⟨rfl⟩⟩
      rw [← hv1.out] at BKb
      have hrange : wr.rangeAt gb 0 (arrN 36 v1).toList := fun j u hj => by
        have hj' : (arrN 36 v1)[j]? = some u := by simpa using hj
        have hlt : j < 36 := by
          by_cases hq : j < 36
          · exact hq
          · rw [Array.getElem?_eq_none (by simp [arrN]; omega)] at hj'; cases hj'
        rw [arrN_get 36 v1 j hlt] at hj'
        rw [Nat.zero_add, arrN_cell BKb.out j (by omega)]; exact hj'
      have hthere : wr.there gr 0 (arrN 36 v1).size := fun j hj => by
        have hj' : j < 36 := by simpa [arrN] using hj
        refine ⟨?_, blk_frozen BKr.out _⟩
        rw [Nat.zero_add, blk_cell BKr.out j, zeros36, arrN_get 36 zeroB j hj']; rfl
      have hone : (arrN 36 v1).all (·.oneCell') = true := by
        rw [Array.all_eq_true]; intro q hq; simp only [arrN, Array.getElem_ofFn]; rfl
      have hra := Aside0.mk hrange; have hth := Aside0.mk hthere; have hon := Aside0.mk hone; clear hrange hthere hone
      generalize hcs0 : arrN 36 v1 = cs at hra hth hon
      have hcs := Aside0.mk hcs0
      have hsz : Aside0 (cs.size = 36) := ⟨by rw [← hcs0]; simp [arrN]⟩
      clear hcs0
      go_wp2_with (first | ((with_reducible refine gate_dst (N := 65) rfl ?_); refine wpList_load_mid rfl 50 (.tmp 64) rfl gb 0 ?hx cs.toList _ hra.out Try.underlying50 rfl ?hi ?_; (case hx => rfl); (case hi => rw [Array.length_toList, hsz.out]; kernel_rfl); rw [Array.toArray_toList]) | (refine wpList_store_mid rfl 50 (.tmp 6) (.tmp 65) rfl gr 0 cs ?hx ?hy hth.out ?hi hon.out ?_; (case hx => rfl); (case hy => rfl); (case hi => rw [hsz.out]; kernel_rfl)))
      have hgr : (wr.setCells gr 0 cs.toList).heap[gr]? = some (.cells cs 50 (0, 0)) := by
        have := blk_cells BKr.out (seg := cs.toList) (by rw [Array.length_toList, hsz.out]; rfl)
        rwa [Array.toArray_toList] at this
      refine bodyPost_ret (results_cell_row rfl _ _ gr 50 cs (0, 0) _ rfl hgr Try.underlying50 rfl (by rw [hsz.out]; kernel_rfl)) rfl ?_
      refine ⟨?_, below_cells HB.out GEr.out _⟩
      rw [← hcs.out]
      rw [hv1.out, hv0.out]; rfl
    obtain ⟨ad, e1, hx0, hx1, hx2, hx3, hx4, hx5⟩ := at_T28 HR1.out i hi0 c
    cases e1
    have hw0 := (HB.out.cell (World.block_lt_of_cell? w _ hx0)).trans hx0
    have hw1 := (HB.out.cell (World.block_lt_of_cell? w _ hx1)).trans hx1
    have hw2 := (HB.out.cell (World.block_lt_of_cell? w _ hx2)).trans hx2
    have hw3 := (HB.out.cell (World.block_lt_of_cell? w _ hx3)).trans hx3
    have hw4 := (HB.out.cell (World.block_lt_of_cell? w _ hx4)).trans hx4
    have hw5 := (HB.out.cell (World.block_lt_of_cell? w _ hx5)).trans hx5
    clear hx0 hx1 hx2 hx3 hx4 hx5
    have c0 : decide (i < (l1.length : Int)) = true := decide_eq_true c
    have p0 := eq_true hi0
    have q0 := eq_true c
    cases gk with
    | zero => exact absurd HI.out.2 (by omega)
    | succ k1 =>
    have HI1 : Aside0 (0 ≤ i + 1 ∧ (k1 : Int) + (i + 1) = l1.length + 1) := ⟨by have := HI.out.2; omega⟩
    have next : wrap64 (i + 1) = i + 1 := wrap_id (by omega) (by have := HL1.out; omega)
    by_cases kr : (rd_T28 l1 i).f0 = 1
    case neg =>
      have kb : ((rd_T28 l1 i).f0 == 1) = false := beq_eq_false_iff_ne.mpr kr
      have eb : runs l0_0 l0_1 a0_3 a0_6 v0 l1 (i + 1).toNat = runs l0_0 l0_1 a0_3 a0_6 v0 l1 i.toNat := by rw [runs_succ _ _ _ _ _ l1 i hi0 c]; unfold runI; rw [if_neg (fun h => kr h.1)]
      go_wp2_with (first | ((with_reducible refine gate_dst (N := 11) rfl ?_); refine box_event ?hg (N := 11) ?hd (cs := #[.int .i64 0, .int .i64 0, .int .i64 0, .int .i64 0, .int .i64 0, .int .i64 0]) (t := 28) ?hr ?_; (case hd => rfl); (case hg => rfl); (case hr => first | (go_simp; done) | (go_simp; rfl)); intro ge hg w6 hbox hb; have n0_ := Aside0.mk (below_step HB.out hb); have n1_ := Aside0.mk hbox; have n2_ := Aside0.mk ((by rw [hg]; exact (below_size HB.out)) : w.heap.size ≤ ge); have n3_ := Aside0.mk (blk_below (g := gp) BKp.out hb); have n4_ := Aside0.mk (blk_below (g := gr) BKr.out hb); have n5_ := Aside0.mk (blk_below (g := gb) BKb.out hb); have nbe : gb ≠ ge := (by have := blk_lt BKb.out; omega); have nre : gr ≠ ge := (by have := blk_lt BKr.out; omega); have npe : gp ≠ ge := (by have := blk_lt BKp.out; omega); have neb := nbe.symm; have ner := nre.symm; have nep := npe.symm; clear HB BKp BKr BKb; have HB := n0_; have BKe := n1_; have GEe := n2_; have BKp := n3_; have BKr := n4_; have BKb := n5_; clear n0_ n1_ n2_ n3_ n4_ n5_; clear hb hbox hg; have z0 : w6.cell? ⟨ge, 0, none⟩ = some (.int .i64 0) := (blk_cell BKe.out 0).trans rfl; have z1 : w6.cell? ⟨ge, 1, none⟩ = some (.int .i64 0) := (blk_cell BKe.out 1).trans rfl; have z2 : w6.cell? ⟨ge, 2, none⟩ = some (.int .i64 0) := (blk_cell BKe.out 2).trans rfl; have z3 : w6.cell? ⟨ge, 3, none⟩ = some (.int .i64 0) := (blk_cell BKe.out 3).trans rfl; have z4 : w6.cell? ⟨ge, 4, none⟩ = some (.int .i64 0) := (blk_cell BKe.out 4).trans rfl; have z5 : w6.cell? ⟨ge, 5, none⟩ = some (.int .i64 0) := (blk_cell BKe.out 5).trans rfl; have y4 := blk_frozen BKe.out 4; have y5 := blk_frozen BKe.out 5; have y0 := blk_frozen BKe.out 0; have y1 := blk_frozen BKe.out 1; have y2 := blk_frozen BKe.out 2; have y3 := blk_frozen BKe.out 3))
      go_roundg k1
      case measure => omega
      case rel => exact ⟨i + 1, rfl, HI1, ⟨by repeat (first | (with_reducible exact BKp.out) | (with_reducible refine blk_drewN ?_ _) | (with_reducible refine blk_drew ?_) | (with_reducible refine blk_far ?_ npe _))⟩, ⟨by repeat (first | (with_reducible exact BKr.out) | (with_reducible refine blk_drewN ?_ _) | (with_reducible refine blk_drew ?_) | (with_reducible refine blk_far ?_ nre _))⟩, ⟨by rw [eb]; repeat (first | (with_reducible exact BKb.out) | (with_reducible refine blk_drewN ?_ _) | (with_reducible refine blk_drew ?_) | (with_reducible refine blk_far ?_ nbe _))⟩, ⟨by repeat (first | (with_reducible exact HB.out) | (with_reducible first | apply below_alloc | apply pw_below_drewN | apply below_drew1) | (with_reducible refine below_set ?_ GEe.out))⟩⟩
    have krb : ((rd_T28 l1 i).f0 == 1) = true := beq_iff_eq.mpr kr
    by_cases k : 0 ≤ (rd_T28 l1 i).f4 ∧ (rd_T28 l1 i).f4 < 6
    case neg =>
      have kb : decide (0 ≤ (rd_T28 l1 i).f4 ∧ (rd_T28 l1 i).f4 < 6) = false := decide_eq_false k
      have eb : runs l0_0 l0_1 a0_3 a0_6 v0 l1 (i + 1).toNat = runs l0_0 l0_1 a0_3 a0_6 v0 l1 i.toNat := by rw [runs_succ _ _ _ _ _ l1 i hi0 c]; unfold runI; rw [if_neg (fun h => k h.2)]
      go_wp2_with (first | ((with_reducible refine gate_dst (N := 11) rfl ?_); refine box_event ?hg (N := 11) ?hd (cs := #[.int .i64 0, .int .i64 0, .int .i64 0, .int .i64 0, .int .i64 0, .int .i64 0]) (t := 28) ?hr ?_; (case hd => rfl); (case hg => rfl); (case hr => first | (go_simp; done) | (go_simp; rfl)); intro ge hg w6 hbox hb; have n0_ := Aside0.mk (below_step HB.out hb); have n1_ := Aside0.mk hbox; have n2_ := Aside0.mk ((by rw [hg]; exact (below_size HB.out)) : w.heap.size ≤ ge); have n3_ := Aside0.mk (blk_below (g := gp) BKp.out hb); have n4_ := Aside0.mk (blk_below (g := gr) BKr.out hb); have n5_ := Aside0.mk (blk_below (g := gb) BKb.out hb); have nbe : gb ≠ ge := (by have := blk_lt BKb.out; omega); have nre : gr ≠ ge := (by have := blk_lt BKr.out; omega); have npe : gp ≠ ge := (by have := blk_lt BKp.out; omega); have neb := nbe.symm; have ner := nre.symm; have nep := npe.symm; clear HB BKp BKr BKb; have HB := n0_; have BKe := n1_; have GEe := n2_; have BKp := n3_; have BKr := n4_; have BKb := n5_; clear n0_ n1_ n2_ n3_ n4_ n5_; clear hb hbox hg; have z0 : w6.cell? ⟨ge, 0, none⟩ = some (.int .i64 0) := (blk_cell BKe.out 0).trans rfl; have z1 : w6.cell? ⟨ge, 1, none⟩ = some (.int .i64 0) := (blk_cell BKe.out 1).trans rfl; have z2 : w6.cell? ⟨ge, 2, none⟩ = some (.int .i64 0) := (blk_cell BKe.out 2).trans rfl; have z3 : w6.cell? ⟨ge, 3, none⟩ = some (.int .i64 0) := (blk_cell BKe.out 3).trans rfl; have z4 : w6.cell? ⟨ge, 4, none⟩ = some (.int .i64 0) := (blk_cell BKe.out 4).trans rfl; have z5 : w6.cell? ⟨ge, 5, none⟩ = some (.int .i64 0) := (blk_cell BKe.out 5).trans rfl; have y4 := blk_frozen BKe.out 4; have y5 := blk_frozen BKe.out 5; have y0 := blk_frozen BKe.out 0; have y1 := blk_frozen BKe.out 1; have y2 := blk_frozen BKe.out 2; have y3 := blk_frozen BKe.out 3) | ((with_reducible refine gate_callee (f := 32) rfl ?_); (try (refine gate_guard (by rfl) ?_; dsimp only)); refine goesL_ (some 36) rfl rfl Try.func32 (by kernel_rfl) rfl #[.int .i64 (rd_T28 l1 i).f4] rfl (by (try simp only [List.map_toArray, List.map_cons, List.map_nil]); first | done | rfl | (simp only [List.length_drop, List.length_take]; rfl)) ?_; (with_reducible refine (stats_known.calls (rd_T28 l1 i).f4 _ _ (known_is _)).mono ?_); rintro e w7 ⟨rfl, ⟨nd, rfl⟩⟩; refine ⟨_, rfl, ?_⟩))
      go_roundg k1
      case measure => omega
      case rel => exact ⟨i + 1, rfl, HI1, ⟨by repeat (first | (with_reducible exact BKp.out) | (with_reducible refine blk_drewN ?_ _) | (with_reducible refine blk_drew ?_) | (with_reducible refine blk_far ?_ npe _))⟩, ⟨by repeat (first | (with_reducible exact BKr.out) | (with_reducible refine blk_drewN ?_ _) | (with_reducible refine blk_drew ?_) | (with_reducible refine blk_far ?_ nre _))⟩, ⟨by rw [eb]; repeat (first | (with_reducible exact BKb.out) | (with_reducible refine blk_drewN ?_ _) | (with_reducible refine blk_drew ?_) | (with_reducible refine blk_far ?_ nbe _))⟩, ⟨by repeat (first | (with_reducible exact HB.out) | (with_reducible first | apply below_alloc | apply pw_below_drewN | apply below_drew1) | (with_reducible refine below_set ?_ GEe.out))⟩⟩
    have kb : decide (0 ≤ (rd_T28 l1 i).f4 ∧ (rd_T28 l1 i).f4 < 6) = true := decide_eq_true k
    go_upto_region 12 with (first | ((with_reducible refine gate_dst (N := 11) rfl ?_); refine box_event ?hg (N := 11) ?hd (cs := #[.int .i64 0, .int .i64 0, .int .i64 0, .int .i64 0, .int .i64 0, .int .i64 0]) (t := 28) ?hr ?_; (case hd => rfl); (case hg => rfl); (case hr => first | (go_simp; done) | (go_simp; rfl)); intro ge hg w6 hbox hb; have n0_ := Aside0.mk (below_step HB.out hb); have n1_ := Aside0.mk hbox; have n2_ := Aside0.mk ((by rw [hg]; exact (below_size HB.out)) : w.heap.size ≤ ge); have n3_ := Aside0.mk (blk_below (g := gp) BKp.out hb); have n4_ := Aside0.mk (blk_below (g := gr) BKr.out hb); have n5_ := Aside0.mk (blk_below (g := gb) BKb.out hb); have nbe : gb ≠ ge := (by have := blk_lt BKb.out; omega); have nre : gr ≠ ge := (by have := blk_lt BKr.out; omega); have npe : gp ≠ ge := (by have := blk_lt BKp.out; omega); have neb := nbe.symm; have ner := nre.symm; have nep := npe.symm; clear HB BKp BKr BKb; have HB := n0_; have BKe := n1_; have GEe := n2_; have BKp := n3_; have BKr := n4_; have BKb := n5_; clear n0_ n1_ n2_ n3_ n4_ n5_; clear hb hbox hg; have z0 : w6.cell? ⟨ge, 0, none⟩ = some (.int .i64 0) := (blk_cell BKe.out 0).trans rfl; have z1 : w6.cell? ⟨ge, 1, none⟩ = some (.int .i64 0) := (blk_cell BKe.out 1).trans rfl; have z2 : w6.cell? ⟨ge, 2, none⟩ = some (.int .i64 0) := (blk_cell BKe.out 2).trans rfl; have z3 : w6.cell? ⟨ge, 3, none⟩ = some (.int .i64 0) := (blk_cell BKe.out 3).trans rfl; have z4 : w6.cell? ⟨ge, 4, none⟩ = some (.int .i64 0) := (blk_cell BKe.out 4).trans rfl; have z5 : w6.cell? ⟨ge, 5, none⟩ = some (.int .i64 0) := (blk_cell BKe.out 5).trans rfl; have y4 := blk_frozen BKe.out 4; have y5 := blk_frozen BKe.out 5; have y0 := blk_frozen BKe.out 0; have y1 := blk_frozen BKe.out 1; have y2 := blk_frozen BKe.out 2; have y3 := blk_frozen BKe.out 3) | ((with_reducible refine gate_callee (f := 32) rfl ?_); (try (refine gate_guard (by rfl) ?_; dsimp only)); refine goesL_ (some 36) rfl rfl Try.func32 (by kernel_rfl) rfl #[.int .i64 (rd_T28 l1 i).f4] rfl (by (try simp only [List.map_toArray, List.map_cons, List.map_nil]); first | done | rfl | (simp only [List.length_drop, List.length_take]; rfl)) ?_; (with_reducible refine (stats_known.calls (rd_T28 l1 i).f4 _ _ (known_is _)).mono ?_); rintro e w7 ⟨rfl, ⟨nd, rfl⟩⟩; refine ⟨_, rfl, ?_⟩))
    have n0_ : Aside0 ((((((((w6.setCell ⟨ge, 0, none⟩ (.int .i64 1)).setCell ⟨ge, 1, none⟩ (.int .i64 (rd_T28 l1 i).f1)).setCell ⟨ge, 2, none⟩ (.int .i64 (rd_T28 l1 i).f2)).setCell ⟨ge, 3, none⟩ (.int .i64 (rd_T28 l1 i).f3)).setCell ⟨ge, 4, none⟩ (.int .i64 (rd_T28 l1 i).f4)).setCell ⟨ge, 5, none⟩ (.int .i64 (rd_T28 l1 i).f5)).drewN nd).heap[gb]? = some (.cells (arrN 60 (runs l0_0 l0_1 a0_3 a0_6 v0 l1 i.toNat)) 77 (0, 0))) := ⟨by repeat (first | (with_reducible exact BKb.out) | (with_reducible refine blk_drewN ?_ _) | (with_reducible refine blk_drew ?_) | (with_reducible refine blk_far ?_ nbe _))⟩
    have n1_ : Aside0 ((((((((w6.setCell ⟨ge, 0, none⟩ (.int .i64 1)).setCell ⟨ge, 1, none⟩ (.int .i64 (rd_T28 l1 i).f1)).setCell ⟨ge, 2, none⟩ (.int .i64 (rd_T28 l1 i).f2)).setCell ⟨ge, 3, none⟩ (.int .i64 (rd_T28 l1 i).f3)).setCell ⟨ge, 4, none⟩ (.int .i64 (rd_T28 l1 i).f4)).setCell ⟨ge, 5, none⟩ (.int .i64 (rd_T28 l1 i).f5)).drewN nd).heap[gp]? = some (.cells #[.slice A0_0 l0_0.length c0_0, .slice A0_1 l0_1.length c0_1, .slice A0_2 l0_2.length c0_2, .int .i64 a0_3, .int .i64 a0_4, .int .i64 a0_5, .int .i64 a0_6, .int .i64 a0_7, .int .i64 a0_8] 26 (0, 0))) := ⟨by repeat (first | (with_reducible exact BKp.out) | (with_reducible refine blk_drewN ?_ _) | (with_reducible refine blk_drew ?_) | (with_reducible refine blk_far ?_ npe _))⟩
    have n2_ : Aside0 ((((((((w6.setCell ⟨ge, 0, none⟩ (.int .i64 1)).setCell ⟨ge, 1, none⟩ (.int .i64 (rd_T28 l1 i).f1)).setCell ⟨ge, 2, none⟩ (.int .i64 (rd_T28 l1 i).f2)).setCell ⟨ge, 3, none⟩ (.int .i64 (rd_T28 l1 i).f3)).setCell ⟨ge, 4, none⟩ (.int .i64 (rd_T28 l1 i).f4)).setCell ⟨ge, 5, none⟩ (.int .i64 (rd_T28 l1 i).f5)).drewN nd).heap[gr]? = some (.cells #[.int .i64 0, .int .i64 0, .int .i64 0, .int .i64 0, .int .i64 0, .int .i64 0, .int .i64 0, .int .i64 0, .int .i64 0, .int .i64 0, .int .i64 0, .int .i64 0, .int .i64 0, .int .i64 0, .int .i64 0, .int .i64 0, .int .i64 0, .int .i64 0, .int .i64 0, .int .i64 0, .int .i64 0, .int .i64 0, .int .i64 0, .int .i64 0, .int .i64 0, .int .i64 0, .int .i64 0, .int .i64 0, .int .i64 0, .int .i64 0, .int .i64 0, .int .i64 0, .int .i64 0, .int .i64 0, .int .i64 0, .int .i64 0] 50 (0, 0))) := ⟨by repeat (first | (with_reducible exact BKr.out) | (with_reducible refine blk_drewN ?_ _) | (with_reducible refine blk_drew ?_) | (with_reducible refine blk_far ?_ nre _))⟩
    have n3_ : Aside0 (Below w.heap.size w (((((((w6.setCell ⟨ge, 0, none⟩ (.int .i64 1)).setCell ⟨ge, 1, none⟩ (.int .i64 (rd_T28 l1 i).f1)).setCell ⟨ge, 2, none⟩ (.int .i64 (rd_T28 l1 i).f2)).setCell ⟨ge, 3, none⟩ (.int .i64 (rd_T28 l1 i).f3)).setCell ⟨ge, 4, none⟩ (.int .i64 (rd_T28 l1 i).f4)).setCell ⟨ge, 5, none⟩ (.int .i64 (rd_T28 l1 i).f5)).drewN nd)) := ⟨by repeat (first | (with_reducible exact HB.out) | (with_reducible first | apply below_alloc | apply pw_below_drewN | apply below_drew1) | (with_reducible refine below_set ?_ GEe.out))⟩
    have n4_ : Aside0 ((((((((w6.setCell ⟨ge, 0, none⟩ (.int .i64 1)).setCell ⟨ge, 1, none⟩ (.int .i64 (rd_T28 l1 i).f1)).setCell ⟨ge, 2, none⟩ (.int .i64 (rd_T28 l1 i).f2)).setCell ⟨ge, 3, none⟩ (.int .i64 (rd_T28 l1 i).f3)).setCell ⟨ge, 4, none⟩ (.int .i64 (rd_T28 l1 i).f4)).setCell ⟨ge, 5, none⟩ (.int .i64 (rd_T28 l1 i).f5)).drewN nd).heap[ge]? = some (.cells #[.int .i64 1, .int .i64 (rd_T28 l1 i).f1, .int .i64 (rd_T28 l1 i).f2, .int .i64 (rd_T28 l1 i).f3, .int .i64 (rd_T28 l1 i).f4, .int .i64 (rd_T28 l1 i).f5] 28 (0, 0))) := ⟨by refine blk_drewN ?_ _; refine blk_put (cs := #[.int .i64 1, .int .i64 (rd_T28 l1 i).f1, .int .i64 (rd_T28 l1 i).f2, .int .i64 (rd_T28 l1 i).f3, .int .i64 (rd_T28 l1 i).f4, .int .i64 0]) ?_ 5 _ rfl; refine blk_put (cs := #[.int .i64 1, .int .i64 (rd_T28 l1 i).f1, .int .i64 (rd_T28 l1 i).f2, .int .i64 (rd_T28 l1 i).f3, .int .i64 0, .int .i64 0]) ?_ 4 _ rfl; refine blk_put (cs := #[.int .i64 1, .int .i64 (rd_T28 l1 i).f1, .int .i64 (rd_T28 l1 i).f2, .int .i64 0, .int .i64 0, .int .i64 0]) ?_ 3 _ rfl; refine blk_put (cs := #[.int .i64 1, .int .i64 (rd_T28 l1 i).f1, .int .i64 0, .int .i64 0, .int .i64 0, .int .i64 0]) ?_ 2 _ rfl; refine blk_put (cs := #[.int .i64 1, .int .i64 0, .int .i64 0, .int .i64 0, .int .i64 0, .int .i64 0]) ?_ 1 _ rfl; refine blk_put (cs := #[.int .i64 0, .int .i64 0, .int .i64 0, .int .i64 0, .int .i64 0, .int .i64 0]) ?_ 0 _ rfl; exact BKe.out⟩
    clear BKb BKp BKr HB BKe z0 z1 z2 z3 z4 z5 y0 y1 y2 y3 y4 y5 hw0 hw1 hw2 hw3 hw4 hw5 p0 q0
    have BKb := n0_; have BKp := n1_; have BKr := n2_; have HB := n3_; have BKe := n4_
    clear n0_ n1_ n2_ n3_ n4_
    generalize (((((((w6.setCell ⟨ge, 0, none⟩ (.int .i64 1)).setCell ⟨ge, 1, none⟩ (.int .i64 (rd_T28 l1 i).f1)).setCell ⟨ge, 2, none⟩ (.int .i64 (rd_T28 l1 i).f2)).setCell ⟨ge, 3, none⟩ (.int .i64 (rd_T28 l1 i).f3)).setCell ⟨ge, 4, none⟩ (.int .i64 (rd_T28 l1 i).f4)).setCell ⟨ge, 5, none⟩ (.int .i64 (rd_T28 l1 i).f5)).drewN nd) = w9 at BKb BKp BKr HB BKe ⊢
    obtain ⟨V, hV⟩ : ∃ V, Aside0 (V = runs l0_0 l0_1 a0_3 a0_6 v0 l1 i.toNat) := ⟨_, ⟨rfl⟩⟩
    rw [← hV.out] at BKb
    have hk := Aside0.mk k
    have k0 := eq_true k.1
    have k1' := eq_true k.2
    have hkr := Aside0.mk kr
    clear k kr krb kb
    have r0 : w9.cell? ⟨gb, (rd_T28 l1 i).f4.toNat * 6 + 3, none⟩ = some (.int .i64 (V ((rd_T28 l1 i).f4.toNat * 6 + 3))) := arrN_cell BKb.out _ (by have := hk.out; omega)
    have f0 := blk_frozen BKb.out ((rd_T28 l1 i).f4.toNat * 6 + 3)
    refine start_ (n := 13) (S := fun w' => w'.cell? ⟨ge, 4, none⟩ = some (.int .i64 (rd_T28 l1 i).f4) ∧ w'.cell? ⟨ge, 5, none⟩ = some (.int .i64 (rd_T28 l1 i).f5) ∧ w'.cell? ⟨gb, (rd_T28 l1 i).f4.toNat * 6 + 3, none⟩ = some (.int .i64 (V ((rd_T28 l1 i).f4.toNat * 6 + 3)))) (ds := [12]) #[false, false, false, false, false, false, false, false, false, false, false, false, false] (by kernel_rfl) rfl rfl ⟨(blk_cell (blk_drew BKe.out) 4).trans rfl, (blk_cell (blk_drew BKe.out) 5).trans rfl, arrN_cell (blk_drew BKb.out) _ (by have := hk.out; omega)⟩ (fun hHeld => ?_); refine with_tabW tasks.tab12 tasks.bits12 (fun HT_ HW_ => ?_)
    refine pure_ (i := 0) (N := some 38) (v := ?_) (a' := ?_) #[true, false, false, false, false, false, false, false, false, false, false, false, false] rfl rfl (any_of HT_.out (by kernel_rfl)) (fun _ _ _ h => h) (Or.inl ⟨by rfl, ?_⟩) ?_ ?_; rotate_left; (· (intro w'; go_simp; with_reducible rfl)); rotate_left; (· (simp only [Act.put, List.setIfInBounds_toArray, List.set_cons_zero, List.set_cons_succ, i64_w, i32_w]; rfl))
    refine pure_ (i := 2) (N := some 40) (v := ?_) (a' := ?_) #[true, false, true, false, false, false, false, false, false, false, false, false, false] rfl rfl (any_of HT_.out (by kernel_rfl)) (fun _ _ _ h => h) (Or.inl ⟨by rfl, ?_⟩) ?_ ?_; rotate_left; (· (intro w'; go_simp; with_reducible rfl)); rotate_left; (· (simp only [Act.put, List.setIfInBounds_toArray, List.set_cons_zero, List.set_cons_succ, i64_w, i32_w]; rfl))
    refine pure_ (i := 6) (N := some 44) (v := ?_) (a' := ?_) #[true, false, true, false, false, false, true, false, false, false, false, false, false] rfl rfl (any_of HT_.out (by kernel_rfl)) (fun _ _ _ h => h) (Or.inl ⟨by rfl, ?_⟩) ?_ ?_; rotate_left; (· (intro w'; go_simp; with_reducible rfl)); rotate_left; (· (simp only [Act.put, List.setIfInBounds_toArray, List.set_cons_zero, List.set_cons_succ, i64_w, i32_w]; rfl))
    refine pure_ (i := 9) (N := some 47) (v := ?_) (a' := ?_) #[true, false, true, false, false, false, true, false, false, true, false, false, false] rfl rfl (any_of HT_.out (by kernel_rfl)) (fun _ _ _ h => h) (Or.inl ⟨by rfl, ?_⟩) ?_ ?_; rotate_left; (· (intro w'; go_simp; with_reducible rfl)); rotate_left; (· (simp only [Act.put, List.setIfInBounds_toArray, List.set_cons_zero, List.set_cons_succ, i64_w, i32_w]; rfl))
    refine take_ (i := 1) (N := some 39) (v := ?_) (a' := ?_) #[true, true, true, false, false, false, true, false, false, true, false, false, false] rfl rfl (take_ofW HT_.out HW_.out (by kernel_rfl)) (fun _ _ _ h => h) (Or.inl ⟨by rfl, ?_⟩) hHeld ?_ ?_; rotate_left; (· (rintro w' ⟨s0, s1, s2⟩; go_simp; with_reducible rfl)); rotate_left; (· (simp only [Act.put, List.setIfInBounds_toArray, List.set_cons_zero, List.set_cons_succ, i64_w, i32_w]; rfl))
    refine pure_ (i := 3) (N := some 41) (v := ?_) (a' := ?_) #[true, true, true, true, false, false, true, false, false, true, false, false, false] rfl rfl (any_of HT_.out (by kernel_rfl)) (fun _ _ _ h => h) (Or.inl ⟨by rfl, ?_⟩) ?_ ?_; rotate_left; (· (intro w'; go_simp; with_reducible rfl)); rotate_left; (· (simp only [Act.put, List.setIfInBounds_toArray, List.set_cons_zero, List.set_cons_succ, i64_w, i32_w]; rfl))
    refine pure_ (i := 4) (N := some 42) (v := ?_) (a' := ?_) #[true, true, true, true, true, false, true, false, false, true, false, false, false] rfl rfl (any_of HT_.out (by kernel_rfl)) (fun _ _ _ h => h) (Or.inl ⟨by rfl, ?_⟩) ?_ ?_; rotate_left; (· (intro w'; go_simp; with_reducible rfl)); rotate_left; (· (simp only [Act.put, List.setIfInBounds_toArray, List.set_cons_zero, List.set_cons_succ, i64_w, i32_w]; rfl))
    refine take_ (i := 5) (N := some 43) (v := ?_) (a' := ?_) #[true, true, true, true, true, true, true, false, false, true, false, false, false] rfl rfl (take_ofW HT_.out HW_.out (by kernel_rfl)) (fun _ _ _ h => h) (Or.inl ⟨by rfl, ?_⟩) hHeld ?_ ?_; rotate_left; (· (rintro w' ⟨s0, s1, s2⟩; go_simp; with_reducible rfl)); rotate_left; (· (simp only [Act.put, List.setIfInBounds_toArray, List.set_cons_zero, List.set_cons_succ, i64_w, i32_w]; rfl))
    refine take_ (i := 7) (N := some 45) (v := ?_) (a' := ?_) #[true, true, true, true, true, true, true, true, false, true, false, false, false] rfl rfl (take_ofW HT_.out HW_.out (by kernel_rfl)) (fun _ _ _ h => h) (Or.inl ⟨by rfl, ?_⟩) hHeld ?_ ?_; rotate_left; (· (rintro w' ⟨s0, s1, s2⟩; go_simp; with_reducible rfl)); rotate_left; (· (simp only [Act.put, List.setIfInBounds_toArray, List.set_cons_zero, List.set_cons_succ, i64_w, i32_w]; rfl))
    refine pure_ (i := 8) (N := some 46) (v := ?_) (a' := ?_) #[true, true, true, true, true, true, true, true, true, true, false, false, false] rfl rfl (any_of HT_.out (by kernel_rfl)) (fun _ _ _ h => h) (Or.inl ⟨by rfl, ?_⟩) ?_ ?_; rotate_left; (· (intro w'; go_simp; with_reducible rfl)); rotate_left; (· (simp only [Act.put, List.setIfInBounds_toArray, List.set_cons_zero, List.set_cons_succ, i64_w, i32_w]; rfl))
    refine pure_ (i := 10) (N := some 48) (v := ?_) (a' := ?_) #[true, true, true, true, true, true, true, true, true, true, true, false, false] rfl rfl (any_of HT_.out (by kernel_rfl)) (fun _ _ _ h => h) (Or.inl ⟨by rfl, ?_⟩) ?_ ?_; rotate_left; (· (intro w'; go_simp; with_reducible rfl)); rotate_left; (· (simp only [Act.put, List.setIfInBounds_toArray, List.set_cons_zero, List.set_cons_succ, i64_w, i32_w]; rfl))
    refine pure_ (i := 11) (N := some 49) (v := ?_) (a' := ?_) #[true, true, true, true, true, true, true, true, true, true, true, true, false] rfl rfl (any_of HT_.out (by kernel_rfl)) (fun _ _ _ h => h) (Or.inl ⟨by rfl, ?_⟩) ?_ ?_; rotate_left; (· (intro w'; go_simp; with_reducible rfl)); rotate_left; (· (simp only [Act.put, List.setIfInBounds_toArray, List.set_cons_zero, List.set_cons_succ, i64_w, i32_w]; rfl))
    -- ONE 12
    refine last_ (i := 12) (N := none) #[true, true, true, true, true, true, true, true, true, true, true, true, true] rfl rfl (one_of HT_.out (by kernel_rfl)) (by decide) (fun K hK => ?_)
    refine skip_ (w1 := ?_) (by rfl) rfl ?_ ?_
    rotate_left
    · go_simp
      rfl
    refine hK.out _ _ ?_
    clear hK K
    refine done_ (done_of HT_.out (by kernel_rfl)) ?_
    obtain ⟨V1, hV1⟩ : ∃ V1, Aside0 (V1 = runC V (rd_T28 l1 i)) := ⟨_, ⟨rfl⟩⟩
    have n0_ : Aside0 ((w9.setCell ⟨gb, (rd_T28 l1 i).f4.toNat * 6 + 3, none⟩ (.int .i64 (wrap64 (V ((rd_T28 l1 i).f4.toNat * 6 + 3) + (rd_T28 l1 i).f5)))).drew.heap[gb]? = some (.cells (arrN 60 V1) 77 (0, 0))) := ⟨by rw [hV1.out]; exact blk_drew (arrN_put BKb.out _ _)⟩
    have npb : gp ≠ gb := by have := LTpr.out; have := LTrb.out; omega
    have nrb : gr ≠ gb := by have := LTrb.out; omega
    have n1_ := Aside0.mk (blk_drew (blk_far BKp.out (p := ⟨gb, (rd_T28 l1 i).f4.toNat * 6 + 3, none⟩) npb (.int .i64 (wrap64 (V ((rd_T28 l1 i).f4.toNat * 6 + 3) + (rd_T28 l1 i).f5)))))
    have n2_ := Aside0.mk (blk_drew (blk_far BKr.out (p := ⟨gb, (rd_T28 l1 i).f4.toNat * 6 + 3, none⟩) nrb (.int .i64 (wrap64 (V ((rd_T28 l1 i).f4.toNat * 6 + 3) + (rd_T28 l1 i).f5)))))
    have n3_ := Aside0.mk (blk_drew (blk_far BKe.out (p := ⟨gb, (rd_T28 l1 i).f4.toNat * 6 + 3, none⟩) neb (.int .i64 (wrap64 (V ((rd_T28 l1 i).f4.toNat * 6 + 3) + (rd_T28 l1 i).f5)))))
    have n4_ := Aside0.mk ((HB.out.setCell (p := ⟨gb, (rd_T28 l1 i).f4.toNat * 6 + 3, none⟩) GEb.out (.int .i64 (wrap64 (V ((rd_T28 l1 i).f4.toNat * 6 + 3) + (rd_T28 l1 i).f5)))).drew)
    clear BKb BKp BKr BKe HB r0 f0 hHeld HT_ HW_
    have BKb := n0_; have BKp := n1_; have BKr := n2_; have BKe := n3_; have HB := n4_
    clear n0_ n1_ n2_ n3_ n4_
    generalize (w9.setCell ⟨gb, (rd_T28 l1 i).f4.toNat * 6 + 3, none⟩ (.int .i64 (wrap64 (V ((rd_T28 l1 i).f4.toNat * 6 + 3) + (rd_T28 l1 i).f5)))).drew = w10 at BKb BKp BKr BKe HB ⊢
    try go_wp2
    refine start_ (n := 14) (S := fun w' => w'.cell? ⟨ge, 0, none⟩ = some (.int .i64 1) ∧ w'.cell? ⟨ge, 1, none⟩ = some (.int .i64 (rd_T28 l1 i).f1) ∧ w'.cell? ⟨ge, 2, none⟩ = some (.int .i64 (rd_T28 l1 i).f2) ∧ w'.cell? ⟨ge, 3, none⟩ = some (.int .i64 (rd_T28 l1 i).f3) ∧ w'.cell? ⟨ge, 4, none⟩ = some (.int .i64 (rd_T28 l1 i).f4) ∧ w'.cell? ⟨ge, 5, none⟩ = some (.int .i64 (rd_T28 l1 i).f5) ∧ w'.cell? ⟨gb, (rd_T28 l1 i).f4.toNat * 6 + 4, none⟩ = some (.int .i64 (V1 ((rd_T28 l1 i).f4.toNat * 6 + 4))) ∧ w'.cell? ⟨gp, 0, none⟩ = some (.slice A0_0 l0_0.length c0_0) ∧ w'.cell? ⟨gp, 1, none⟩ = some (.slice A0_1 l0_1.length c0_1) ∧ w'.cell? ⟨gp, 2, none⟩ = some (.slice A0_2 l0_2.length c0_2) ∧ w'.cell? ⟨gp, 3, none⟩ = some (.int .i64 a0_3) ∧ w'.cell? ⟨gp, 4, none⟩ = some (.int .i64 a0_4) ∧ w'.cell? ⟨gp, 5, none⟩ = some (.int .i64 a0_5) ∧ w'.cell? ⟨gp, 6, none⟩ = some (.int .i64 a0_6) ∧ w'.cell? ⟨gp, 7, none⟩ = some (.int .i64 a0_7) ∧ w'.cell? ⟨gp, 8, none⟩ = some (.int .i64 a0_8)) (ds := [13]) #[false, false, false, false, false, false, false, false, false, false, false, false, false, false] (by kernel_rfl) rfl rfl ⟨(blk_cell (blk_drew BKe.out) 0).trans rfl, (blk_cell (blk_drew BKe.out) 1).trans rfl, (blk_cell (blk_drew BKe.out) 2).trans rfl, (blk_cell (blk_drew BKe.out) 3).trans rfl, (blk_cell (blk_drew BKe.out) 4).trans rfl, (blk_cell (blk_drew BKe.out) 5).trans rfl, arrN_cell (blk_drew BKb.out) _ (by have := hk.out; omega), (blk_cell (blk_drew BKp.out) 0).trans rfl, (blk_cell (blk_drew BKp.out) 1).trans rfl, (blk_cell (blk_drew BKp.out) 2).trans rfl, (blk_cell (blk_drew BKp.out) 3).trans rfl, (blk_cell (blk_drew BKp.out) 4).trans rfl, (blk_cell (blk_drew BKp.out) 5).trans rfl, (blk_cell (blk_drew BKp.out) 6).trans rfl, (blk_cell (blk_drew BKp.out) 7).trans rfl, (blk_cell (blk_drew BKp.out) 8).trans rfl⟩ (fun hHeld => ?_); refine with_tabW tasks.tab13 tasks.bits13 (fun HT_ HW_ => ?_)
    have n0_ := Aside0.mk (blk_drew BKb.out); have n1_ := Aside0.mk (blk_drew BKp.out); have n2_ := Aside0.mk (blk_drew BKr.out); have n3_ := Aside0.mk (blk_drew BKe.out); have n4_ := Aside0.mk (HB.out.drew); clear BKb BKp BKr BKe HB; have BKb := n0_; have BKp := n1_; have BKr := n2_; have BKe := n3_; have HB := n4_; clear n0_ n1_ n2_ n3_ n4_; generalize w10.drew = w11 at BKb BKp BKr BKe HB hHeld ⊢
    refine pure_ (i := 0) (N := some 50) (v := ?_) (a' := ?_) #[true, false, false, false, false, false, false, false, false, false, false, false, false, false] rfl rfl (any_of HT_.out (by kernel_rfl)) (fun _ _ _ h => h) (Or.inl ⟨by rfl, ?_⟩) ?_ ?_; rotate_left; (· (intro w'; go_simp; with_reducible rfl)); rotate_left; (· (simp only [Act.put, List.setIfInBounds_toArray, List.set_cons_zero, List.set_cons_succ, i64_w, i32_w]; rfl))
    refine pure_ (i := 2) (N := some 52) (v := ?_) (a' := ?_) #[true, false, true, false, false, false, false, false, false, false, false, false, false, false] rfl rfl (any_of HT_.out (by kernel_rfl)) (fun _ _ _ h => h) (Or.inl ⟨by rfl, ?_⟩) ?_ ?_; rotate_left; (· (intro w'; go_simp; with_reducible rfl)); rotate_left; (· (simp only [Act.put, List.setIfInBounds_toArray, List.set_cons_zero, List.set_cons_succ, i64_w, i32_w]; rfl))
    refine pure_ (i := 10) (N := some 60) (v := ?_) (a' := ?_) #[true, false, true, false, false, false, false, false, false, false, true, false, false, false] rfl rfl (any_of HT_.out (by kernel_rfl)) (fun _ _ _ h => h) (Or.inl ⟨by rfl, ?_⟩) ?_ ?_; rotate_left; (· (intro w'; go_simp; with_reducible rfl)); rotate_left; (· (simp only [Act.put, List.setIfInBounds_toArray, List.set_cons_zero, List.set_cons_succ, i64_w, i32_w]; rfl))
    refine take_ (i := 1) (N := some 51) (v := ?_) (a' := ?_) #[true, true, true, false, false, false, false, false, false, false, true, false, false, false] rfl rfl (take_ofW HT_.out HW_.out (by kernel_rfl)) (fun _ _ _ h => h) (Or.inl ⟨by rfl, ?_⟩) hHeld ?_ ?_; rotate_left; (· (rintro w' ⟨s0, s1, s2, s3, s4, s5, s6, s7, s8, s9, s10, s11, s12, s13, s14, s15⟩; go_simp; with_reducible rfl)); rotate_left; (· (simp only [Act.put, List.setIfInBounds_toArray, List.set_cons_zero, List.set_cons_succ, i64_w, i32_w]; rfl))
    refine pure_ (i := 3) (N := some 53) (v := ?_) (a' := ?_) #[true, true, true, true, false, false, false, false, false, false, true, false, false, false] rfl rfl (any_of HT_.out (by kernel_rfl)) (fun _ _ _ h => h) (Or.inl ⟨by rfl, ?_⟩) ?_ ?_; rotate_left; (· (intro w'; go_simp; with_reducible rfl)); rotate_left; (· (simp only [Act.put, List.setIfInBounds_toArray, List.set_cons_zero, List.set_cons_succ, i64_w, i32_w]; rfl))
    refine pure_ (i := 4) (N := some 54) (v := ?_) (a' := ?_) #[true, true, true, true, true, false, false, false, false, false, true, false, false, false] rfl rfl (any_of HT_.out (by kernel_rfl)) (fun _ _ _ h => h) (Or.inl ⟨by rfl, ?_⟩) ?_ ?_; rotate_left; (· (intro w'; go_simp; with_reducible rfl)); rotate_left; (· (simp only [Act.put, List.setIfInBounds_toArray, List.set_cons_zero, List.set_cons_succ, i64_w, i32_w]; rfl))
    refine take_ (i := 5) (N := some 55) (v := ?_) (a' := ?_) #[true, true, true, true, true, true, false, false, false, false, true, false, false, false] rfl rfl (take_ofW HT_.out HW_.out (by kernel_rfl)) (fun _ _ _ h => h) (Or.inl ⟨by rfl, ?_⟩) hHeld ?_ ?_; rotate_left; (· (rintro w' ⟨s0, s1, s2, s3, s4, s5, s6, s7, s8, s9, s10, s11, s12, s13, s14, s15⟩; go_simp; with_reducible rfl)); rotate_left; (· (simp only [Act.put, List.setIfInBounds_toArray, List.set_cons_zero, List.set_cons_succ, i64_w, i32_w]; rfl))
    refine take_ (i := 6) (N := some 56) (v := ?_) (a' := ?_) #[true, true, true, true, true, true, true, false, false, false, true, false, false, false] rfl rfl (take_ofW HT_.out HW_.out (by kernel_rfl)) (fun _ _ _ h => h) (Or.inl ⟨by rfl, ?_⟩) hHeld ?_ ?_; rotate_left; (· (rintro w' ⟨s0, s1, s2, s3, s4, s5, s6, s7, s8, s9, s10, s11, s12, s13, s14, s15⟩; go_simp; with_reducible rfl)); rotate_left; (· (simp only [Act.put, List.setIfInBounds_toArray, List.set_cons_zero, List.set_cons_succ, i64_w, i32_w]; rfl))
    refine take_ (i := 7) (N := some 57) (v := ?_) (a' := ?_) #[true, true, true, true, true, true, true, true, false, false, true, false, false, false] rfl rfl (take_ofW HT_.out HW_.out (by kernel_rfl)) (fun _ _ _ h => h) (Or.inl ⟨by rfl, ?_⟩) hHeld ?_ ?_; rotate_left; (· (rintro w' ⟨s0, s1, s2, s3, s4, s5, s6, s7, s8, s9, s10, s11, s12, s13, s14, s15⟩; go_simp; with_reducible rfl)); rotate_left; (· (simp only [Act.put, List.setIfInBounds_toArray, List.set_cons_zero, List.set_cons_succ, i64_w, i32_w]; rfl))
    -- ONE 8
    refine one_ (i := 8) (N := some 58) #[true, true, true, true, true, true, true, true, true, false, true, false, false, false] rfl rfl (one_of HT_.out (by kernel_rfl)) (by decide) (fun K hK => ?_)
    refine goes_ Try.func14 (by kernel_rfl) rfl #[.agg #[.slice A0_0 l0_0.length c0_0, .slice A0_1 l0_1.length c0_1, .slice A0_2 l0_2.length c0_2, .int .i64 a0_3, .int .i64 a0_4, .int .i64 a0_5, .int .i64 a0_6, .int .i64 a0_7, .int .i64 a0_8], .agg #[.int .i64 1, .int .i64 (rd_T28 l1 i).f1, .int .i64 (rd_T28 l1 i).f2, .int .i64 (rd_T28 l1 i).f3, .int .i64 (rd_T28 l1 i).f4, .int .i64 (rd_T28 l1 i).f5]] (by rfl) rfl rfl (by (try simp only [List.map_toArray, List.map_cons, List.map_nil]); first | done | rfl | (simp only [List.length_drop, List.length_take]; rfl)) ?_
    with_reducible refine (meter_Of.calls _ _ l0_0 _ _ l0_1 _ _ l0_2 a0_3 a0_4 a0_5 a0_6 a0_7 a0_8 1 (rd_T28 l1 i).f1 (rd_T28 l1 i).f2 (rd_T28 l1 i).f3 (rd_T28 l1 i).f4 (rd_T28 l1 i).f5 _ _ ?side1 ?side2 ?side3 ?side4 ?side5 ?side6 (of_is l0_0 l0_1 l0_2 a0_3 a0_4 a0_5 a0_6 a0_7 a0_8 1 (rd_T28 l1 i).f1 (rd_T28 l1 i).f2 (rd_T28 l1 i).f3 (rd_T28 l1 i).f4 (rd_T28 l1 i).f5)).mono ?_
    (case side1 => exact (Kd.C_below HR0_0.out HB.out))
    (case side2 => exact HC0_0.out)
    (case side3 => exact (Kd.C_below HR0_1.out HB.out))
    (case side4 => exact HC0_1.out)
    (case side5 => exact (Kd.C_below HR0_2.out HB.out))
    (case side6 => exact HC0_2.out)
    rintro e w12 ⟨rfl, hb⟩
    refine ⟨_, rfl, ?_⟩
    have n0_ := Aside0.mk (blk_below BKb.out hb); have n1_ := Aside0.mk (blk_below BKp.out hb); have n2_ := Aside0.mk (blk_below BKr.out hb); have n3_ := Aside0.mk (blk_below BKe.out hb); have n4_ := Aside0.mk (below_step HB.out hb); clear BKb BKp BKr BKe HB hb; have BKb := n0_; have BKp := n1_; have BKr := n2_; have BKe := n3_; have HB := n4_; clear n0_ n1_ n2_ n3_ n4_
    refine hK.out _ _ ⟨(blk_cell BKe.out 0).trans rfl, (blk_cell BKe.out 1).trans rfl, (blk_cell BKe.out 2).trans rfl, (blk_cell BKe.out 3).trans rfl, (blk_cell BKe.out 4).trans rfl, (blk_cell BKe.out 5).trans rfl, arrN_cell BKb.out _ (by have := hk.out; omega), (blk_cell BKp.out 0).trans rfl, (blk_cell BKp.out 1).trans rfl, (blk_cell BKp.out 2).trans rfl, (blk_cell BKp.out 3).trans rfl, (blk_cell BKp.out 4).trans rfl, (blk_cell BKp.out 5).trans rfl, (blk_cell BKp.out 6).trans rfl, (blk_cell BKp.out 7).trans rfl, (blk_cell BKp.out 8).trans rfl⟩ (fun hHeld => ?_)
    clear hK K
    refine norm_ (a' := ?_) ?_ ?_
    rotate_left
    · show Act.put _ (some 58) _ = _
      simp only [Act.put, List.setIfInBounds_toArray, List.set_cons_zero, List.set_cons_succ, i64_w, i32_w]
      rfl
    refine pure_ (i := 9) (N := some 59) (v := ?_) (a' := ?_) #[true, true, true, true, true, true, true, true, true, true, true, false, false, false] rfl rfl (any_of HT_.out (by kernel_rfl)) (fun _ _ _ h => h) (Or.inl ⟨by rfl, ?_⟩) ?_ ?_; rotate_left; (· (intro w'; go_simp; with_reducible rfl)); rotate_left; (· (simp only [Act.put, List.setIfInBounds_toArray, List.set_cons_zero, List.set_cons_succ, i64_w, i32_w]; rfl))
    refine pure_ (i := 11) (N := some 61) (v := ?_) (a' := ?_) #[true, true, true, true, true, true, true, true, true, true, true, true, false, false] rfl rfl (any_of HT_.out (by kernel_rfl)) (fun _ _ _ h => h) (Or.inl ⟨by rfl, ?_⟩) ?_ ?_; rotate_left; (· (intro w'; go_simp; with_reducible rfl)); rotate_left; (· (simp only [Act.put, List.setIfInBounds_toArray, List.set_cons_zero, List.set_cons_succ, i64_w, i32_w]; rfl))
    refine pure_ (i := 12) (N := some 62) (v := ?_) (a' := ?_) #[true, true, true, true, true, true, true, true, true, true, true, true, true, false] rfl rfl (any_of HT_.out (by kernel_rfl)) (fun _ _ _ h => h) (Or.inl ⟨by rfl, ?_⟩) ?_ ?_; rotate_left; (· (intro w'; go_simp; with_reducible rfl)); rotate_left; (· (simp only [Act.put, List.setIfInBounds_toArray, List.set_cons_zero, List.set_cons_succ, i64_w, i32_w]; rfl))
    -- ONE 13
    have r0 : w12.cell? ⟨gb, (rd_T28 l1 i).f4.toNat * 6 + 4, none⟩ = some (.int .i64 (V1 ((rd_T28 l1 i).f4.toNat * 6 + 4))) := arrN_cell BKb.out _ (by have := hk.out; omega)
    have f0 := blk_frozen BKb.out ((rd_T28 l1 i).f4.toNat * 6 + 4)
    refine last_ (i := 13) (N := none) #[true, true, true, true, true, true, true, true, true, true, true, true, true, true] rfl rfl (one_of HT_.out (by kernel_rfl)) (by decide) (fun K hK => ?_)
    refine skip_ (w1 := ?_) (by rfl) rfl ?_ ?_
    rotate_left
    · go_simp
      rfl
    refine hK.out _ _ ?_
    clear hK K
    refine done_ (done_of HT_.out (by kernel_rfl)) ?_
    have eb : runs l0_0 l0_1 a0_3 a0_6 v0 l1 (i + 1).toNat = upd V1 ((rd_T28 l1 i).f4.toNat * 6 + 4) (wrap64 (V1 ((rd_T28 l1 i).f4.toNat * 6 + 4) + ofW l0_0 l0_1 a0_3 a0_6 1 (rd_T28 l1 i).f2 (rd_T28 l1 i).f3 (rd_T28 l1 i).f5)) := by
      rw [runs_succ _ _ _ _ _ l1 i hi0 c]; unfold runI; rw [if_pos ⟨hkr.out, hk.out.1, hk.out.2⟩, ← hV.out, ← hV1.out, hkr.out]
    try go_wp2
    go_roundg k1
    case measure => omega
    case rel => exact ⟨i + 1, by first | rfl | rw [next], HI1, ⟨by with_reducible refine blk_far ?_ npb _; exact BKp.out⟩, ⟨by with_reducible refine blk_far ?_ nrb _; exact BKr.out⟩, ⟨by rw [eb]; exact arrN_put BKb.out _ _⟩, ⟨HB.out.setCell (p := ⟨gb, (rd_T28 l1 i).f4.toNat * 6 + 4, none⟩) GEb.out _⟩⟩
  obtain ⟨ad, e1, hx0, hx1, hx2, hx3⟩ := at_T63 HR2.out i hi0 c
  cases e1
  have hw0 := (HB.out.cell (World.block_lt_of_cell? w _ hx0)).trans hx0
  have hw1 := (HB.out.cell (World.block_lt_of_cell? w _ hx1)).trans hx1
  have hw2 := (HB.out.cell (World.block_lt_of_cell? w _ hx2)).trans hx2
  have hw3 := (HB.out.cell (World.block_lt_of_cell? w _ hx3)).trans hx3
  clear hx0 hx1 hx2 hx3
  have c0 : decide (i < (l2.length : Int)) = true := decide_eq_true c
  have p0 := eq_true hi0
  have q0 := eq_true c
  cases gk with
  | zero => exact absurd HI.out.2 (by omega)
  | succ k1 =>
  have HI1 : Aside0 (0 ≤ i + 1 ∧ (k1 : Int) + (i + 1) = l2.length + 1) := ⟨by have := HI.out.2; omega⟩
  have next : wrap64 (i + 1) = i + 1 := wrap_id (by omega) (by have := HL2.out; omega)
  by_cases k : 0 ≤ (rd_T63 l2 i).f1 ∧ (rd_T63 l2 i).f1 < 6
  case neg =>
    have kb : decide (0 ≤ (rd_T63 l2 i).f1 ∧ (rd_T63 l2 i).f1 < 6) = false := decide_eq_false k
    have eb : booked l2 (i + 1).toNat = booked l2 i.toNat := by rw [booked_succ l2 i hi0 c]; unfold evE; rw [if_neg k]
    go_wp2_with (first | ((with_reducible refine gate_dst (N := 9) rfl ?_); refine box_event ?hg (N := 9) ?hd (cs := #[.int .i64 0, .int .i64 0, .int .i64 0, .int .i64 0]) (t := 63) ?hr ?_; (case hd => rfl); (case hg => rfl); (case hr => first | (go_simp; done) | (go_simp; rfl)); intro ge hg w6 hbox hb; have n0_ := Aside0.mk (below_step HB.out hb); have n1_ := Aside0.mk hbox; have n2_ := Aside0.mk ((by rw [hg]; exact (below_size HB.out)) : w.heap.size ≤ ge); have n3_ := Aside0.mk (blk_below (g := gp) BKp.out hb); have n4_ := Aside0.mk (blk_below (g := gr) BKr.out hb); have n5_ := Aside0.mk (blk_below (g := gb) BKb.out hb); have nbe : gb ≠ ge := (by have := blk_lt BKb.out; omega); have nre : gr ≠ ge := (by have := blk_lt BKr.out; omega); have npe : gp ≠ ge := (by have := blk_lt BKp.out; omega); have neb := nbe.symm; have ner := nre.symm; have nep := npe.symm; clear HB BKp BKr BKb; have HB := n0_; have BKe := n1_; have GEe := n2_; have BKp := n3_; have BKr := n4_; have BKb := n5_; clear n0_ n1_ n2_ n3_ n4_ n5_; clear hb hbox hg; have z0 : w6.cell? ⟨ge, 0, none⟩ = some (.int .i64 0) := (blk_cell BKe.out 0).trans rfl; have z1 : w6.cell? ⟨ge, 1, none⟩ = some (.int .i64 0) := (blk_cell BKe.out 1).trans rfl; have z2 : w6.cell? ⟨ge, 2, none⟩ = some (.int .i64 0) := (blk_cell BKe.out 2).trans rfl; have z3 : w6.cell? ⟨ge, 3, none⟩ = some (.int .i64 0) := (blk_cell BKe.out 3).trans rfl; have y0 := blk_frozen BKe.out 0; have y1 := blk_frozen BKe.out 1; have y2 := blk_frozen BKe.out 2; have y3 := blk_frozen BKe.out 3) | ((with_reducible refine gate_callee (f := 32) rfl ?_); refine goesL_ (some 20) rfl rfl Try.func32 (by kernel_rfl) rfl #[.int .i64 (rd_T63 l2 i).f1] rfl (by (try simp only [List.map_toArray, List.map_cons, List.map_nil]); first | done | rfl | (simp only [List.length_drop, List.length_take]; rfl)) ?_; (with_reducible refine (stats_known.calls (rd_T63 l2 i).f1 _ _ (known_is _)).mono ?_); rintro e w7 ⟨rfl, ⟨nd, rfl⟩⟩; refine ⟨_, rfl, ?_⟩))
    go_roundg k1
    case measure => omega
    case rel => exact ⟨i + 1, rfl, HI1, ⟨by repeat (first | (with_reducible exact BKp.out) | (with_reducible refine blk_drewN ?_ _) | (with_reducible refine blk_drew ?_) | (with_reducible refine blk_far ?_ npe _))⟩, ⟨by repeat (first | (with_reducible exact BKr.out) | (with_reducible refine blk_drewN ?_ _) | (with_reducible refine blk_drew ?_) | (with_reducible refine blk_far ?_ nre _))⟩, ⟨by rw [eb]; repeat (first | (with_reducible exact BKb.out) | (with_reducible refine blk_drewN ?_ _) | (with_reducible refine blk_drew ?_) | (with_reducible refine blk_far ?_ nbe _))⟩, ⟨by repeat (first | (with_reducible exact HB.out) | (with_reducible first | apply below_alloc | apply pw_below_drewN | apply below_drew1) | (with_reducible refine below_set ?_ GEe.out))⟩⟩
  have kb : decide (0 ≤ (rd_T63 l2 i).f1 ∧ (rd_T63 l2 i).f1 < 6) = true := decide_eq_true k
  have eb : booked l2 (i + 1).toNat = evt (booked l2 i.toNat) (rd_T63 l2 i).f0 (rd_T63 l2 i).f1.toNat (rd_T63 l2 i).f2 (rd_T63 l2 i).f3 := by rw [booked_succ l2 i hi0 c]; unfold evE; rw [if_pos k]
  have npb : gp ≠ gb := by have := LTpr.out; have := LTrb.out; omega
  have nrb : gr ≠ gb := by have := LTrb.out; omega
  go_wp2_with (first | ((with_reducible refine gate_dst (N := 9) rfl ?_); refine box_event ?hg (N := 9) ?hd (cs := #[.int .i64 0, .int .i64 0, .int .i64 0, .int .i64 0]) (t := 63) ?hr ?_; (case hd => rfl); (case hg => rfl); (case hr => first | (go_simp; done) | (go_simp; rfl)); intro ge hg w6 hbox hb; have n0_ := Aside0.mk (below_step HB.out hb); have n1_ := Aside0.mk hbox; have n2_ := Aside0.mk ((by rw [hg]; exact (below_size HB.out)) : w.heap.size ≤ ge); have n3_ := Aside0.mk (blk_below (g := gp) BKp.out hb); have n4_ := Aside0.mk (blk_below (g := gr) BKr.out hb); have n5_ := Aside0.mk (blk_below (g := gb) BKb.out hb); have nbe : gb ≠ ge := (by have := blk_lt BKb.out; omega); have nre : gr ≠ ge := (by have := blk_lt BKr.out; omega); have npe : gp ≠ ge := (by have := blk_lt BKp.out; omega); have neb := nbe.symm; have ner := nre.symm; have nep := npe.symm; clear HB BKp BKr BKb; have HB := n0_; have BKe := n1_; have GEe := n2_; have BKp := n3_; have BKr := n4_; have BKb := n5_; clear n0_ n1_ n2_ n3_ n4_ n5_; clear hb hbox hg; have z0 : w6.cell? ⟨ge, 0, none⟩ = some (.int .i64 0) := (blk_cell BKe.out 0).trans rfl; have z1 : w6.cell? ⟨ge, 1, none⟩ = some (.int .i64 0) := (blk_cell BKe.out 1).trans rfl; have z2 : w6.cell? ⟨ge, 2, none⟩ = some (.int .i64 0) := (blk_cell BKe.out 2).trans rfl; have z3 : w6.cell? ⟨ge, 3, none⟩ = some (.int .i64 0) := (blk_cell BKe.out 3).trans rfl; have y0 := blk_frozen BKe.out 0; have y1 := blk_frozen BKe.out 1; have y2 := blk_frozen BKe.out 2; have y3 := blk_frozen BKe.out 3) | ((with_reducible refine gate_callee (f := 32) rfl ?_); refine goesL_ (some 20) rfl rfl Try.func32 (by kernel_rfl) rfl #[.int .i64 (rd_T63 l2 i).f1] rfl (by (try simp only [List.map_toArray, List.map_cons, List.map_nil]); first | done | rfl | (simp only [List.length_drop, List.length_take]; rfl)) ?_; (with_reducible refine (stats_known.calls (rd_T63 l2 i).f1 _ _ (known_is _)).mono ?_); rintro e w7 ⟨rfl, ⟨nd, rfl⟩⟩; refine ⟨_, rfl, ?_⟩) | ((with_reducible refine gate_callee (f := 33) rfl ?_); refine goesL_ (some 22) rfl rfl Try.func33 (by kernel_rfl) rfl #[.pointer (some ⟨gb, 0, none⟩), .agg #[.int .i64 (rd_T63 l2 i).f0, .int .i64 (rd_T63 l2 i).f1, .int .i64 (rd_T63 l2 i).f2, .int .i64 (rd_T63 l2 i).f3]] rfl (by (try simp only [List.map_toArray, List.map_cons, List.map_nil]); first | done | rfl | (simp only [List.length_drop, List.length_take]; rfl)) ?_; (with_reducible refine (event.calls (booked l2 i.toNat) (rd_T63 l2 i).f0 (rd_T63 l2 i).f1 (rd_T63 l2 i).f2 (rd_T63 l2 i).f3 k.1 k.2 gb w.heap.size _ GEb.out ?hgb).mono ?_); (case hgb => repeat (first | (with_reducible exact BKb.out) | (with_reducible refine blk_drewN ?_ _) | (with_reducible refine blk_drew ?_) | (with_reducible refine blk_far ?_ nbe _))); rintro e w8 ⟨rfl, hgb, hbl, hfar⟩; refine ⟨_, rfl, ?_⟩))
  go_roundg k1
  case measure => omega
  case rel => exact ⟨i + 1, rfl, HI1, ⟨keep_other hfar (by repeat (first | (with_reducible exact BKp.out) | (with_reducible refine blk_drewN ?_ _) | (with_reducible refine blk_drew ?_) | (with_reducible refine blk_far ?_ npe _))) npb⟩, ⟨keep_other hfar (by repeat (first | (with_reducible exact BKr.out) | (with_reducible refine blk_drewN ?_ _) | (with_reducible refine blk_drew ?_) | (with_reducible refine blk_far ?_ nre _))) nrb⟩, ⟨by rw [eb]; exact hgb⟩, ⟨Below.trans (by repeat (first | (with_reducible exact HB.out) | (with_reducible first | apply below_alloc | apply pw_below_drewN | apply below_drew1) | (with_reducible refine below_set ?_ GEe.out))) hbl⟩⟩
end Go.Proofs.Ytfimgecceneagaa.PAll
