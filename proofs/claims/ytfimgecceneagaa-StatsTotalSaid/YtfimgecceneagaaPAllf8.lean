/- The law StatsTotal, its walk: at every list it answers true. By hand. -/
import Derived.Test.YtfimgecceneagaaS53
import Derived.Test.YtfimgecceneagaaPAllf21
import Derived.Test.YtfimgecceneagaaPAllf23
namespace Go.Proofs.Ytfimgecceneagaa.PAll
open Go.RowKit Go.Proofs.YtfimgecceneagaaW.PrintWords Go.Proofs.YtfimgecceneagaaW.PrintLast Go.Proofs.Ytfimgecceneagaa.Arr Go.Proofs.Ytfimgecceneagaa.Wp
set_option linter.unusedVariables false
set_option linter.unusedSimpArgs false
attribute [local go_sem] maxTwo
attribute [local go_sem high] eqA49
/-- The rows of the first n of a list, as cells. -/
def rowsV (l : List S53) : Nat → Nat → Int
  | 0 => zeroB
  | n + 1 => upd (upd (upd (upd (upd (upd (rowsV l n) (n * 6) (rd_T53 l n).f0) (n * 6 + 1) (rd_T53 l n).f1) (n * 6 + 2) (rd_T53 l n).f2) (n * 6 + 3) (rd_T53 l n).f3) (n * 6 + 4) (rd_T53 l n).f4) (n * 6 + 5) (rd_T53 l n).f5
/-- The sum of a field over the first n of a list; the greatest last field. -/
def wF (l : List S53) (f : S53 → Int) : Nat → Int
  | 0 => 0
  | n + 1 => wrap64 (wF l f n + f (rd_T53 l n))
def wM (l : List S53) : Nat → Int
  | 0 => 0
  | n + 1 => gr (wM l n) (rd_T53 l n).f5
theorem rowsV_succ (l : List S53) (i : Int) (h : 0 ≤ i) : rowsV l (i + 1).toNat = upd (upd (upd (upd (upd (upd (rowsV l i.toNat) (i.toNat * 6) (rd_T53 l i).f0) (i.toNat * 6 + 1) (rd_T53 l i).f1) (i.toNat * 6 + 2) (rd_T53 l i).f2) (i.toNat * 6 + 3) (rd_T53 l i).f3) (i.toNat * 6 + 4) (rd_T53 l i).f4) (i.toNat * 6 + 5) (rd_T53 l i).f5 := by
  rw [show (i + 1).toNat = i.toNat + 1 by omega]
  show rowsV l (i.toNat + 1) = _
  have e : ((i.toNat : Nat) : Int) = i := by omega
  simp only [rowsV, e]
theorem wF_succ (l : List S53) (f : S53 → Int) (i : Int) (h : 0 ≤ i) : wF l f (i + 1).toNat = wrap64 (wF l f i.toNat + f (rd_T53 l i)) := by
  rw [show (i + 1).toNat = i.toNat + 1 by omega]
  have e : ((i.toNat : Nat) : Int) = i := by omega
  simp only [wF, e]
theorem wM_succ (l : List S53) (i : Int) (h : 0 ≤ i) : wM l (i + 1).toNat = gr (wM l i.toNat) (rd_T53 l i).f5 := by
  rw [show (i + 1).toNat = i.toNat + 1 by omega]
  have e : ((i.toNat : Nat) : Int) = i := by omega
  simp only [wM, e]
theorem same0 (l : List S53) : totF (rowsV l 6) 0 6 = wF l (fun x => x.f0) 6 := by rfl
theorem same1 (l : List S53) : totF (rowsV l 6) 1 6 = wF l (fun x => x.f1) 6 := by rfl
theorem same2 (l : List S53) : totF (rowsV l 6) 2 6 = wF l (fun x => x.f2) 6 := by rfl
theorem same3 (l : List S53) : totF (rowsV l 6) 3 6 = wF l (fun x => x.f3) 6 := by rfl
theorem same4 (l : List S53) : totF (rowsV l 6) 4 6 = wF l (fun x => x.f4) 6 := by rfl
theorem same5 (l : List S53) : totM (rowsV l 6) 6 = wM l 6 := by rfl
def total.T17 : Bool × List (List Nat × List Nat) := (true, [([], []), ([0, 0], [0]), ([1], [1]), ([2, 1, 1], [1, 2]), ([1], [1]), ([3, 4, 1], [1, 3, 4]), ([1, 5], [1, 5]), ([6, 3, 0, 1, 2, 3, 4, 5, 6], [6])])
def total.B17 : List Nat := [0, 1, 3, 7, 3, 31, 63, 127]
theorem total.tab17 : rtab .any (opsOf Try.f8 17) = total.T17 := by kernel_rfl
theorem total.bits17 : waitsOk total.T17.2 total.B17 = true := by kernel_rfl
theorem cell6_at {w : World} {g : Nat} {t : TypeId} {a b c d e f : Int} (h : w.heap[g]? = some (.cells #[.int .i64 a, .int .i64 b, .int .i64 c, .int .i64 d, .int .i64 e, .int .i64 f] t (0, 0))) (j : Int) (h0 : 0 ≤ j) (h1 : j < 6) :
    ∃ x, w.cell? ⟨g, j.toNat, none⟩ = some (.int .i64 x) := by
  rw [blk_cell h]
  have : j = 0 ∨ j = 1 ∨ j = 2 ∨ j = 3 ∨ j = 4 ∨ j = 5 := by omega
  rcases this with rfl | rfl | rfl | rfl | rfl | rfl <;> exact ⟨_, rfl⟩
def dormouselaw26_StatsTotal.f (k : Nat) (l0 : List (S53)) : Option (Bool) := some true
theorem dormouselaw26_StatsTotal.mono : ∀ a0 k, LeO (dormouselaw26_StatsTotal.f k a0) (dormouselaw26_StatsTotal.f (k + 1) a0) := fun _ _ => LeO.refl _
set_option maxHeartbeats 8000000 in
set_option maxRecDepth 100000 in
theorem dormouselaw26_StatsTotal.calls (k : Nat) (A0 : Option Addr) (c0 : Nat) (l0 : List (S53)) (w : World) (hr0 : Kd.C k53 w A0 l0.length l0) (hc0 : l0.length ≤ c0) (h : dormouselaw26_StatsTotal.f k l0 = some true) :
    Calls Try.prog 8 #[.slice A0 l0.length c0] w fun e w' => e = .returned (.bool true) ∧ Below w.heap.size w w' := by
  clear h
  have hu50 := Try.underlying50
  have hu49 := Try.underlying49
  have hu53 := Try.underlying53
  have hu57 := Try.underlying57
  have HR0 := Aside0.mk hr0
  have HC0 := Aside0.mk hc0
  clear hr0 hc0
  have HB := Aside0.mk (Below.refl w.heap.size w)
  go_enter Try.func8, Try.ntmps8
  by_cases cl : (l0.length : Int) < 6
  · have cb : decide ((l0.length : Int) < 6) = true := decide_eq_true cl
    go_wp2_with (first | ((with_reducible refine gate_callee (f := 21) rfl ?_); refine goesL_ (some 12) rfl rfl Try.func21 (by kernel_rfl) rfl #[] rfl (by (try simp only [List.map_toArray, List.map_cons, List.map_nil]); first | done | rfl | (simp only [List.length_drop, List.length_take]; rfl)) ?_; (with_reducible refine (answers26.calls _).mono ?_); rintro e w1 ⟨rfl, hb⟩; refine ⟨_, rfl, ?_⟩; have n0_ := Aside0.mk (below_step HB.out hb); clear HB hb; have HB := n0_; clear n0_))
    go_ret
    exact ⟨rfl, HB.out⟩
  have cb : decide ((l0.length : Int) < 6) = false := decide_eq_false cl
  go_upto_region 5 with (first | ((with_reducible refine gate_dst (N := 3) rfl ?_); refine box_event ?hg (N := 3) ?hd (cs := #[.int .i64 0, .int .i64 0, .int .i64 0, .int .i64 0, .int .i64 0, .int .i64 0, .int .i64 0, .int .i64 0, .int .i64 0, .int .i64 0, .int .i64 0, .int .i64 0, .int .i64 0, .int .i64 0, .int .i64 0, .int .i64 0, .int .i64 0, .int .i64 0, .int .i64 0, .int .i64 0, .int .i64 0, .int .i64 0, .int .i64 0, .int .i64 0, .int .i64 0, .int .i64 0, .int .i64 0, .int .i64 0, .int .i64 0, .int .i64 0, .int .i64 0, .int .i64 0, .int .i64 0, .int .i64 0, .int .i64 0, .int .i64 0]) (t := 50) ?hr ?_; (case hd => rfl); (case hg => rfl); (case hr => first | (go_simp; done) | (go_simp; rfl)); intro g3 hg w2 hbox hb; have n0_ := Aside0.mk (below_step HB.out hb); have n1_ := Aside0.mk hbox; have n2_ := Aside0.mk ((by rw [hg]; exact (below_size HB.out)) : w.heap.size ≤ g3); clear HB; have HB := n0_; have BK3 := n1_; have GE3 := n2_; clear n0_ n1_ n2_; clear hb hbox hg) | ((with_reducible refine gate_dst (N := 4) rfl ?_); refine box_event ?hg (N := 4) ?hd (cs := #[.int .i64 0, .int .i64 0, .int .i64 0, .int .i64 0, .int .i64 0, .int .i64 0]) (t := 49) ?hr ?_; (case hd => rfl); (case hg => rfl); (case hr => first | (go_simp; done) | (go_simp; rfl)); intro g4 hg w3 hbox hb; have n0_ := Aside0.mk (below_step HB.out hb); have n1_ := Aside0.mk hbox; have n2_ := Aside0.mk ((by rw [hg]; exact (below_size HB.out)) : w.heap.size ≤ g4); have n3_ := Aside0.mk (blk_below BK3.out hb); have n34 : g3 ≠ g4 := (by have := blk_lt BK3.out; omega); have n43 := n34.symm; clear HB BK3; have HB := n0_; have BK4 := n1_; have GE4 := n2_; have BK3 := n3_; clear n0_ n1_ n2_ n3_; clear hb hbox hg))
  rw [zeros36] at BK3
  go_wp2
  go_loopg [5] 7 (fun kq v5 w' => ∃ (i : Int), v5 = .int .i64 i ∧ Aside0 (0 ≤ i ∧ i ≤ 6 ∧ (kq : Int) + i = 7) ∧ Aside0 (w'.heap[g3]? = some (.cells (arrN 36 (rowsV l0 i.toNat)) 50 (0, 0))) ∧ Aside0 (w'.heap[g4]? = some (.cells #[.int .i64 (wF l0 (fun x => x.f0) i.toNat), .int .i64 (wF l0 (fun x => x.f1) i.toNat), .int .i64 (wF l0 (fun x => x.f2) i.toNat), .int .i64 (wF l0 (fun x => x.f3) i.toNat), .int .i64 (wF l0 (fun x => x.f4) i.toNat), .int .i64 (wM l0 i.toNat)] 49 (0, 0))) ∧ Aside0 (Below w.heap.size w w'))
  case atStart => exact ⟨0, rfl, ⟨by omega, by omega, by omega⟩, ⟨BK3.out⟩, ⟨BK4.out⟩, ⟨HB.out⟩⟩
  case round =>
  clear BK3 BK4 HB
  obtain ⟨i, rfl, HI, BK3, BK4, HB⟩ := hrel
  have hi0 := HI.out.1
  by_cases c : i < 6
  case neg =>
    have c0 : decide (i < 6) = false := decide_eq_false c
    have hi6 : i.toNat = 6 := by have := HI.out.2; omega
    rw [hi6] at BK3 BK4
    clear HI hi0 c hi6
    go_upto_region 17 with (fail)
    obtain ⟨cs, hcs⟩ : ∃ cs, Aside0 (cs = arrN 36 (rowsV l0 6)) := ⟨_, ⟨rfl⟩⟩
    rw [← hcs.out] at BK3
    have hsz : Aside0 (cs.size = 36) := ⟨by rw [hcs.out, arrN_size]⟩
    refine start_ (n := 8) (S := fun w' => w'.rangeAt g3 0 cs.toList ∧ w'.cell? ⟨g4, 0, none⟩ = some (.int .i64 (wF l0 (fun x => x.f0) 6)) ∧ w'.cell? ⟨g4, 1, none⟩ = some (.int .i64 (wF l0 (fun x => x.f1) 6)) ∧ w'.cell? ⟨g4, 2, none⟩ = some (.int .i64 (wF l0 (fun x => x.f2) 6)) ∧ w'.cell? ⟨g4, 3, none⟩ = some (.int .i64 (wF l0 (fun x => x.f3) 6)) ∧ w'.cell? ⟨g4, 4, none⟩ = some (.int .i64 (wF l0 (fun x => x.f4) 6)) ∧ w'.cell? ⟨g4, 5, none⟩ = some (.int .i64 (wM l0 6))) (ds := []) #[false, false, false, false, false, false, false, false] (by kernel_rfl) rfl rfl ⟨(by rw [hcs.out]; have := (blk_drew BK3.out); rw [hcs.out] at this; exact range36 (by omega) this), (blk_cell (blk_drew BK4.out) 0).trans rfl, (blk_cell (blk_drew BK4.out) 1).trans rfl, (blk_cell (blk_drew BK4.out) 2).trans rfl, (blk_cell (blk_drew BK4.out) 3).trans rfl, (blk_cell (blk_drew BK4.out) 4).trans rfl, (blk_cell (blk_drew BK4.out) 5).trans rfl⟩ (fun hHeld => ?_); refine with_tabW total.tab17 total.bits17 (fun HT_ HW_ => ?_)
    have n0_ := Aside0.mk (blk_drew BK3.out); have n1_ := Aside0.mk (blk_drew BK4.out); have n2_ := Aside0.mk (HB.out.drew); clear BK3 BK4 HB; have BK3 := n0_; have BK4 := n1_; have HB := n2_; clear n0_ n1_ n2_; generalize wr.drew = w19 at BK3 BK4 HB hHeld ⊢
    -- ONE 0
    refine one_ (i := 0) (N := some 82) #[true, false, false, false, false, false, false, false] rfl rfl (one_of HT_.out (by kernel_rfl)) (by decide) (fun K hK => ?_)
    refine goes_ Try.func21 (by kernel_rfl) rfl #[] (by rfl) rfl rfl (by (try simp only [List.map_toArray, List.map_cons, List.map_nil]); first | done | rfl | (simp only [List.length_drop, List.length_take]; rfl)) ?_
    with_reducible refine (answers26.calls _).mono ?_
    rintro e w20 ⟨rfl, hb⟩
    refine ⟨_, rfl, ?_⟩
    have n0_ := Aside0.mk (blk_below BK3.out hb); have n1_ := Aside0.mk (blk_below BK4.out hb); have n2_ := Aside0.mk (below_step HB.out hb); clear BK3 BK4 HB hb; have BK3 := n0_; have BK4 := n1_; have HB := n2_; clear n0_ n1_ n2_
    refine hK.out _ _ ⟨(by rw [hcs.out]; have := BK3.out; rw [hcs.out] at this; exact range36 (by omega) this), (blk_cell BK4.out 0).trans rfl, (blk_cell BK4.out 1).trans rfl, (blk_cell BK4.out 2).trans rfl, (blk_cell BK4.out 3).trans rfl, (blk_cell BK4.out 4).trans rfl, (blk_cell BK4.out 5).trans rfl⟩ (fun hHeld => ?_)
    clear hK K
    refine norm_ (a' := ?_) ?_ ?_
    rotate_left
    · show Act.put _ (some 82) _ = _
      simp only [Act.put, List.setIfInBounds_toArray, List.set_cons_zero, List.set_cons_succ, i64_w, i32_w]
      rfl
    refine pure_ (i := 1) (N := some 83) (v := ?_) (a' := ?_) #[true, true, false, false, false, false, false, false] rfl rfl (any_of HT_.out (by kernel_rfl)) (fun _ _ _ h => h) (Or.inl ⟨by rfl, ?_⟩) ?_ ?_; rotate_left; (· (intro w'; go_simp; with_reducible rfl)); rotate_left; (· (simp only [Act.put, List.setIfInBounds_toArray, List.set_cons_zero, List.set_cons_succ, i64_w, i32_w]; rfl))
    refine take_ (i := 4) (N := some 86) (v := ?_) (a' := ?_) #[true, true, false, false, true, false, false, false] rfl rfl (take_ofW HT_.out HW_.out (by kernel_rfl)) (fun _ _ _ h => h) (Or.inl ⟨by rfl, ?_⟩) hHeld ?_ ?_; rotate_left; (· (rintro w' ⟨s0, s1, s2, s3, s4, s5, s6⟩; go_simp; with_reducible rfl)); rotate_left; (· (simp only [Act.put, List.setIfInBounds_toArray, List.set_cons_zero, List.set_cons_succ, i64_w, i32_w]; rfl))
    -- ONE 2
    refine take_ (i := 2) (N := some 84) (v := .agg cs.toList.toArray) (a' := ?_) #[true, true, true, false, true, false, false, false] rfl rfl (take_ofW HT_.out HW_.out (by kernel_rfl)) (fun _ _ _ h => h) (yieldsIf_load_mid (by rfl) 50 (.tmp 3) rfl g3 0 (by rfl) cs.toList _ (fun w h => h.1) Try.underlying50 rfl (by rw [Array.length_toList, hsz.out]; kernel_rfl)) hHeld ?_ ?_; rotate_left; (· (simp only [Act.put, List.setIfInBounds_toArray, List.set_cons_zero, List.set_cons_succ, i64_w, i32_w, Array.toArray_toList]; rfl))
    -- ONE 3
    refine one_ (i := 3) (N := some 85) #[true, true, true, true, true, false, false, false] rfl rfl (one_of HT_.out (by kernel_rfl)) (by decide) (fun K hK => ?_)
    refine goes_ Try.func25 (by kernel_rfl) rfl #[.agg cs] (by rfl) rfl rfl (by (try simp only [List.map_toArray, List.map_cons, List.map_nil]); first | done | rfl | (simp only [List.length_drop, List.length_take]; rfl)) ?_
    rw [hcs.out]
    with_reducible refine (stats_Total.calls _ _).mono ?_
    rintro e w21 ⟨rfl, hb⟩
    refine ⟨_, rfl, ?_⟩
    rw [same0, same1, same2, same3, same4, same5]
    have n0_ := Aside0.mk (blk_below BK3.out hb); have n1_ := Aside0.mk (blk_below BK4.out hb); have n2_ := Aside0.mk (below_step HB.out hb); clear BK3 BK4 HB hb; have BK3 := n0_; have BK4 := n1_; have HB := n2_; clear n0_ n1_ n2_
    refine hK.out _ _ ⟨(by rw [hcs.out]; have := BK3.out; rw [hcs.out] at this; exact range36 (by omega) this), (blk_cell BK4.out 0).trans rfl, (blk_cell BK4.out 1).trans rfl, (blk_cell BK4.out 2).trans rfl, (blk_cell BK4.out 3).trans rfl, (blk_cell BK4.out 4).trans rfl, (blk_cell BK4.out 5).trans rfl⟩ (fun hHeld => ?_)
    clear hK K
    refine norm_ (a' := ?_) ?_ ?_
    rotate_left
    · show Act.put _ (some 85) _ = _
      simp only [Act.put, List.setIfInBounds_toArray, List.set_cons_zero, List.set_cons_succ, i64_w, i32_w]
      rfl
    refine pure_ (i := 5) (N := some 87) (v := ?_) (a' := ?_) #[true, true, true, true, true, true, false, false] rfl rfl (any_of HT_.out (by kernel_rfl)) (fun _ _ _ h => h) (Or.inl ⟨by rfl, ?_⟩) ?_ ?_; rotate_left; (· (intro w'; go_simp; with_reducible rfl)); rotate_left; (· (simp only [Act.put, List.setIfInBounds_toArray, List.set_cons_zero, List.set_cons_succ, i64_w, i32_w]; rfl))
    refine pure_ (i := 6) (N := some 88) (v := ?_) (a' := ?_) #[true, true, true, true, true, true, true, false] rfl rfl (any_of HT_.out (by kernel_rfl)) (fun _ _ _ h => h) (Or.inl ⟨by rfl, ?_⟩) ?_ ?_; rotate_left; (· (intro w'; go_simp; with_reducible rfl)); rotate_left; (· (simp only [Act.put, List.setIfInBounds_toArray, List.set_cons_zero, List.set_cons_succ, i64_w, i32_w]; rfl))
    refine pure_ (i := 7) (N := some 2) (v := ?_) (a' := ?_) #[true, true, true, true, true, true, true, true] rfl rfl (any_of HT_.out (by kernel_rfl)) (fun _ _ _ h => h) (Or.inl ⟨by rfl, ?_⟩) ?_ ?_; rotate_left; (· (intro w'; go_simp; with_reducible rfl)); rotate_left; (· (simp only [Act.put, List.setIfInBounds_toArray, List.set_cons_zero, List.set_cons_succ, i64_w, i32_w]; rfl))
    refine done_ (done_of HT_.out (by kernel_rfl)) ?_
    try go_wp2
    go_ret
    exact ⟨by first | rfl | simp, HB.out⟩
  have c0' : decide (i < 6) = true := decide_eq_true c
  have cil : i < (l0.length : Int) := by omega
  obtain ⟨ad, e1, hx0, hx1, hx2, hx3, hx4, hx5⟩ := at_T53 HR0.out i hi0 cil
  cases e1
  have hw0 := (HB.out.cell (World.block_lt_of_cell? w _ hx0)).trans hx0
  have hw1 := (HB.out.cell (World.block_lt_of_cell? w _ hx1)).trans hx1
  have hw2 := (HB.out.cell (World.block_lt_of_cell? w _ hx2)).trans hx2
  have hw3 := (HB.out.cell (World.block_lt_of_cell? w _ hx3)).trans hx3
  have hw4 := (HB.out.cell (World.block_lt_of_cell? w _ hx4)).trans hx4
  have hw5 := (HB.out.cell (World.block_lt_of_cell? w _ hx5)).trans hx5
  clear hx0 hx1 hx2 hx3 hx4 hx5
  have p0 := eq_true hi0
  have q0 := eq_true cil
  have q6 := eq_true c
  cases gk with
  | zero => exact absurd HI.out.2.2 (by have := HI.out.2.1; omega)
  | succ k1 =>
  have HI1 : Aside0 (0 ≤ i + 1 ∧ i + 1 ≤ 6 ∧ (k1 : Int) + (i + 1) = 7) := ⟨by have := HI.out.2; omega⟩
  have next : wrap64 (i + 1) = i + 1 := by unfold wrap64; omega
  go_upto_region 9 with (first | ((with_reducible refine gate_dst (N := 6) rfl ?_); refine box_event ?hg (N := 6) ?hd (cs := #[.int .i64 0, .int .i64 0, .int .i64 0, .int .i64 0, .int .i64 0, .int .i64 0]) (t := 53) ?hr ?_; (case hd => rfl); (case hg => rfl); (case hr => first | (go_simp; done) | (go_simp; rfl)); intro g6 hg w6 hbox hb; have n0_ := Aside0.mk (below_step HB.out hb); have n1_ := Aside0.mk hbox; have n2_ := Aside0.mk ((by rw [hg]; exact (below_size HB.out)) : w.heap.size ≤ g6); have n3_ := Aside0.mk (blk_below BK3.out hb); have n4_ := Aside0.mk (blk_below BK4.out hb); have n36 : g3 ≠ g6 := (by have := blk_lt BK3.out; omega); have n46 : g4 ≠ g6 := (by have := blk_lt BK4.out; omega); have n63 := n36.symm; have n64 := n46.symm; clear HB BK3 BK4; have HB := n0_; have BK6 := n1_; have GE6 := n2_; have BK3 := n3_; have BK4 := n4_; clear n0_ n1_ n2_ n3_ n4_; clear hb hbox hg; have z0 : w6.cell? ⟨g6, 0, none⟩ = some (.int .i64 0) := (blk_cell BK6.out 0).trans rfl; have y0 := blk_frozen BK6.out 0; have z1 : w6.cell? ⟨g6, 1, none⟩ = some (.int .i64 0) := (blk_cell BK6.out 1).trans rfl; have y1 := blk_frozen BK6.out 1; have z2 : w6.cell? ⟨g6, 2, none⟩ = some (.int .i64 0) := (blk_cell BK6.out 2).trans rfl; have y2 := blk_frozen BK6.out 2; have z3 : w6.cell? ⟨g6, 3, none⟩ = some (.int .i64 0) := (blk_cell BK6.out 3).trans rfl; have y3 := blk_frozen BK6.out 3; have z4 : w6.cell? ⟨g6, 4, none⟩ = some (.int .i64 0) := (blk_cell BK6.out 4).trans rfl; have y4 := blk_frozen BK6.out 4; have z5 : w6.cell? ⟨g6, 5, none⟩ = some (.int .i64 0) := (blk_cell BK6.out 5).trans rfl; have y5 := blk_frozen BK6.out 5))
  have m0_ : Aside0 ((((((((w6.setCell ⟨g6, 0, none⟩ (.int .i64 (rd_T53 l0 i).f0)).setCell ⟨g6, 1, none⟩ (.int .i64 (rd_T53 l0 i).f1)).setCell ⟨g6, 2, none⟩ (.int .i64 (rd_T53 l0 i).f2)).setCell ⟨g6, 3, none⟩ (.int .i64 (rd_T53 l0 i).f3)).setCell ⟨g6, 4, none⟩ (.int .i64 (rd_T53 l0 i).f4)).setCell ⟨g6, 5, none⟩ (.int .i64 (rd_T53 l0 i).f5))).heap[g6]? = some (.cells #[.int .i64 (rd_T53 l0 i).f0, .int .i64 (rd_T53 l0 i).f1, .int .i64 (rd_T53 l0 i).f2, .int .i64 (rd_T53 l0 i).f3, .int .i64 (rd_T53 l0 i).f4, .int .i64 (rd_T53 l0 i).f5] 53 (0, 0))) := ⟨by refine blk_put (cs := #[.int .i64 (rd_T53 l0 i).f0, .int .i64 (rd_T53 l0 i).f1, .int .i64 (rd_T53 l0 i).f2, .int .i64 (rd_T53 l0 i).f3, .int .i64 (rd_T53 l0 i).f4, .int .i64 0]) ?_ 5 _ rfl; refine blk_put (cs := #[.int .i64 (rd_T53 l0 i).f0, .int .i64 (rd_T53 l0 i).f1, .int .i64 (rd_T53 l0 i).f2, .int .i64 (rd_T53 l0 i).f3, .int .i64 0, .int .i64 0]) ?_ 4 _ rfl; refine blk_put (cs := #[.int .i64 (rd_T53 l0 i).f0, .int .i64 (rd_T53 l0 i).f1, .int .i64 (rd_T53 l0 i).f2, .int .i64 0, .int .i64 0, .int .i64 0]) ?_ 3 _ rfl; refine blk_put (cs := #[.int .i64 (rd_T53 l0 i).f0, .int .i64 (rd_T53 l0 i).f1, .int .i64 0, .int .i64 0, .int .i64 0, .int .i64 0]) ?_ 2 _ rfl; refine blk_put (cs := #[.int .i64 (rd_T53 l0 i).f0, .int .i64 0, .int .i64 0, .int .i64 0, .int .i64 0, .int .i64 0]) ?_ 1 _ rfl; refine blk_put (cs := #[.int .i64 0, .int .i64 0, .int .i64 0, .int .i64 0, .int .i64 0, .int .i64 0]) ?_ 0 _ rfl; exact BK6.out⟩
  have m1_ : Aside0 ((((((((w6.setCell ⟨g6, 0, none⟩ (.int .i64 (rd_T53 l0 i).f0)).setCell ⟨g6, 1, none⟩ (.int .i64 (rd_T53 l0 i).f1)).setCell ⟨g6, 2, none⟩ (.int .i64 (rd_T53 l0 i).f2)).setCell ⟨g6, 3, none⟩ (.int .i64 (rd_T53 l0 i).f3)).setCell ⟨g6, 4, none⟩ (.int .i64 (rd_T53 l0 i).f4)).setCell ⟨g6, 5, none⟩ (.int .i64 (rd_T53 l0 i).f5))).heap[g3]? = some (.cells (arrN 36 (rowsV l0 i.toNat)) 50 (0, 0))) := ⟨by repeat (first | (with_reducible exact BK3.out) | (with_reducible refine blk_far ?_ n36 _))⟩
  have m2_ : Aside0 ((((((((w6.setCell ⟨g6, 0, none⟩ (.int .i64 (rd_T53 l0 i).f0)).setCell ⟨g6, 1, none⟩ (.int .i64 (rd_T53 l0 i).f1)).setCell ⟨g6, 2, none⟩ (.int .i64 (rd_T53 l0 i).f2)).setCell ⟨g6, 3, none⟩ (.int .i64 (rd_T53 l0 i).f3)).setCell ⟨g6, 4, none⟩ (.int .i64 (rd_T53 l0 i).f4)).setCell ⟨g6, 5, none⟩ (.int .i64 (rd_T53 l0 i).f5))).heap[g4]? = some (.cells #[.int .i64 (wF l0 (fun x => x.f0) i.toNat), .int .i64 (wF l0 (fun x => x.f1) i.toNat), .int .i64 (wF l0 (fun x => x.f2) i.toNat), .int .i64 (wF l0 (fun x => x.f3) i.toNat), .int .i64 (wF l0 (fun x => x.f4) i.toNat), .int .i64 (wM l0 i.toNat)] 49 (0, 0))) := ⟨by repeat (first | (with_reducible exact BK4.out) | (with_reducible refine blk_far ?_ n46 _))⟩
  have m3_ : Aside0 (Below w.heap.size w (((((((w6.setCell ⟨g6, 0, none⟩ (.int .i64 (rd_T53 l0 i).f0)).setCell ⟨g6, 1, none⟩ (.int .i64 (rd_T53 l0 i).f1)).setCell ⟨g6, 2, none⟩ (.int .i64 (rd_T53 l0 i).f2)).setCell ⟨g6, 3, none⟩ (.int .i64 (rd_T53 l0 i).f3)).setCell ⟨g6, 4, none⟩ (.int .i64 (rd_T53 l0 i).f4)).setCell ⟨g6, 5, none⟩ (.int .i64 (rd_T53 l0 i).f5)))) := ⟨by repeat (first | (with_reducible exact HB.out) | (with_reducible refine below_set ?_ GE6.out))⟩
  clear BK6 BK3 BK4 HB z0 z1 z2 z3 z4 z5 y0 y1 y2 y3 y4 y5 hw0 hw1 hw2 hw3 hw4 hw5
  have BK6 := m0_; have BK3 := m1_; have BK4 := m2_; have HB := m3_
  clear m0_ m1_ m2_ m3_
  generalize (((((((w6.setCell ⟨g6, 0, none⟩ (.int .i64 (rd_T53 l0 i).f0)).setCell ⟨g6, 1, none⟩ (.int .i64 (rd_T53 l0 i).f1)).setCell ⟨g6, 2, none⟩ (.int .i64 (rd_T53 l0 i).f2)).setCell ⟨g6, 3, none⟩ (.int .i64 (rd_T53 l0 i).f3)).setCell ⟨g6, 4, none⟩ (.int .i64 (rd_T53 l0 i).f4)).setCell ⟨g6, 5, none⟩ (.int .i64 (rd_T53 l0 i).f5))) = w7 at BK6 BK3 BK4 HB ⊢
  have s0 : w7.cell? ⟨g6, 0, none⟩ = some (.int .i64 (rd_T53 l0 i).f0) := (blk_cell BK6.out 0).trans rfl
  have s1 : w7.cell? ⟨g6, 1, none⟩ = some (.int .i64 (rd_T53 l0 i).f1) := (blk_cell BK6.out 1).trans rfl
  have s2 : w7.cell? ⟨g6, 2, none⟩ = some (.int .i64 (rd_T53 l0 i).f2) := (blk_cell BK6.out 2).trans rfl
  have s3 : w7.cell? ⟨g6, 3, none⟩ = some (.int .i64 (rd_T53 l0 i).f3) := (blk_cell BK6.out 3).trans rfl
  have s4 : w7.cell? ⟨g6, 4, none⟩ = some (.int .i64 (rd_T53 l0 i).f4) := (blk_cell BK6.out 4).trans rfl
  have s5 : w7.cell? ⟨g6, 5, none⟩ = some (.int .i64 (rd_T53 l0 i).f5) := (blk_cell BK6.out 5).trans rfl
  go_upto_region 10 with (fail)
  have m0_ : Aside0 ((w7.alloc (Obj.cells #[.int .i64 (rd_T53 l0 i).f0, .int .i64 (rd_T53 l0 i).f1, .int .i64 (rd_T53 l0 i).f2, .int .i64 (rd_T53 l0 i).f3, .int .i64 (rd_T53 l0 i).f4, .int .i64 (rd_T53 l0 i).f5] 3 (0, 0))).heap[w7.heap.size]? = some (Obj.cells #[.int .i64 (rd_T53 l0 i).f0, .int .i64 (rd_T53 l0 i).f1, .int .i64 (rd_T53 l0 i).f2, .int .i64 (rd_T53 l0 i).f3, .int .i64 (rd_T53 l0 i).f4, .int .i64 (rd_T53 l0 i).f5] 3 (0, 0))) := ⟨blk_new w7 _⟩
  have hb7 : Below w7.heap.size w7 (w7.alloc (Obj.cells #[.int .i64 (rd_T53 l0 i).f0, .int .i64 (rd_T53 l0 i).f1, .int .i64 (rd_T53 l0 i).f2, .int .i64 (rd_T53 l0 i).f3, .int .i64 (rd_T53 l0 i).f4, .int .i64 (rd_T53 l0 i).f5] 3 (0, 0))) := below_alloc (Below.refl _ _) _
  have m1_ := Aside0.mk (blk_below BK6.out hb7)
  have m2_ := Aside0.mk (blk_below BK3.out hb7)
  have m3_ := Aside0.mk (blk_below BK4.out hb7)
  have m4_ := Aside0.mk (below_step HB.out hb7)
  clear BK6 BK3 BK4 HB hb7 s0 s1 s2 s3 s4 s5
  have BKs := m0_; have BK6 := m1_; have BK3 := m2_; have BK4 := m3_; have HB := m4_
  clear m0_ m1_ m2_ m3_ m4_
  generalize w7.alloc (Obj.cells #[.int .i64 (rd_T53 l0 i).f0, .int .i64 (rd_T53 l0 i).f1, .int .i64 (rd_T53 l0 i).f2, .int .i64 (rd_T53 l0 i).f3, .int .i64 (rd_T53 l0 i).f4, .int .i64 (rd_T53 l0 i).f5] 3 (0, 0)) = w8 at BKs BK6 BK3 BK4 HB ⊢
  generalize w7.heap.size = gs at BKs ⊢
  go_loopg [8, 35] 7 (fun kq v8 v35 w' => ∃ (j : Int), v35 = .int .i64 j ∧ Aside0 (0 ≤ j ∧ j ≤ 6 ∧ (kq : Int) + j = 7) ∧ Aside0 (w'.heap[gs]? = some (Obj.cells #[.int .i64 (rd_T53 l0 i).f0, .int .i64 (rd_T53 l0 i).f1, .int .i64 (rd_T53 l0 i).f2, .int .i64 (rd_T53 l0 i).f3, .int .i64 (rd_T53 l0 i).f4, .int .i64 (rd_T53 l0 i).f5] 3 (0, 0))) ∧ Aside0 (w'.heap[g6]? = some (.cells #[.int .i64 (rd_T53 l0 i).f0, .int .i64 (rd_T53 l0 i).f1, .int .i64 (rd_T53 l0 i).f2, .int .i64 (rd_T53 l0 i).f3, .int .i64 (rd_T53 l0 i).f4, .int .i64 (rd_T53 l0 i).f5] 53 (0, 0))) ∧ Aside0 (w'.heap[g3]? = some (.cells (arrN 36 (rowsV l0 i.toNat)) 50 (0, 0))) ∧ Aside0 (w'.heap[g4]? = some (.cells #[.int .i64 (wF l0 (fun x => x.f0) i.toNat), .int .i64 (wF l0 (fun x => x.f1) i.toNat), .int .i64 (wF l0 (fun x => x.f2) i.toNat), .int .i64 (wF l0 (fun x => x.f3) i.toNat), .int .i64 (wF l0 (fun x => x.f4) i.toNat), .int .i64 (wM l0 i.toNat)] 49 (0, 0))) ∧ Aside0 (Below w.heap.size w w'))
  case atStart => exact ⟨0, rfl, ⟨by omega, by omega, by omega⟩, ⟨BKs.out⟩, ⟨BK6.out⟩, ⟨BK3.out⟩, ⟨BK4.out⟩, ⟨HB.out⟩⟩
  case round =>
  clear BKs BK6 BK3 BK4 HB
  obtain ⟨j, rfl, HJ, BKs, BK6, BK3, BK4, HB⟩ := hrel
  have hj0 := HJ.out.1
  by_cases cj : j < 6
  case neg =>
    have cj0 : decide (j < 6) = false := decide_eq_false cj
    clear HJ hj0 cj
    have s0 : wr.cell? ⟨g6, 0, none⟩ = some (.int .i64 (rd_T53 l0 i).f0) := (blk_cell BK6.out 0).trans rfl
    have s1 : wr.cell? ⟨g6, 1, none⟩ = some (.int .i64 (rd_T53 l0 i).f1) := (blk_cell BK6.out 1).trans rfl
    have s2 : wr.cell? ⟨g6, 2, none⟩ = some (.int .i64 (rd_T53 l0 i).f2) := (blk_cell BK6.out 2).trans rfl
    have s3 : wr.cell? ⟨g6, 3, none⟩ = some (.int .i64 (rd_T53 l0 i).f3) := (blk_cell BK6.out 3).trans rfl
    have s4 : wr.cell? ⟨g6, 4, none⟩ = some (.int .i64 (rd_T53 l0 i).f4) := (blk_cell BK6.out 4).trans rfl
    have s5 : wr.cell? ⟨g6, 5, none⟩ = some (.int .i64 (rd_T53 l0 i).f5) := (blk_cell BK6.out 5).trans rfl
    go_wp2_with (first | ((with_reducible refine gate_callee (f := 23) rfl ?_); refine goesL_ (some 49) rfl rfl Try.func23 (by kernel_rfl) rfl #[.agg #[.int .i64 (rd_T53 l0 i).f0, .int .i64 (rd_T53 l0 i).f1, .int .i64 (rd_T53 l0 i).f2, .int .i64 (rd_T53 l0 i).f3, .int .i64 (rd_T53 l0 i).f4, .int .i64 (rd_T53 l0 i).f5]] rfl (by (try simp only [List.map_toArray, List.map_cons, List.map_nil]); first | done | rfl | (simp only [List.length_drop, List.length_take]; rfl)) ?_; (with_reducible refine (dormouselaw26_row.calls ((rd_T53 l0 i).f0) ((rd_T53 l0 i).f1) ((rd_T53 l0 i).f2) ((rd_T53 l0 i).f3) ((rd_T53 l0 i).f4) ((rd_T53 l0 i).f5) ((rd_T53 l0 i).f0) ((rd_T53 l0 i).f1) ((rd_T53 l0 i).f2) ((rd_T53 l0 i).f3) ((rd_T53 l0 i).f4) ((rd_T53 l0 i).f5) _ rfl).mono ?_); rintro e w9 ⟨rfl, hb⟩; refine ⟨_, rfl, ?_⟩; have n0_ := Aside0.mk (below_step HB.out hb); have n1_ := Aside0.mk (blk_below BK6.out hb); have n2_ := Aside0.mk (blk_below BK3.out hb); have n3_ := Aside0.mk (blk_below BK4.out hb); clear HB BK6 BK3 BK4 hb s0 s1 s2 s3 s4 s5; have HB := n0_; have BK6 := n1_; have BK3 := n2_; have BK4 := n3_; clear n0_ n1_ n2_ n3_; have s0 : w9.cell? ⟨g6, 0, none⟩ = some (.int .i64 (rd_T53 l0 i).f0) := (blk_cell BK6.out 0).trans rfl; have s1 : w9.cell? ⟨g6, 1, none⟩ = some (.int .i64 (rd_T53 l0 i).f1) := (blk_cell BK6.out 1).trans rfl; have s2 : w9.cell? ⟨g6, 2, none⟩ = some (.int .i64 (rd_T53 l0 i).f2) := (blk_cell BK6.out 2).trans rfl; have s3 : w9.cell? ⟨g6, 3, none⟩ = some (.int .i64 (rd_T53 l0 i).f3) := (blk_cell BK6.out 3).trans rfl; have s4 : w9.cell? ⟨g6, 4, none⟩ = some (.int .i64 (rd_T53 l0 i).f4) := (blk_cell BK6.out 4).trans rfl; have s5 : w9.cell? ⟨g6, 5, none⟩ = some (.int .i64 (rd_T53 l0 i).f5) := (blk_cell BK6.out 5).trans rfl; have t0 : w9.cell? ⟨g3, i.toNat * 6, none⟩ = some (.int .i64 (rowsV l0 i.toNat (i.toNat * 6))) := arrN_cell BK3.out _ (by omega); have d0 := blk_frozen BK3.out (i.toNat * 6); have t1 : w9.cell? ⟨g3, i.toNat * 6 + 1, none⟩ = some (.int .i64 (rowsV l0 i.toNat (i.toNat * 6 + 1))) := arrN_cell BK3.out _ (by omega); have d1 := blk_frozen BK3.out (i.toNat * 6 + 1); have t2 : w9.cell? ⟨g3, i.toNat * 6 + 2, none⟩ = some (.int .i64 (rowsV l0 i.toNat (i.toNat * 6 + 2))) := arrN_cell BK3.out _ (by omega); have d2 := blk_frozen BK3.out (i.toNat * 6 + 2); have t3 : w9.cell? ⟨g3, i.toNat * 6 + 3, none⟩ = some (.int .i64 (rowsV l0 i.toNat (i.toNat * 6 + 3))) := arrN_cell BK3.out _ (by omega); have d3 := blk_frozen BK3.out (i.toNat * 6 + 3); have t4 : w9.cell? ⟨g3, i.toNat * 6 + 4, none⟩ = some (.int .i64 (rowsV l0 i.toNat (i.toNat * 6 + 4))) := arrN_cell BK3.out _ (by omega); have d4 := blk_frozen BK3.out (i.toNat * 6 + 4); have t5 : w9.cell? ⟨g3, i.toNat * 6 + 5, none⟩ = some (.int .i64 (rowsV l0 i.toNat (i.toNat * 6 + 5))) := arrN_cell BK3.out _ (by omega); have d5 := blk_frozen BK3.out (i.toNat * 6 + 5); have a0 : w9.cell? ⟨g4, 0, none⟩ = some (.int .i64 (wF l0 (fun x => x.f0) i.toNat)) := (blk_cell BK4.out 0).trans rfl; have b0 := blk_frozen BK4.out 0; have a1 : w9.cell? ⟨g4, 1, none⟩ = some (.int .i64 (wF l0 (fun x => x.f1) i.toNat)) := (blk_cell BK4.out 1).trans rfl; have b1 := blk_frozen BK4.out 1; have a2 : w9.cell? ⟨g4, 2, none⟩ = some (.int .i64 (wF l0 (fun x => x.f2) i.toNat)) := (blk_cell BK4.out 2).trans rfl; have b2 := blk_frozen BK4.out 2; have a3 : w9.cell? ⟨g4, 3, none⟩ = some (.int .i64 (wF l0 (fun x => x.f3) i.toNat)) := (blk_cell BK4.out 3).trans rfl; have b3 := blk_frozen BK4.out 3; have a4 : w9.cell? ⟨g4, 4, none⟩ = some (.int .i64 (wF l0 (fun x => x.f4) i.toNat)) := (blk_cell BK4.out 4).trans rfl; have b4 := blk_frozen BK4.out 4; have a5 : w9.cell? ⟨g4, 5, none⟩ = some (.int .i64 (wM l0 i.toNat)) := (blk_cell BK4.out 5).trans rfl; have b5 := blk_frozen BK4.out 5))
    go_roundg k1
    case measure => omega
    case rel => exact ⟨i + 1, by first | rfl | rw [next], HI1, ⟨by rw [rowsV_succ l0 i hi0]; (repeat (with_reducible refine blk_far ?_ n34 _)); exact arrN_put (arrN_put (arrN_put (arrN_put (arrN_put (arrN_put BK3.out _ _) _ _) _ _) _ _) _ _) _ _⟩, ⟨by rw [wF_succ l0 _ i hi0, wF_succ l0 _ i hi0, wF_succ l0 _ i hi0, wF_succ l0 _ i hi0, wF_succ l0 _ i hi0, wM_succ l0 i hi0]; refine blk_put (cs := #[.int .i64 (wrap64 ((wF l0 (fun x => x.f0) i.toNat) + (rd_T53 l0 i).f0)), .int .i64 (wrap64 ((wF l0 (fun x => x.f1) i.toNat) + (rd_T53 l0 i).f1)), .int .i64 (wrap64 ((wF l0 (fun x => x.f2) i.toNat) + (rd_T53 l0 i).f2)), .int .i64 (wrap64 ((wF l0 (fun x => x.f3) i.toNat) + (rd_T53 l0 i).f3)), .int .i64 (wrap64 ((wF l0 (fun x => x.f4) i.toNat) + (rd_T53 l0 i).f4)), .int .i64 (wM l0 i.toNat)]) ?_ 5 _ rfl; refine blk_put (cs := #[.int .i64 (wrap64 ((wF l0 (fun x => x.f0) i.toNat) + (rd_T53 l0 i).f0)), .int .i64 (wrap64 ((wF l0 (fun x => x.f1) i.toNat) + (rd_T53 l0 i).f1)), .int .i64 (wrap64 ((wF l0 (fun x => x.f2) i.toNat) + (rd_T53 l0 i).f2)), .int .i64 (wrap64 ((wF l0 (fun x => x.f3) i.toNat) + (rd_T53 l0 i).f3)), .int .i64 (wF l0 (fun x => x.f4) i.toNat), .int .i64 (wM l0 i.toNat)]) ?_ 4 _ rfl; refine blk_put (cs := #[.int .i64 (wrap64 ((wF l0 (fun x => x.f0) i.toNat) + (rd_T53 l0 i).f0)), .int .i64 (wrap64 ((wF l0 (fun x => x.f1) i.toNat) + (rd_T53 l0 i).f1)), .int .i64 (wrap64 ((wF l0 (fun x => x.f2) i.toNat) + (rd_T53 l0 i).f2)), .int .i64 (wF l0 (fun x => x.f3) i.toNat), .int .i64 (wF l0 (fun x => x.f4) i.toNat), .int .i64 (wM l0 i.toNat)]) ?_ 3 _ rfl; refine blk_put (cs := #[.int .i64 (wrap64 ((wF l0 (fun x => x.f0) i.toNat) + (rd_T53 l0 i).f0)), .int .i64 (wrap64 ((wF l0 (fun x => x.f1) i.toNat) + (rd_T53 l0 i).f1)), .int .i64 (wF l0 (fun x => x.f2) i.toNat), .int .i64 (wF l0 (fun x => x.f3) i.toNat), .int .i64 (wF l0 (fun x => x.f4) i.toNat), .int .i64 (wM l0 i.toNat)]) ?_ 2 _ rfl; refine blk_put (cs := #[.int .i64 (wrap64 ((wF l0 (fun x => x.f0) i.toNat) + (rd_T53 l0 i).f0)), .int .i64 (wF l0 (fun x => x.f1) i.toNat), .int .i64 (wF l0 (fun x => x.f2) i.toNat), .int .i64 (wF l0 (fun x => x.f3) i.toNat), .int .i64 (wF l0 (fun x => x.f4) i.toNat), .int .i64 (wM l0 i.toNat)]) ?_ 1 _ rfl; refine blk_put (cs := #[.int .i64 (wF l0 (fun x => x.f0) i.toNat), .int .i64 (wF l0 (fun x => x.f1) i.toNat), .int .i64 (wF l0 (fun x => x.f2) i.toNat), .int .i64 (wF l0 (fun x => x.f3) i.toNat), .int .i64 (wF l0 (fun x => x.f4) i.toNat), .int .i64 (wM l0 i.toNat)]) ?_ 0 _ rfl; (repeat (with_reducible refine blk_far ?_ n43 _)); exact BK4.out⟩, ⟨by repeat (first | (with_reducible exact HB.out) | (with_reducible refine below_set ?_ GE4.out) | (with_reducible refine below_set ?_ GE3.out))⟩⟩
  have cj0 : decide (j < 6) = true := decide_eq_true cj
  obtain ⟨x, hx⟩ := cell6_at BKs.out j hj0 cj
  have pj := eq_true hj0
  have qj := eq_true cj
  cases gk with
  | zero => exact absurd HJ.out.2.2 (by have := HJ.out.2.1; omega)
  | succ k2 =>
  have HJ1 : Aside0 (0 ≤ j + 1 ∧ j + 1 ≤ 6 ∧ (k2 : Int) + (j + 1) = 7) := ⟨by have := HJ.out.2; omega⟩
  have nextj : wrap64 (j + 1) = j + 1 := by unfold wrap64; omega
  by_cases x1 : x < -576460752303423488
  · have x1b : decide (x < -576460752303423488) = true := decide_eq_true x1
    go_wp2_with (first | ((with_reducible refine gate_callee (f := 21) rfl ?_); refine goesL_ (some 45) rfl rfl Try.func21 (by kernel_rfl) rfl #[] rfl (by (try simp only [List.map_toArray, List.map_cons, List.map_nil]); first | done | rfl | (simp only [List.length_drop, List.length_take]; rfl)) ?_; (with_reducible refine (answers26.calls _).mono ?_); rintro e w1 ⟨rfl, hb⟩; refine ⟨_, rfl, ?_⟩; have n0_ := Aside0.mk (below_step HB.out hb); clear HB hb; have HB := n0_; clear n0_))
    go_ret
    exact ⟨rfl, HB.out⟩
  have x1b : decide (x < -576460752303423488) = false := decide_eq_false x1
  by_cases x2 : 576460752303423488 < x
  · have x2b : decide (576460752303423488 < x) = true := decide_eq_true x2
    go_wp2_with (first | ((with_reducible refine gate_callee (f := 21) rfl ?_); refine goesL_ (some 45) rfl rfl Try.func21 (by kernel_rfl) rfl #[] rfl (by (try simp only [List.map_toArray, List.map_cons, List.map_nil]); first | done | rfl | (simp only [List.length_drop, List.length_take]; rfl)) ?_; (with_reducible refine (answers26.calls _).mono ?_); rintro e w1 ⟨rfl, hb⟩; refine ⟨_, rfl, ?_⟩; have n0_ := Aside0.mk (below_step HB.out hb); clear HB hb; have HB := n0_; clear n0_))
    go_ret
    exact ⟨rfl, HB.out⟩
  have x2b : decide (576460752303423488 < x) = false := decide_eq_false x2
  go_wp2
  go_roundg k2
  case measure => omega
  case rel => exact ⟨j + 1, by first | rfl | rw [nextj], HJ1, ⟨BKs.out⟩, ⟨BK6.out⟩, ⟨BK3.out⟩, ⟨BK4.out⟩, ⟨HB.out⟩⟩
end Go.Proofs.Ytfimgecceneagaa.PAll
