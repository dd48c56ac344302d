/- The law StatsAll, its walk: where Table and near answer, it answers true. By hand (the drawn region's rows by drawn.py). -/
import Derived.Test.YtfimgecceneagaaPAllf11
import Derived.Test.YtfimgecceneagaaPAllf20
import Derived.Test.YtfimgecceneagaaPAllf21
import Derived.Test.YtfimgecceneagaaStAll
namespace Go.Proofs.Ytfimgecceneagaa.PAll
open Go.RowKit Go.Proofs.YtfimgecceneagaaW.PrintWords Go.Proofs.YtfimgecceneagaaW.PrintLast Go.Proofs.Ytfimgecceneagaa.Arr Go.Proofs.Ytfimgecceneagaa.Wp
set_option linter.unusedVariables false
set_option linter.unusedSimpArgs false
attribute [local go_sem high] eqA49
def sta.T9 : Bool × List (List Nat × List Nat) := (true, [([], []), ([0, 0], [0]), ([1], [1]), ([2, 1], [1, 2]), ([1], [1]), ([4, 1, 1], [1, 4]), ([3, 5, 1], [1, 3, 5]), ([1, 6], [1, 6]), ([7, 5], [7]), ([8], [8]), ([9, 8], [8, 9]), ([8], [8]), ([8], [8]), ([11, 12, 8, 8], [8, 11, 12]), ([13, 8], [8, 13]), ([10, 14, 8], [8, 10, 14]), ([8, 15], [8, 15]), ([16, 13, 0, 1, 2, 3, 4, 5, 6, 7, 8, 9, 10, 11, 12, 13, 14, 15, 16], [16])])
def sta.B9 : List Nat := [0, 1, 3, 7, 3, 19, 63, 127, 255, 511, 1023, 511, 511, 6655, 14847, 32767, 65535, 131071]
theorem sta.tab9 : rtab .any (opsOf Try.f9 9) = sta.T9 := by kernel_rfl
theorem sta.bits9 : waitsOk sta.T9.2 sta.B9 = true := by kernel_rfl
def dormouselaw26_StatsAll.f (k : Nat) (l0_0 : List (S66)) (l0_1 : List (S69)) (l0_2 : List (S72)) (a0_3 : Int) (a0_4 : Int) (a0_5 : Int) (a0_6 : Int) (a0_7 : Int) (a0_8 : Int) (l1 : List (S28)) (l2 : List (S63)) : Option (Bool) := (dormouseref01_Table.f k l0_0 l0_1 l0_2 a0_3 a0_4 a0_5 a0_6 a0_7 a0_8).bind fun t => (dormouselaw26_near.f k l1 l2).bind fun b => if b = true then (if l1.length ≤ 4096 then (if l2.length ≤ 4096 then ((dormouseref21_Cycles.f k l1).bind fun c => (dormouseref21_Sum.f k l0_0 l0_1 l0_2 a0_3 a0_4 a0_5 a0_6 a0_7 a0_8 l1).bind fun s => if c = cycF l1 then (if s.1 = engF l0_0 l0_1 a0_3 a0_6 l1 then some true else none) else none) else none) else none) else some true
set_option maxHeartbeats 16000000 in
set_option maxRecDepth 100000 in
theorem dormouselaw26_StatsAll.calls (k : Nat) (A0_0 : Option Addr) (c0_0 : Nat) (l0_0 : List (S66)) (A0_1 : Option Addr) (c0_1 : Nat) (l0_1 : List (S69)) (A0_2 : Option Addr) (c0_2 : Nat) (l0_2 : List (S72)) (a0_3 : Int) (a0_4 : Int) (a0_5 : Int) (a0_6 : Int) (a0_7 : Int) (a0_8 : Int) (A1 : Option Addr) (c1 : Nat) (l1 : List (S28)) (A2 : Option Addr) (c2 : Nat) (l2 : List (S63)) (w : World) (hr0_0 : Kd.C k66 w A0_0 l0_0.length l0_0) (hc0_0 : l0_0.length ≤ c0_0) (hr0_1 : Kd.C k69 w A0_1 l0_1.length l0_1) (hc0_1 : l0_1.length ≤ c0_1) (hr0_2 : Kd.C k72 w A0_2 l0_2.length l0_2) (hc0_2 : l0_2.length ≤ c0_2) (hr1 : Kd.C k28 w A1 l1.length l1) (hc1 : l1.length ≤ c1) (hr2 : Kd.C k63 w A2 l2.length l2) (hc2 : l2.length ≤ c2) (h : dormouselaw26_StatsAll.f k l0_0 l0_1 l0_2 a0_3 a0_4 a0_5 a0_6 a0_7 a0_8 l1 l2 = some true) :
    Calls Try.prog 9 #[.agg #[.slice A0_0 l0_0.length c0_0, .slice A0_1 l0_1.length c0_1, .slice A0_2 l0_2.length c0_2, .int .i64 a0_3, .int .i64 a0_4, .int .i64 a0_5, .int .i64 a0_6, .int .i64 a0_7, .int .i64 a0_8], .slice A1 l1.length c1, .slice A2 l2.length c2] w fun e w' => e = .returned (.bool true) ∧ Below w.heap.size w w' := by
  have hu26 := Try.underlying26
  have hu28 := Try.underlying28
  have hu63 := Try.underlying63
  have hu50 := Try.underlying50
  have hu49 := Try.underlying49
  have hu37 := Try.underlying37
  have hix : ∀ (a b c d : Int) (W : World), (Instr.index 37 (.agg #[.int .i64 a, .int .i64 b, .int .i64 c, .int .i64 d]) (.int .i64 0)).run Try.prog W = .ok (.int .i64 a) W := fun _ _ _ _ _ => by rfl
  have HR0_0 := Aside0.mk hr0_0
  have HC0_0 := Aside0.mk hc0_0
  have HR0_1 := Aside0.mk hr0_1
  have HC0_1 := Aside0.mk hc0_1
  have HR0_2 := Aside0.mk hr0_2
  have HC0_2 := Aside0.mk hc0_2
  have HR1 := Aside0.mk hr1
  have HC1 := Aside0.mk hc1
  have HR2 := Aside0.mk hr2
  have HC2 := Aside0.mk hc2
  clear hr0_0 hc0_0 hr0_1 hc0_1 hr0_2 hc0_2 hr1 hc1 hr2 hc2
  have HB := Aside0.mk (Below.refl w.heap.size w)
  unfold dormouselaw26_StatsAll.f at h
  obtain ⟨t, AT0, h⟩ := Option.bind_eq_some_iff.mp h
  obtain ⟨b, AN0, h⟩ := Option.bind_eq_some_iff.mp h
  have AT := Aside0.mk AT0
  have AN := Aside0.mk AN0
  clear AT0 AN0
  have hx := Aside0.mk h
  clear h
  go_enter Try.func9, Try.ntmps9
  cases t
  · go_wp2_with (first | ((with_reducible refine gate_dst (N := 3) rfl ?_); refine box_event ?hg (N := 3) ?hd (cs := #[.slice A0_0 l0_0.length c0_0, .slice A0_1 l0_1.length c0_1, .slice A0_2 l0_2.length c0_2, .int .i64 a0_3, .int .i64 a0_4, .int .i64 a0_5, .int .i64 a0_6, .int .i64 a0_7, .int .i64 a0_8]) (t := 26) ?hr ?_; (case hd => rfl); (case hg => rfl); (case hr => first | (go_simp; done) | (go_simp; rfl)); intro gp hg w2 hbox hb; have n0_ := Aside0.mk (below_step HB.out hb); have n1_ := Aside0.mk hbox; have n2_ := Aside0.mk ((by rw [hg]; exact (below_size HB.out)) : w.heap.size ≤ gp); clear HB; have HB := n0_; have BKp := n1_; have GEp := n2_; clear n0_ n1_ n2_; clear hb hbox hg; have z0 : w2.cell? ⟨gp, 0, none⟩ = some (.slice A0_0 l0_0.length c0_0) := (blk_cell BKp.out 0).trans rfl; have z1 : w2.cell? ⟨gp, 1, none⟩ = some (.slice A0_1 l0_1.length c0_1) := (blk_cell BKp.out 1).trans rfl; have z2 : w2.cell? ⟨gp, 2, none⟩ = some (.slice A0_2 l0_2.length c0_2) := (blk_cell BKp.out 2).trans rfl; have z3 : w2.cell? ⟨gp, 3, none⟩ = some (.int .i64 a0_3) := (blk_cell BKp.out 3).trans rfl; have z4 : w2.cell? ⟨gp, 4, none⟩ = some (.int .i64 a0_4) := (blk_cell BKp.out 4).trans rfl; have z5 : w2.cell? ⟨gp, 5, none⟩ = some (.int .i64 a0_5) := (blk_cell BKp.out 5).trans rfl; have z6 : w2.cell? ⟨gp, 6, none⟩ = some (.int .i64 a0_6) := (blk_cell BKp.out 6).trans rfl; have z7 : w2.cell? ⟨gp, 7, none⟩ = some (.int .i64 a0_7) := (blk_cell BKp.out 7).trans rfl; have z8 : w2.cell? ⟨gp, 8, none⟩ = some (.int .i64 a0_8) := (blk_cell BKp.out 8).trans rfl) | ((with_reducible refine gate_callee (f := 11) rfl ?_); refine goesL_ (some 10) rfl rfl Try.func11 (by kernel_rfl) rfl #[.agg #[.slice A0_0 l0_0.length c0_0, .slice A0_1 l0_1.length c0_1, .slice A0_2 l0_2.length c0_2, .int .i64 a0_3, .int .i64 a0_4, .int .i64 a0_5, .int .i64 a0_6, .int .i64 a0_7, .int .i64 a0_8]] rfl (by (try simp only [List.map_toArray, List.map_cons, List.map_nil]); first | done | rfl | (simp only [List.length_drop, List.length_take]; rfl)) ?_; (with_reducible refine (dormouseref01_Table.calls k _ _ l0_0 _ _ l0_1 _ _ l0_2 a0_3 a0_4 a0_5 a0_6 a0_7 a0_8 _ _ ?s1 ?s2 ?s3 ?s4 ?s5 ?s6 AT.out).mono ?_); (case s1 => exact Kd.C_below HR0_0.out HB.out); (case s2 => exact HC0_0.out); (case s3 => exact Kd.C_below HR0_1.out HB.out); (case s4 => exact HC0_1.out); (case s5 => exact Kd.C_below HR0_2.out HB.out); (case s6 => exact HC0_2.out); rintro e w5 ⟨rfl, hb⟩; refine ⟨_, rfl, ?_⟩; have n0_ := Aside0.mk (below_step HB.out hb); have n1_ := Aside0.mk (blk_below BKp.out hb); clear HB BKp hb; clear z0 z1 z2 z3 z4 z5 z6 z7 z8; have HB := n0_; have BKp := n1_; clear n0_ n1_; have z0 : w5.cell? ⟨gp, 0, none⟩ = some (.slice A0_0 l0_0.length c0_0) := (blk_cell BKp.out 0).trans rfl; have z1 : w5.cell? ⟨gp, 1, none⟩ = some (.slice A0_1 l0_1.length c0_1) := (blk_cell BKp.out 1).trans rfl; have z2 : w5.cell? ⟨gp, 2, none⟩ = some (.slice A0_2 l0_2.length c0_2) := (blk_cell BKp.out 2).trans rfl; have z3 : w5.cell? ⟨gp, 3, none⟩ = some (.int .i64 a0_3) := (blk_cell BKp.out 3).trans rfl; have z4 : w5.cell? ⟨gp, 4, none⟩ = some (.int .i64 a0_4) := (blk_cell BKp.out 4).trans rfl; have z5 : w5.cell? ⟨gp, 5, none⟩ = some (.int .i64 a0_5) := (blk_cell BKp.out 5).trans rfl; have z6 : w5.cell? ⟨gp, 6, none⟩ = some (.int .i64 a0_6) := (blk_cell BKp.out 6).trans rfl; have z7 : w5.cell? ⟨gp, 7, none⟩ = some (.int .i64 a0_7) := (blk_cell BKp.out 7).trans rfl; have z8 : w5.cell? ⟨gp, 8, none⟩ = some (.int .i64 a0_8) := (blk_cell BKp.out 8).trans rfl) | ((with_reducible refine gate_callee (f := 21) rfl ?_); refine goesL_ (some 18) rfl rfl Try.func21 (by kernel_rfl) rfl #[] rfl (by (try simp only [List.map_toArray, List.map_cons, List.map_nil]); first | done | rfl | (simp only [List.length_drop, List.length_take]; rfl)) ?_; (with_reducible refine (answers26.calls _).mono ?_); rintro e w30 ⟨rfl, hb⟩; refine ⟨_, rfl, ?_⟩))
    go_ret
    exact ⟨rfl, below_step (by repeat (first | (with_reducible exact HB.out) | (with_reducible first | apply below_alloc | apply pw_below_drewN | apply below_drew1))) hb⟩
  cases b
  · go_wp2_with (first | ((with_reducible refine gate_dst (N := 3) rfl ?_); refine box_event ?hg (N := 3) ?hd (cs := #[.slice A0_0 l0_0.length c0_0, .slice A0_1 l0_1.length c0_1, .slice A0_2 l0_2.length c0_2, .int .i64 a0_3, .int .i64 a0_4, .int .i64 a0_5, .int .i64 a0_6, .int .i64 a0_7, .int .i64 a0_8]) (t := 26) ?hr ?_; (case hd => rfl); (case hg => rfl); (case hr => first | (go_simp; done) | (go_simp; rfl)); intro gp hg w2 hbox hb; have n0_ := Aside0.mk (below_step HB.out hb); have n1_ := Aside0.mk hbox; have n2_ := Aside0.mk ((by rw [hg]; exact (below_size HB.out)) : w.heap.size ≤ gp); clear HB; have HB := n0_; have BKp := n1_; have GEp := n2_; clear n0_ n1_ n2_; clear hb hbox hg; have z0 : w2.cell? ⟨gp, 0, none⟩ = some (.slice A0_0 l0_0.length c0_0) := (blk_cell BKp.out 0).trans rfl; have z1 : w2.cell? ⟨gp, 1, none⟩ = some (.slice A0_1 l0_1.length c0_1) := (blk_cell BKp.out 1).trans rfl; have z2 : w2.cell? ⟨gp, 2, none⟩ = some (.slice A0_2 l0_2.length c0_2) := (blk_cell BKp.out 2).trans rfl; have z3 : w2.cell? ⟨gp, 3, none⟩ = some (.int .i64 a0_3) := (blk_cell BKp.out 3).trans rfl; have z4 : w2.cell? ⟨gp, 4, none⟩ = some (.int .i64 a0_4) := (blk_cell BKp.out 4).trans rfl; have z5 : w2.cell? ⟨gp, 5, none⟩ = some (.int .i64 a0_5) := (blk_cell BKp.out 5).trans rfl; have z6 : w2.cell? ⟨gp, 6, none⟩ = some (.int .i64 a0_6) := (blk_cell BKp.out 6).trans rfl; have z7 : w2.cell? ⟨gp, 7, none⟩ = some (.int .i64 a0_7) := (blk_cell BKp.out 7).trans rfl; have z8 : w2.cell? ⟨gp, 8, none⟩ = some (.int .i64 a0_8) := (blk_cell BKp.out 8).trans rfl) | ((with_reducible refine gate_callee (f := 11) rfl ?_); refine goesL_ (some 10) rfl rfl Try.func11 (by kernel_rfl) rfl #[.agg #[.slice A0_0 l0_0.length c0_0, .slice A0_1 l0_1.length c0_1, .slice A0_2 l0_2.length c0_2, .int .i64 a0_3, .int .i64 a0_4, .int .i64 a0_5, .int .i64 a0_6, .int .i64 a0_7, .int .i64 a0_8]] rfl (by (try simp only [List.map_toArray, List.map_cons, List.map_nil]); first | done | rfl | (simp only [List.length_drop, List.length_take]; rfl)) ?_; (with_reducible refine (dormouseref01_Table.calls k _ _ l0_0 _ _ l0_1 _ _ l0_2 a0_3 a0_4 a0_5 a0_6 a0_7 a0_8 _ _ ?s1 ?s2 ?s3 ?s4 ?s5 ?s6 AT.out).mono ?_); (case s1 => exact Kd.C_below HR0_0.out HB.out); (case s2 => exact HC0_0.out); (case s3 => exact Kd.C_below HR0_1.out HB.out); (case s4 => exact HC0_1.out); (case s5 => exact Kd.C_below HR0_2.out HB.out); (case s6 => exact HC0_2.out); rintro e w5 ⟨rfl, hb⟩; refine ⟨_, rfl, ?_⟩; have n0_ := Aside0.mk (below_step HB.out hb); have n1_ := Aside0.mk (blk_below BKp.out hb); clear HB BKp hb; clear z0 z1 z2 z3 z4 z5 z6 z7 z8; have HB := n0_; have BKp := n1_; clear n0_ n1_; have z0 : w5.cell? ⟨gp, 0, none⟩ = some (.slice A0_0 l0_0.length c0_0) := (blk_cell BKp.out 0).trans rfl; have z1 : w5.cell? ⟨gp, 1, none⟩ = some (.slice A0_1 l0_1.length c0_1) := (blk_cell BKp.out 1).trans rfl; have z2 : w5.cell? ⟨gp, 2, none⟩ = some (.slice A0_2 l0_2.length c0_2) := (blk_cell BKp.out 2).trans rfl; have z3 : w5.cell? ⟨gp, 3, none⟩ = some (.int .i64 a0_3) := (blk_cell BKp.out 3).trans rfl; have z4 : w5.cell? ⟨gp, 4, none⟩ = some (.int .i64 a0_4) := (blk_cell BKp.out 4).trans rfl; have z5 : w5.cell? ⟨gp, 5, none⟩ = some (.int .i64 a0_5) := (blk_cell BKp.out 5).trans rfl; have z6 : w5.cell? ⟨gp, 6, none⟩ = some (.int .i64 a0_6) := (blk_cell BKp.out 6).trans rfl; have z7 : w5.cell? ⟨gp, 7, none⟩ = some (.int .i64 a0_7) := (blk_cell BKp.out 7).trans rfl; have z8 : w5.cell? ⟨gp, 8, none⟩ = some (.int .i64 a0_8) := (blk_cell BKp.out 8).trans rfl) | ((with_reducible refine gate_callee (f := 20) rfl ?_); (try (refine gate_guard (by rfl) ?_; dsimp only)); refine goesL_ (some 15) rfl rfl Try.func20 (by kernel_rfl) rfl #[.slice A1 l1.length c1, .slice A2 l2.length c2] rfl (by (try simp only [List.map_toArray, List.map_cons, List.map_nil]); first | done | rfl | (simp only [List.length_drop, List.length_take]; rfl)) ?_; (with_reducible refine (dormouselaw26_near.calls k _ _ l1 _ _ l2 _ _ ?s7 ?s8 ?s9 ?s10 AN.out).mono ?_); (case s7 => exact Kd.C_below HR1.out HB.out); (case s8 => exact HC1.out); (case s9 => exact Kd.C_below HR2.out HB.out); (case s10 => exact HC2.out); rintro e w6 ⟨rfl, ⟨nd, rfl⟩⟩; refine ⟨_, rfl, ?_⟩) | ((with_reducible refine gate_callee (f := 21) rfl ?_); refine goesL_ (some 18) rfl rfl Try.func21 (by kernel_rfl) rfl #[] rfl (by (try simp only [List.map_toArray, List.map_cons, List.map_nil]); first | done | rfl | (simp only [List.length_drop, List.length_take]; rfl)) ?_; (with_reducible refine (answers26.calls _).mono ?_); rintro e w30 ⟨rfl, hb⟩; refine ⟨_, rfl, ?_⟩))
    go_ret
    exact ⟨rfl, below_step (by repeat (first | (with_reducible exact HB.out) | (with_reducible first | apply below_alloc | apply pw_below_drewN | apply below_drew1))) hb⟩
  have LN0 : (l1.length ≤ 4096 ∧ l2.length ≤ 4096) ∧ dormouseref21_Cycles.f k l1 = some (cycF l1) ∧ ∃ s1 s2 s3, dormouseref21_Sum.f k l0_0 l0_1 l0_2 a0_3 a0_4 a0_5 a0_6 a0_7 a0_8 l1 = some (engF l0_0 l0_1 a0_3 a0_6 l1, s1, s2, s3) := by
    have q := hx.out
    rw [if_pos rfl] at q
    by_cases q1 : l1.length ≤ 4096
    case neg => rw [if_neg q1] at q; cases q
    rw [if_pos q1] at q
    by_cases q2 : l2.length ≤ 4096
    case neg => rw [if_neg q2] at q; cases q
    rw [if_pos q2] at q
    obtain ⟨c, hc, q⟩ := Option.bind_eq_some_iff.mp q
    obtain ⟨⟨s0, s1, s2, s3⟩, hs, q⟩ := Option.bind_eq_some_iff.mp q
    by_cases q3 : c = cycF l1
    case neg => rw [if_neg q3] at q; cases q
    rw [if_pos q3] at q
    by_cases q4 : s0 = engF l0_0 l0_1 a0_3 a0_6 l1
    case neg => rw [if_neg q4] at q; cases q
    subst q3 q4
    exact ⟨⟨q1, q2⟩, hc, s1, s2, s3, hs⟩
  obtain ⟨LN1, AC0, s1, s2, s3, AS0⟩ := LN0
  have LN := Aside0.mk LN1
  have C0_ : ∃ C, Aside0 (C = cycF l1) := ⟨_, ⟨rfl⟩⟩
  obtain ⟨C, hC⟩ := C0_
  have G0_ : ∃ G, Aside0 (G = engF l0_0 l0_1 a0_3 a0_6 l1) := ⟨_, ⟨rfl⟩⟩
  obtain ⟨G, hG⟩ := G0_
  rw [← hC.out] at AC0
  rw [← hG.out] at AS0
  have AC := Aside0.mk AC0
  have AS := Aside0.mk AS0
  clear LN1 AC0 AS0 hx
  go_upto_region 3 with (first | ((with_reducible refine gate_dst (N := 3) rfl ?_); refine box_event ?hg (N := 3) ?hd (cs := #[.slice A0_0 l0_0.length c0_0, .slice A0_1 l0_1.length c0_1, .slice A0_2 l0_2.length c0_2, .int .i64 a0_3, .int .i64 a0_4, .int .i64 a0_5, .int .i64 a0_6, .int .i64 a0_7, .int .i64 a0_8]) (t := 26) ?hr ?_; (case hd => rfl); (case hg => rfl); (case hr => first | (go_simp; done) | (go_simp; rfl)); intro gp hg w2 hbox hb; have n0_ := Aside0.mk (below_step HB.out hb); have n1_ := Aside0.mk hbox; have n2_ := Aside0.mk ((by rw [hg]; exact (below_size HB.out)) : w.heap.size ≤ gp); clear HB; have HB := n0_; have BKp := n1_; have GEp := n2_; clear n0_ n1_ n2_; clear hb hbox hg; have z0 : w2.cell? ⟨gp, 0, none⟩ = some (.slice A0_0 l0_0.length c0_0) := (blk_cell BKp.out 0).trans rfl; have z1 : w2.cell? ⟨gp, 1, none⟩ = some (.slice A0_1 l0_1.length c0_1) := (blk_cell BKp.out 1).trans rfl; have z2 : w2.cell? ⟨gp, 2, none⟩ = some (.slice A0_2 l0_2.length c0_2) := (blk_cell BKp.out 2).trans rfl; have z3 : w2.cell? ⟨gp, 3, none⟩ = some (.int .i64 a0_3) := (blk_cell BKp.out 3).trans rfl; have z4 : w2.cell? ⟨gp, 4, none⟩ = some (.int .i64 a0_4) := (blk_cell BKp.out 4).trans rfl; have z5 : w2.cell? ⟨gp, 5, none⟩ = some (.int .i64 a0_5) := (blk_cell BKp.out 5).trans rfl; have z6 : w2.cell? ⟨gp, 6, none⟩ = some (.int .i64 a0_6) := (blk_cell BKp.out 6).trans rfl; have z7 : w2.cell? ⟨gp, 7, none⟩ = some (.int .i64 a0_7) := (blk_cell BKp.out 7).trans rfl; have z8 : w2.cell? ⟨gp, 8, none⟩ = some (.int .i64 a0_8) := (blk_cell BKp.out 8).trans rfl) | ((with_reducible refine gate_callee (f := 11) rfl ?_); refine goesL_ (some 10) rfl rfl Try.func11 (by kernel_rfl) rfl #[.agg #[.slice A0_0 l0_0.length c0_0, .slice A0_1 l0_1.length c0_1, .slice A0_2 l0_2.length c0_2, .int .i64 a0_3, .int .i64 a0_4, .int .i64 a0_5, .int .i64 a0_6, .int .i64 a0_7, .int .i64 a0_8]] rfl (by (try simp only [List.map_toArray, List.map_cons, List.map_nil]); first | done | rfl | (simp only [List.length_drop, List.length_take]; rfl)) ?_; (with_reducible refine (dormouseref01_Table.calls k _ _ l0_0 _ _ l0_1 _ _ l0_2 a0_3 a0_4 a0_5 a0_6 a0_7 a0_8 _ _ ?s1 ?s2 ?s3 ?s4 ?s5 ?s6 AT.out).mono ?_); (case s1 => exact Kd.C_below HR0_0.out HB.out); (case s2 => exact HC0_0.out); (case s3 => exact Kd.C_below HR0_1.out HB.out); (case s4 => exact HC0_1.out); (case s5 => exact Kd.C_below HR0_2.out HB.out); (case s6 => exact HC0_2.out); rintro e w5 ⟨rfl, hb⟩; refine ⟨_, rfl, ?_⟩; have n0_ := Aside0.mk (below_step HB.out hb); have n1_ := Aside0.mk (blk_below BKp.out hb); clear HB BKp hb; clear z0 z1 z2 z3 z4 z5 z6 z7 z8; have HB := n0_; have BKp := n1_; clear n0_ n1_; have z0 : w5.cell? ⟨gp, 0, none⟩ = some (.slice A0_0 l0_0.length c0_0) := (blk_cell BKp.out 0).trans rfl; have z1 : w5.cell? ⟨gp, 1, none⟩ = some (.slice A0_1 l0_1.length c0_1) := (blk_cell BKp.out 1).trans rfl; have z2 : w5.cell? ⟨gp, 2, none⟩ = some (.slice A0_2 l0_2.length c0_2) := (blk_cell BKp.out 2).trans rfl; have z3 : w5.cell? ⟨gp, 3, none⟩ = some (.int .i64 a0_3) := (blk_cell BKp.out 3).trans rfl; have z4 : w5.cell? ⟨gp, 4, none⟩ = some (.int .i64 a0_4) := (blk_cell BKp.out 4).trans rfl; have z5 : w5.cell? ⟨gp, 5, none⟩ = some (.int .i64 a0_5) := (blk_cell BKp.out 5).trans rfl; have z6 : w5.cell? ⟨gp, 6, none⟩ = some (.int .i64 a0_6) := (blk_cell BKp.out 6).trans rfl; have z7 : w5.cell? ⟨gp, 7, none⟩ = some (.int .i64 a0_7) := (blk_cell BKp.out 7).trans rfl; have z8 : w5.cell? ⟨gp, 8, none⟩ = some (.int .i64 a0_8) := (blk_cell BKp.out 8).trans rfl) | ((with_reducible refine gate_callee (f := 20) rfl ?_); (try (refine gate_guard (by rfl) ?_; dsimp only)); refine goesL_ (some 15) rfl rfl Try.func20 (by kernel_rfl) rfl #[.slice A1 l1.length c1, .slice A2 l2.length c2] rfl (by (try simp only [List.map_toArray, List.map_cons, List.map_nil]); first | done | rfl | (simp only [List.length_drop, List.length_take]; rfl)) ?_; (with_reducible refine (dormouselaw26_near.calls k _ _ l1 _ _ l2 _ _ ?s7 ?s8 ?s9 ?s10 AN.out).mono ?_); (case s7 => exact Kd.C_below HR1.out HB.out); (case s8 => exact HC1.out); (case s9 => exact Kd.C_below HR2.out HB.out); (case s10 => exact HC2.out); rintro e w6 ⟨rfl, ⟨nd, rfl⟩⟩; refine ⟨_, rfl, ?_⟩))
  have m0_ : Aside0 (Below w.heap.size w (w5.drewN nd)) := ⟨by repeat (first | (with_reducible exact HB.out) | (with_reducible first | apply below_alloc | apply pw_below_drewN | apply below_drew1))⟩
  have m1_ : Aside0 ((w5.drewN nd).heap[gp]? = some (.cells #[.slice A0_0 l0_0.length c0_0, .slice A0_1 l0_1.length c0_1, .slice A0_2 l0_2.length c0_2, .int .i64 a0_3, .int .i64 a0_4, .int .i64 a0_5, .int .i64 a0_6, .int .i64 a0_7, .int .i64 a0_8] 26 (0, 0))) := ⟨blk_drewN BKp.out nd⟩
  clear HB BKp
  clear z0 z1 z2 z3 z4 z5 z6 z7 z8
  have HB := m0_; have BKp := m1_; clear m0_ m1_
  generalize w5.drewN nd = w6 at HB BKp ⊢
  have z0 : w6.cell? ⟨gp, 0, none⟩ = some (.slice A0_0 l0_0.length c0_0) := (blk_cell BKp.out 0).trans rfl
  have z1 : w6.cell? ⟨gp, 1, none⟩ = some (.slice A0_1 l0_1.length c0_1) := (blk_cell BKp.out 1).trans rfl
  have z2 : w6.cell? ⟨gp, 2, none⟩ = some (.slice A0_2 l0_2.length c0_2) := (blk_cell BKp.out 2).trans rfl
  have z3 : w6.cell? ⟨gp, 3, none⟩ = some (.int .i64 a0_3) := (blk_cell BKp.out 3).trans rfl
  have z4 : w6.cell? ⟨gp, 4, none⟩ = some (.int .i64 a0_4) := (blk_cell BKp.out 4).trans rfl
  have z5 : w6.cell? ⟨gp, 5, none⟩ = some (.int .i64 a0_5) := (blk_cell BKp.out 5).trans rfl
  have z6 : w6.cell? ⟨gp, 6, none⟩ = some (.int .i64 a0_6) := (blk_cell BKp.out 6).trans rfl
  have z7 : w6.cell? ⟨gp, 7, none⟩ = some (.int .i64 a0_7) := (blk_cell BKp.out 7).trans rfl
  have z8 : w6.cell? ⟨gp, 8, none⟩ = some (.int .i64 a0_8) := (blk_cell BKp.out 8).trans rfl
  go_wp2
  go_loopg [7] (l1.length + 1) (fun kq v7 w' => ∃ (i : Int), v7 = .int .i64 i ∧ Aside0 (0 ≤ i ∧ (kq : Int) + i = l1.length + 1) ∧ Aside0 (∀ j : Int, 0 ≤ j → j < i → okI (rd_T28 l1 j)) ∧ Aside0 (w'.heap[gp]? = some (.cells #[.slice A0_0 l0_0.length c0_0, .slice A0_1 l0_1.length c0_1, .slice A0_2 l0_2.length c0_2, .int .i64 a0_3, .int .i64 a0_4, .int .i64 a0_5, .int .i64 a0_6, .int .i64 a0_7, .int .i64 a0_8] 26 (0, 0))) ∧ Aside0 (Below w.heap.size w w'))
  case atStart => exact ⟨0, rfl, ⟨by omega, by omega⟩, ⟨fun j _ _ => by omega⟩, ⟨BKp.out⟩, ⟨HB.out⟩⟩
  case round =>
  clear z0 z1 z2 z3 z4 z5 z6 z7 z8
  clear BKp HB
  obtain ⟨i, rfl, HI, HO, BKp, HB⟩ := hrel
  have hi0 := HI.out.1
  by_cases c : i < (l1.length : Int)
  case neg =>
    have c0 : decide (i < (l1.length : Int)) = false := decide_eq_false c
    have HE : Aside0 (totF (tasksV l0_0 l0_1 a0_3 a0_6 l1 l2) 3 6 = C ∧ totF (tasksV l0_0 l0_1 a0_3 a0_6 l1 l2) 4 6 = G) := ⟨by rw [hC.out, hG.out]; exact all_six l0_0 l0_1 a0_3 a0_6 l1 l2 (all_ok l1 (fun j j0 j1 => HO.out j j0 (by omega)))⟩
    clear HI hi0 c HO
    have z0 : wr.cell? ⟨gp, 0, none⟩ = some (.slice A0_0 l0_0.length c0_0) := (blk_cell BKp.out 0).trans rfl
    have z1 : wr.cell? ⟨gp, 1, none⟩ = some (.slice A0_1 l0_1.length c0_1) := (blk_cell BKp.out 1).trans rfl
    have z2 : wr.cell? ⟨gp, 2, none⟩ = some (.slice A0_2 l0_2.length c0_2) := (blk_cell BKp.out 2).trans rfl
    have z3 : wr.cell? ⟨gp, 3, none⟩ = some (.int .i64 a0_3) := (blk_cell BKp.out 3).trans rfl
    have z4 : wr.cell? ⟨gp, 4, none⟩ = some (.int .i64 a0_4) := (blk_cell BKp.out 4).trans rfl
    have z5 : wr.cell? ⟨gp, 5, none⟩ = some (.int .i64 a0_5) := (blk_cell BKp.out 5).trans rfl
    have z6 : wr.cell? ⟨gp, 6, none⟩ = some (.int .i64 a0_6) := (blk_cell BKp.out 6).trans rfl
    have z7 : wr.cell? ⟨gp, 7, none⟩ = some (.int .i64 a0_7) := (blk_cell BKp.out 7).trans rfl
    have z8 : wr.cell? ⟨gp, 8, none⟩ = some (.int .i64 a0_8) := (blk_cell BKp.out 8).trans rfl
    go_upto_region 9 with (first | ((with_reducible refine gate_callee (f := 22) rfl ?_); refine goesL_ (some 51) rfl rfl Try.func22 (by kernel_rfl) rfl #[.agg #[.slice A0_0 l0_0.length c0_0, .slice A0_1 l0_1.length c0_1, .slice A0_2 l0_2.length c0_2, .int .i64 a0_3, .int .i64 a0_4, .int .i64 a0_5, .int .i64 a0_6, .int .i64 a0_7, .int .i64 a0_8], .slice A1 l1.length c1, .slice A2 l2.length c2] rfl (by (try simp only [List.map_toArray, List.map_cons, List.map_nil]); first | done | rfl | (simp only [List.length_drop, List.length_take]; rfl)) ?_; (with_reducible refine (stats_Tasks.calls _ _ l0_0 _ _ l0_1 _ _ l0_2 a0_3 a0_4 a0_5 a0_6 a0_7 a0_8 _ _ l1 _ _ l2 _ ?s1 ?s2 ?s3 ?s4 ?s5 ?s6 ?s7 ?s8 ?s9 ?s10 ?s11 ?s12).mono ?_); (case s1 => exact Kd.C_below HR0_0.out HB.out); (case s2 => exact HC0_0.out); (case s3 => exact Kd.C_below HR0_1.out HB.out); (case s4 => exact HC0_1.out); (case s5 => exact Kd.C_below HR0_2.out HB.out); (case s6 => exact HC0_2.out); (case s7 => exact Kd.C_below HR1.out HB.out); (case s8 => exact HC1.out); (case s9 => exact Kd.C_below HR2.out HB.out); (case s10 => exact HC2.out); (case s11 => have := LN.out.1; omega); (case s12 => have := LN.out.2; omega); rintro e w7 ⟨rfl, hb⟩; refine ⟨_, rfl, ?_⟩; have n0_ := Aside0.mk (below_step HB.out hb); have n1_ := Aside0.mk (blk_below BKp.out hb); clear HB BKp hb; clear z0 z1 z2 z3 z4 z5 z6 z7 z8; have HB := n0_; have BKp := n1_; clear n0_ n1_; obtain ⟨V, hV⟩ : ∃ V, Aside0 (V = (tasksV l0_0 l0_1 a0_3 a0_6 l1 l2)) := ⟨_, ⟨rfl⟩⟩; rw [← hV.out]; have E3 : Aside0 (totF V 3 6 = C) := ⟨by rw [hV.out]; exact HE.out.1⟩; have E4 : Aside0 (totF V 4 6 = G) := ⟨by rw [hV.out]; exact HE.out.2⟩; obtain ⟨cs, hcs⟩ : ∃ cs, Aside0 (cs = arrN 36 V) := ⟨_, ⟨rfl⟩⟩; rw [← hcs.out]; have hsz : Aside0 (cs.size = 36) := ⟨by rw [hcs.out, arrN_size]⟩) | ((with_reducible refine gate_callee (f := 25) rfl ?_); refine goesL_ (some 52) rfl rfl Try.func25 (by kernel_rfl) rfl #[.agg cs] rfl (by (try simp only [List.map_toArray, List.map_cons, List.map_nil]); first | done | rfl | (simp only [List.length_drop, List.length_take]; rfl)) ?_; rw [hcs.out]; (with_reducible refine (stats_Total.calls _ _).mono ?_); rintro e w9 ⟨rfl, hb⟩; refine ⟨_, rfl, ?_⟩; rw [E3.out, E4.out]; have n0_ := Aside0.mk (below_step HB.out hb); have n1_ := Aside0.mk (blk_below BKp.out hb); clear HB BKp hb; have HB := n0_; have BKp := n1_; clear n0_ n1_) | ((with_reducible refine gate_dst (N := 8) rfl ?_); refine box_event ?hg (N := 8) ?hd (cs := #[.int .i64 0, .int .i64 0, .int .i64 0, .int .i64 0, .int .i64 0, .int .i64 0]) (t := 49) ?hr ?_; (case hd => rfl); (case hg => rfl); (case hr => first | (go_simp; done) | (go_simp; rfl)); intro g8 hg w12 hbox hb; have n0_ := Aside0.mk (below_step HB.out hb); have n1_ := Aside0.mk hbox; have n2_ := Aside0.mk ((by rw [hg]; exact (below_size HB.out)) : w.heap.size ≤ g8); have n3_ := Aside0.mk (blk_below BKp.out hb); have npg : gp ≠ g8 := (by have := blk_lt BKp.out; omega); clear HB BKp; have HB := n0_; have BK8 := n1_; have GE8 := n2_; have BKp := n3_; clear n0_ n1_ n2_ n3_; clear hb hbox hg; have u0 : w12.cell? ⟨g8, 0, none⟩ = some (.int .i64 0) := (blk_cell BK8.out 0).trans rfl; have v0 := blk_frozen BK8.out 0; have u1 : w12.cell? ⟨g8, 1, none⟩ = some (.int .i64 0) := (blk_cell BK8.out 1).trans rfl; have v1 := blk_frozen BK8.out 1; have u2 : w12.cell? ⟨g8, 2, none⟩ = some (.int .i64 0) := (blk_cell BK8.out 2).trans rfl; have v2 := blk_frozen BK8.out 2; have u3 : w12.cell? ⟨g8, 3, none⟩ = some (.int .i64 0) := (blk_cell BK8.out 3).trans rfl; have v3 := blk_frozen BK8.out 3; have u4 : w12.cell? ⟨g8, 4, none⟩ = some (.int .i64 0) := (blk_cell BK8.out 4).trans rfl; have v4 := blk_frozen BK8.out 4; have u5 : w12.cell? ⟨g8, 5, none⟩ = some (.int .i64 0) := (blk_cell BK8.out 5).trans rfl; have v5 := blk_frozen BK8.out 5))
    have m0_ : Aside0 ((((((((w12.setCell ⟨g8, 0, none⟩ (.int .i64 (totF V 0 6))).setCell ⟨g8, 1, none⟩ (.int .i64 (totF V 1 6))).setCell ⟨g8, 2, none⟩ (.int .i64 (totF V 2 6))).setCell ⟨g8, 3, none⟩ (.int .i64 C)).setCell ⟨g8, 4, none⟩ (.int .i64 G)).setCell ⟨g8, 5, none⟩ (.int .i64 (totM V 6)))).heap[g8]? = some (.cells #[.int .i64 (totF V 0 6), .int .i64 (totF V 1 6), .int .i64 (totF V 2 6), .int .i64 C, .int .i64 G, .int .i64 (totM V 6)] 49 (0, 0))) := ⟨by refine blk_put (cs := #[.int .i64 (totF V 0 6), .int .i64 (totF V 1 6), .int .i64 (totF V 2 6), .int .i64 C, .int .i64 G, .int .i64 0]) ?_ 5 _ rfl; refine blk_put (cs := #[.int .i64 (totF V 0 6), .int .i64 (totF V 1 6), .int .i64 (totF V 2 6), .int .i64 C, .int .i64 0, .int .i64 0]) ?_ 4 _ rfl; refine blk_put (cs := #[.int .i64 (totF V 0 6), .int .i64 (totF V 1 6), .int .i64 (totF V 2 6), .int .i64 0, .int .i64 0, .int .i64 0]) ?_ 3 _ rfl; refine blk_put (cs := #[.int .i64 (totF V 0 6), .int .i64 (totF V 1 6), .int .i64 0, .int .i64 0, .int .i64 0, .int .i64 0]) ?_ 2 _ rfl; refine blk_put (cs := #[.int .i64 (totF V 0 6), .int .i64 0, .int .i64 0, .int .i64 0, .int .i64 0, .int .i64 0]) ?_ 1 _ rfl; refine blk_put (cs := #[.int .i64 0, .int .i64 0, .int .i64 0, .int .i64 0, .int .i64 0, .int .i64 0]) ?_ 0 _ rfl; exact BK8.out⟩
    have m1_ : Aside0 ((((((((w12.setCell ⟨g8, 0, none⟩ (.int .i64 (totF V 0 6))).setCell ⟨g8, 1, none⟩ (.int .i64 (totF V 1 6))).setCell ⟨g8, 2, none⟩ (.int .i64 (totF V 2 6))).setCell ⟨g8, 3, none⟩ (.int .i64 C)).setCell ⟨g8, 4, none⟩ (.int .i64 G)).setCell ⟨g8, 5, none⟩ (.int .i64 (totM V 6)))).heap[gp]? = some (.cells #[.slice A0_0 l0_0.length c0_0, .slice A0_1 l0_1.length c0_1, .slice A0_2 l0_2.length c0_2, .int .i64 a0_3, .int .i64 a0_4, .int .i64 a0_5, .int .i64 a0_6, .int .i64 a0_7, .int .i64 a0_8] 26 (0, 0))) := ⟨by repeat (first | (with_reducible exact BKp.out) | (with_reducible refine blk_far ?_ npg _))⟩
    have m2_ : Aside0 (Below w.heap.size w (((((((w12.setCell ⟨g8, 0, none⟩ (.int .i64 (totF V 0 6))).setCell ⟨g8, 1, none⟩ (.int .i64 (totF V 1 6))).setCell ⟨g8, 2, none⟩ (.int .i64 (totF V 2 6))).setCell ⟨g8, 3, none⟩ (.int .i64 C)).setCell ⟨g8, 4, none⟩ (.int .i64 G)).setCell ⟨g8, 5, none⟩ (.int .i64 (totM V 6))))) := ⟨by repeat (first | (with_reducible exact HB.out) | (with_reducible refine below_set ?_ GE8.out))⟩
    clear BK8 BKp HB u0 u1 u2 u3 u4 u5 v0 v1 v2 v3 v4 v5
    have BK8 := m0_; have BKp := m1_; have HB := m2_; clear m0_ m1_ m2_
    generalize (((((((w12.setCell ⟨g8, 0, none⟩ (.int .i64 (totF V 0 6))).setCell ⟨g8, 1, none⟩ (.int .i64 (totF V 1 6))).setCell ⟨g8, 2, none⟩ (.int .i64 (totF V 2 6))).setCell ⟨g8, 3, none⟩ (.int .i64 C)).setCell ⟨g8, 4, none⟩ (.int .i64 G)).setCell ⟨g8, 5, none⟩ (.int .i64 (totM V 6)))) = w13 at BK8 BKp HB ⊢
    refine start_ (n := 18) (S := fun w' => w'.cell? ⟨g8, 3, none⟩ = some (.int .i64 C) ∧ w'.cell? ⟨g8, 4, none⟩ = some (.int .i64 G) ∧ w'.cell? ⟨gp, 0, none⟩ = some (.slice A0_0 l0_0.length c0_0) ∧ w'.cell? ⟨gp, 1, none⟩ = some (.slice A0_1 l0_1.length c0_1) ∧ w'.cell? ⟨gp, 2, none⟩ = some (.slice A0_2 l0_2.length c0_2) ∧ w'.cell? ⟨gp, 3, none⟩ = some (.int .i64 a0_3) ∧ w'.cell? ⟨gp, 4, none⟩ = some (.int .i64 a0_4) ∧ w'.cell? ⟨gp, 5, none⟩ = some (.int .i64 a0_5) ∧ w'.cell? ⟨gp, 6, none⟩ = some (.int .i64 a0_6) ∧ w'.cell? ⟨gp, 7, none⟩ = some (.int .i64 a0_7) ∧ w'.cell? ⟨gp, 8, none⟩ = some (.int .i64 a0_8)) (ds := []) #[false, false, false, false, false, false, false, false, false, false, false, false, false, false, false, false, false, false] (by kernel_rfl) rfl rfl ⟨(blk_cell (blk_drew BK8.out) 3).trans rfl, (blk_cell (blk_drew BK8.out) 4).trans rfl, (blk_cell (blk_drew BKp.out) 0).trans rfl, (blk_cell (blk_drew BKp.out) 1).trans rfl, (blk_cell (blk_drew BKp.out) 2).trans rfl, (blk_cell (blk_drew BKp.out) 3).trans rfl, (blk_cell (blk_drew BKp.out) 4).trans rfl, (blk_cell (blk_drew BKp.out) 5).trans rfl, (blk_cell (blk_drew BKp.out) 6).trans rfl, (blk_cell (blk_drew BKp.out) 7).trans rfl, (blk_cell (blk_drew BKp.out) 8).trans rfl⟩ (fun hHeld => ?_); refine with_tabW sta.tab9 sta.bits9 (fun HT_ HW_ => ?_)
    have n0_ := Aside0.mk (blk_drew BK8.out); have n1_ := Aside0.mk (blk_drew BKp.out); have n2_ := Aside0.mk (HB.out.drew); clear BK8 BKp HB; have BK8 := n0_; have BKp := n1_; have HB := n2_; clear n0_ n1_ n2_; generalize w13.drew = w19 at BK8 BKp HB hHeld ⊢
    -- ONE 0
    refine one_ (i := 0) (N := some 53) #[true, false, false, false, false, false, false, false, false, false, false, false, false, false, false, false, false, false] rfl rfl (one_of HT_.out (by kernel_rfl)) (by decide) (fun K hK => ?_)
    refine goes_ Try.func21 (by kernel_rfl) rfl #[] (by rfl) rfl rfl (by (try simp only [List.map_toArray, List.map_cons, List.map_nil]); first | done | rfl | (simp only [List.length_drop, List.length_take]; rfl)) ?_
    with_reducible refine (answers26.calls _).mono ?_
    rintro e w20 ⟨rfl, hb⟩
    refine ⟨_, rfl, ?_⟩
    have n0_ := Aside0.mk (blk_below BK8.out hb); have n1_ := Aside0.mk (blk_below BKp.out hb); have n2_ := Aside0.mk (below_step HB.out hb); clear BK8 BKp HB hb; have BK8 := n0_; have BKp := n1_; have HB := n2_; clear n0_ n1_ n2_
    refine hK.out _ _ ⟨(blk_cell BK8.out 3).trans rfl, (blk_cell BK8.out 4).trans rfl, (blk_cell BKp.out 0).trans rfl, (blk_cell BKp.out 1).trans rfl, (blk_cell BKp.out 2).trans rfl, (blk_cell BKp.out 3).trans rfl, (blk_cell BKp.out 4).trans rfl, (blk_cell BKp.out 5).trans rfl, (blk_cell BKp.out 6).trans rfl, (blk_cell BKp.out 7).trans rfl, (blk_cell BKp.out 8).trans rfl⟩ (fun hHeld => ?_)
    clear hK K
    refine norm_ (a' := ?_) ?_ ?_
    rotate_left
    · show Act.put _ (some 53) _ = _
      simp only [Act.put, List.setIfInBounds_toArray, List.set_cons_zero, List.set_cons_succ, i64_w, i32_w]
      rfl
    refine pure_ (i := 1) (N := some 54) (v := ?_) (a' := ?_) #[true, true, false, false, false, false, false, false, false, false, false, false, false, false, false, false, false, false] rfl rfl (any_of HT_.out (by kernel_rfl)) (fun _ _ _ h => h) (Or.inl ⟨by rfl, ?_⟩) ?_ ?_; rotate_left; (· (intro w'; go_simp; with_reducible rfl)); rotate_left; (· (simp only [Act.put, List.setIfInBounds_toArray, List.set_cons_zero, List.set_cons_succ, i64_w, i32_w]; rfl))
    refine pure_ (i := 2) (N := some 55) (v := ?_) (a' := ?_) #[true, true, true, false, false, false, false, false, false, false, false, false, false, false, false, false, false, false] rfl rfl (any_of HT_.out (by kernel_rfl)) (fun _ _ _ h => h) (Or.inl ⟨by rfl, ?_⟩) ?_ ?_; rotate_left; (· (intro w'; go_simp; with_reducible rfl)); rotate_left; (· (simp only [Act.put, List.setIfInBounds_toArray, List.set_cons_zero, List.set_cons_succ, i64_w, i32_w]; rfl))
    refine pure_ (i := 4) (N := some 57) (v := ?_) (a' := ?_) #[true, true, true, false, true, false, false, false, false, false, false, false, false, false, false, false, false, false] rfl rfl (any_of HT_.out (by kernel_rfl)) (fun _ _ _ h => h) (Or.inl ⟨by rfl, ?_⟩) ?_ ?_; rotate_left; (· (intro w'; go_simp; with_reducible rfl)); rotate_left; (· (simp only [Act.put, List.setIfInBounds_toArray, List.set_cons_zero, List.set_cons_succ, i64_w, i32_w]; rfl))
    refine take_ (i := 3) (N := some 56) (v := ?_) (a' := ?_) #[true, true, true, true, true, false, false, false, false, false, false, false, false, false, false, false, false, false] rfl rfl (take_ofW HT_.out HW_.out (by kernel_rfl)) (fun _ _ _ h => h) (Or.inl ⟨by rfl, ?_⟩) hHeld ?_ ?_; rotate_left; (· (rintro w' ⟨s0, s1, s2, s3, s4, s5, s6, s7, s8, s9, s10⟩; go_simp; with_reducible rfl)); rotate_left; (· (simp only [Act.put, List.setIfInBounds_toArray, List.set_cons_zero, List.set_cons_succ, i64_w, i32_w]; rfl))
    -- ONE 5
    refine one_ (i := 5) (N := some 58) #[true, true, true, true, true, true, false, false, false, false, false, false, false, false, false, false, false, false] rfl rfl (one_of HT_.out (by kernel_rfl)) (by decide) (fun K hK => ?_)
    refine goes_ Try.func26 (by kernel_rfl) rfl #[.slice A1 l1.length c1] (by rfl) rfl rfl (by (try simp only [List.map_toArray, List.map_cons, List.map_nil]); first | done | rfl | (simp only [List.length_drop, List.length_take]; rfl)) ?_
    with_reducible refine (dormouseref21_Cycles.calls k _ _ l1 _ _ ?s7 ?s8 AC.out).mono ?_
    (case s7 => exact Kd.C_below HR1.out HB.out)
    (case s8 => exact HC1.out)
    rintro e w21 ⟨rfl, ⟨nd, rfl⟩⟩
    refine ⟨_, rfl, ?_⟩
    have n0_ := Aside0.mk (blk_drewN BK8.out nd); have n1_ := Aside0.mk (blk_drewN BKp.out nd); have n2_ : Aside0 (Below w.heap.size w (w20.drewN nd)) := ⟨by repeat (first | (with_reducible exact HB.out) | (with_reducible first | apply below_alloc | apply pw_below_drewN | apply below_drew1))⟩; clear BK8 BKp HB; have BK8 := n0_; have BKp := n1_; have HB := n2_; clear n0_ n1_ n2_
    generalize w20.drewN nd = w21 at BK8 BKp HB ⊢
    refine hK.out _ _ ⟨(blk_cell BK8.out 3).trans rfl, (blk_cell BK8.out 4).trans rfl, (blk_cell BKp.out 0).trans rfl, (blk_cell BKp.out 1).trans rfl, (blk_cell BKp.out 2).trans rfl, (blk_cell BKp.out 3).trans rfl, (blk_cell BKp.out 4).trans rfl, (blk_cell BKp.out 5).trans rfl, (blk_cell BKp.out 6).trans rfl, (blk_cell BKp.out 7).trans rfl, (blk_cell BKp.out 8).trans rfl⟩ (fun hHeld => ?_)
    clear hK K
    refine norm_ (a' := ?_) ?_ ?_
    rotate_left
    · show Act.put _ (some 58) _ = _
      simp only [Act.put, List.setIfInBounds_toArray, List.set_cons_zero, List.set_cons_succ, i64_w, i32_w]
      rfl
    refine pure_ (i := 6) (N := some 59) (v := ?_) (a' := ?_) #[true, true, true, true, true, true, true, false, false, false, false, false, false, false, false, false, false, false] rfl rfl (any_of HT_.out (by kernel_rfl)) (fun _ _ _ h => h) (Or.inl ⟨by rfl, ?_⟩) ?_ ?_; rotate_left; (· (intro w'; go_simp; with_reducible rfl)); rotate_left; (· (simp only [Act.put, List.setIfInBounds_toArray, List.set_cons_zero, List.set_cons_succ, i64_w, i32_w]; rfl))
    refine pure_ (i := 7) (N := some 60) (v := ?_) (a' := ?_) #[true, true, true, true, true, true, true, true, false, false, false, false, false, false, false, false, false, false] rfl rfl (any_of HT_.out (by kernel_rfl)) (fun _ _ _ h => h) (Or.inl ⟨by rfl, ?_⟩) ?_ ?_; rotate_left; (· (intro w'; go_simp; with_reducible rfl)); rotate_left; (· (simp only [Act.put, List.setIfInBounds_toArray, List.set_cons_zero, List.set_cons_succ, i64_w, i32_w]; rfl))
    refine pure_ (i := 8) (N := some 61) (v := ?_) (a' := ?_) #[true, true, true, true, true, true, true, true, true, false, false, false, false, false, false, false, false, false] rfl rfl (any_of HT_.out (by kernel_rfl)) (fun _ _ _ h => h) (Or.inl ⟨by rfl, ?_⟩) ?_ ?_; rotate_left; (· (intro w'; go_simp; with_reducible rfl)); rotate_left; (· (simp only [Act.put, List.setIfInBounds_toArray, List.set_cons_zero, List.set_cons_succ, i64_w, i32_w]; rfl))
    refine pure_ (i := 9) (N := some 62) (v := ?_) (a' := ?_) #[true, true, true, true, true, true, true, true, true, true, false, false, false, false, false, false, false, false] rfl rfl (any_of HT_.out (by kernel_rfl)) (fun _ _ _ h => h) (Or.inl ⟨by rfl, ?_⟩) ?_ ?_; rotate_left; (· (intro w'; go_simp; with_reducible rfl)); rotate_left; (· (simp only [Act.put, List.setIfInBounds_toArray, List.set_cons_zero, List.set_cons_succ, i64_w, i32_w]; rfl))
    refine pure_ (i := 12) (N := some 65) (v := ?_) (a' := ?_) #[true, true, true, true, true, true, true, true, true, true, false, false, true, false, false, false, false, false] rfl rfl (any_of HT_.out (by kernel_rfl)) (fun _ _ _ h => h) (Or.inl ⟨by rfl, ?_⟩) ?_ ?_; rotate_left; (· (intro w'; go_simp; with_reducible rfl)); rotate_left; (· (simp only [Act.put, List.setIfInBounds_toArray, List.set_cons_zero, List.set_cons_succ, i64_w, i32_w]; rfl))
    refine take_ (i := 10) (N := some 63) (v := ?_) (a' := ?_) #[true, true, true, true, true, true, true, true, true, true, true, false, true, false, false, false, false, false] rfl rfl (take_ofW HT_.out HW_.out (by kernel_rfl)) (fun _ _ _ h => h) (Or.inl ⟨by rfl, ?_⟩) hHeld ?_ ?_; rotate_left; (· (rintro w' ⟨s0, s1, s2, s3, s4, s5, s6, s7, s8, s9, s10⟩; go_simp; with_reducible rfl)); rotate_left; (· (simp only [Act.put, List.setIfInBounds_toArray, List.set_cons_zero, List.set_cons_succ, i64_w, i32_w]; rfl))
    refine take_ (i := 11) (N := some 64) (v := ?_) (a' := ?_) #[true, true, true, true, true, true, true, true, true, true, true, true, true, false, false, false, false, false] rfl rfl (take_ofW HT_.out HW_.out (by kernel_rfl)) (fun _ _ _ h => h) (Or.inl ⟨by rfl, ?_⟩) hHeld ?_ ?_; rotate_left; (· (rintro w' ⟨s0, s1, s2, s3, s4, s5, s6, s7, s8, s9, s10⟩; go_simp; with_reducible rfl)); rotate_left; (· (simp only [Act.put, List.setIfInBounds_toArray, List.set_cons_zero, List.set_cons_succ, i64_w, i32_w]; rfl))
    -- ONE 13
    refine one_ (i := 13) (N := some 66) #[true, true, true, true, true, true, true, true, true, true, true, true, true, true, false, false, false, false] rfl rfl (one_of HT_.out (by kernel_rfl)) (by decide) (fun K hK => ?_)
    refine goes_ Try.func27 (by kernel_rfl) rfl #[.agg #[.slice A0_0 l0_0.length c0_0, .slice A0_1 l0_1.length c0_1, .slice A0_2 l0_2.length c0_2, .int .i64 a0_3, .int .i64 a0_4, .int .i64 a0_5, .int .i64 a0_6, .int .i64 a0_7, .int .i64 a0_8], .slice A1 l1.length c1] (by rfl) rfl rfl (by (try simp only [List.map_toArray, List.map_cons, List.map_nil]); first | done | rfl | (simp only [List.length_drop, List.length_take]; rfl)) ?_
    with_reducible refine (dormouseref21_Sum.calls k _ _ l0_0 _ _ l0_1 _ _ l0_2 a0_3 a0_4 a0_5 a0_6 a0_7 a0_8 _ _ l1 _ _ _ _ _ ?s1 ?s2 ?s3 ?s4 ?s5 ?s6 ?s7 ?s8 AS.out).mono ?_
    (case s1 => exact Kd.C_below HR0_0.out HB.out)
    (case s2 => exact HC0_0.out)
    (case s3 => exact Kd.C_below HR0_1.out HB.out)
    (case s4 => exact HC0_1.out)
    (case s5 => exact Kd.C_below HR0_2.out HB.out)
    (case s6 => exact HC0_2.out)
    (case s7 => exact Kd.C_below HR1.out HB.out)
    (case s8 => exact HC1.out)
    rintro e w22 ⟨rfl, hb⟩
    refine ⟨_, rfl, ?_⟩
    have n0_ := Aside0.mk (blk_below BK8.out hb); have n1_ := Aside0.mk (blk_below BKp.out hb); have n2_ := Aside0.mk (below_step HB.out hb); clear BK8 BKp HB hb; have BK8 := n0_; have BKp := n1_; have HB := n2_; clear n0_ n1_ n2_
    refine hK.out _ _ ⟨(blk_cell BK8.out 3).trans rfl, (blk_cell BK8.out 4).trans rfl, (blk_cell BKp.out 0).trans rfl, (blk_cell BKp.out 1).trans rfl, (blk_cell BKp.out 2).trans rfl, (blk_cell BKp.out 3).trans rfl, (blk_cell BKp.out 4).trans rfl, (blk_cell BKp.out 5).trans rfl, (blk_cell BKp.out 6).trans rfl, (blk_cell BKp.out 7).trans rfl, (blk_cell BKp.out 8).trans rfl⟩ (fun hHeld => ?_)
    clear hK K
    refine norm_ (a' := ?_) ?_ ?_
    rotate_left
    · show Act.put _ (some 66) _ = _
      simp only [Act.put, List.setIfInBounds_toArray, List.set_cons_zero, List.set_cons_succ, i64_w, i32_w]
      rfl
    refine pure_ (i := 14) (N := some 67) (v := ?_) (a' := ?_) #[true, true, true, true, true, true, true, true, true, true, true, true, true, true, true, false, false, false] rfl rfl (any_of HT_.out (by kernel_rfl)) (fun _ _ _ h => h) (Or.inl ⟨by rfl, ?_⟩) ?_ ?_; rotate_left; (· (intro w'; go_simp; with_reducible rfl)); rotate_left; (· (simp only [Act.put, List.setIfInBounds_toArray, List.set_cons_zero, List.set_cons_succ, i64_w, i32_w]; rfl))
    refine pure_ (i := 15) (N := some 68) (v := ?_) (a' := ?_) #[true, true, true, true, true, true, true, true, true, true, true, true, true, true, true, true, false, false] rfl rfl (any_of HT_.out (by kernel_rfl)) (fun _ _ _ h => h) (Or.inl ⟨by rfl, ?_⟩) ?_ ?_; rotate_left; (· (intro w'; go_simp; with_reducible rfl)); rotate_left; (· (simp only [Act.put, List.setIfInBounds_toArray, List.set_cons_zero, List.set_cons_succ, i64_w, i32_w]; rfl))
    refine pure_ (i := 16) (N := some 69) (v := ?_) (a' := ?_) #[true, true, true, true, true, true, true, true, true, true, true, true, true, true, true, true, true, false] rfl rfl (any_of HT_.out (by kernel_rfl)) (fun _ _ _ h => h) (Or.inl ⟨by rfl, ?_⟩) ?_ ?_; rotate_left; (· (intro w'; go_simp; with_reducible rfl)); rotate_left; (· (simp only [Act.put, List.setIfInBounds_toArray, List.set_cons_zero, List.set_cons_succ, i64_w, i32_w]; rfl))
    refine pure_ (i := 17) (N := some 6) (v := ?_) (a' := ?_) #[true, true, true, true, true, true, true, true, true, true, true, true, true, true, true, true, true, true] rfl rfl (any_of HT_.out (by kernel_rfl)) (fun _ _ _ h => h) (Or.inl ⟨by rfl, ?_⟩) ?_ ?_; rotate_left; (· (intro w'; go_simp; with_reducible rfl)); rotate_left; (· (simp only [Act.put, List.setIfInBounds_toArray, List.set_cons_zero, List.set_cons_succ, i64_w, i32_w]; rfl))
    refine done_ (done_of HT_.out (by kernel_rfl)) ?_
    try go_wp2
    go_ret
    exact ⟨by first | rfl | simp, HB.out⟩
  obtain ⟨ad, e1, hx0, hx1, hx2, hx3, hx4, hx5⟩ := at_T28 HR1.out i hi0 c
  cases e1
  have hw0 := (HB.out.cell (World.block_lt_of_cell? w _ hx0)).trans hx0
  have hw4 := (HB.out.cell (World.block_lt_of_cell? w _ hx4)).trans hx4
  clear hx0 hx1 hx2 hx3 hx4 hx5
  have c0 : decide (i < (l1.length : Int)) = true := decide_eq_true c
  have p0 := eq_true hi0
  have q0 := eq_true c
  cases gk with
  | zero => exact absurd HI.out.2 (by omega)
  | succ k1 =>
  have HI1 : Aside0 (0 ≤ i + 1 ∧ (k1 : Int) + (i + 1) = l1.length + 1) := ⟨by have := HI.out.2; omega⟩
  have next : wrap64 (i + 1) = i + 1 := wrap_id (by omega) (by have := LN.out.1; omega)
  by_cases kr : (rd_T28 l1 i).f0 = 1
  case neg =>
    have kb : ((rd_T28 l1 i).f0 == 1) = false := beq_eq_false_iff_ne.mpr kr
    go_wp2
    go_roundg k1
    case measure => omega
    case rel => exact ⟨i + 1, by first | rfl | rw [next], HI1, ⟨fun j j0 j1 => if e : j = i then (by rw [e]; exact fun q => absurd q kr) else HO.out j j0 (by omega)⟩, ⟨BKp.out⟩, ⟨HB.out⟩⟩
  have krb : ((rd_T28 l1 i).f0 == 1) = true := beq_iff_eq.mpr kr
  have hkr := Aside0.mk kr
  clear kr
  by_cases t1 : (rd_T28 l1 i).f4 < 0
  · have t1b : decide ((rd_T28 l1 i).f4 < 0) = true := decide_eq_true t1
    go_wp2_with (first | ((with_reducible refine gate_callee (f := 21) rfl ?_); refine goesL_ (some 47) rfl rfl Try.func21 (by kernel_rfl) rfl #[] rfl (by (try simp only [List.map_toArray, List.map_cons, List.map_nil]); first | done | rfl | (simp only [List.length_drop, List.length_take]; rfl)) ?_; (with_reducible refine (answers26.calls _).mono ?_); rintro e w30 ⟨rfl, hb⟩; refine ⟨_, rfl, ?_⟩))
    go_ret
    exact ⟨rfl, below_step HB.out hb⟩
  have t1b : decide ((rd_T28 l1 i).f4 < 0) = false := decide_eq_false t1
  by_cases t2 : 6 ≤ (rd_T28 l1 i).f4
  · have t2b : decide (6 ≤ (rd_T28 l1 i).f4) = true := decide_eq_true t2
    go_wp2_with (first | ((with_reducible refine gate_callee (f := 21) rfl ?_); refine goesL_ (some 47) rfl rfl Try.func21 (by kernel_rfl) rfl #[] rfl (by (try simp only [List.map_toArray, List.map_cons, List.map_nil]); first | done | rfl | (simp only [List.length_drop, List.length_take]; rfl)) ?_; (with_reducible refine (answers26.calls _).mono ?_); rintro e w30 ⟨rfl, hb⟩; refine ⟨_, rfl, ?_⟩))
    go_ret
    exact ⟨rfl, below_step HB.out hb⟩
  have t2b : decide (6 ≤ (rd_T28 l1 i).f4) = false := decide_eq_false t2
  have HT := Aside0.mk (show (0 : Int) ≤ (rd_T28 l1 i).f4 ∧ (rd_T28 l1 i).f4 < 6 from ⟨by omega, by omega⟩)
  clear t1 t2
  go_wp2
  go_roundg k1
  case measure => omega
  case rel => exact ⟨i + 1, by first | rfl | rw [next], HI1, ⟨fun j j0 j1 => if e : j = i then (by rw [e]; exact fun _ => HT.out) else HO.out j j0 (by omega)⟩, ⟨BKp.out⟩, ⟨HB.out⟩⟩
end Go.Proofs.Ytfimgecceneagaa.PAll
